/-Plain:bounds and first facts of the values that curves are judged by. -/
import Derived.Test.YtegpmhlfjkhjmaaGreatYmJ
namespace Go.Proofs.YtegpmhlfjkhjmaaGreat
open Go Go.RowKit
variable {a:Act}{args cap:Array Operand}{at_:Array TypeId}{k:Ci}{f:FuncId}{ki yk:IntKind}{tm tm0:List (Nat×DV)}{K:List (Nat×DV)→Prop}{bx:List (Nat×TypeId×List CellD)}{cs cs0 cs1 us ys zs zs':List CellD}{ds rs:List D0}{C:List Nat}{os pre tail:List Oper}{vl vs:List Value}{l:Ln}{N b by_ i id m n off t:Nat}{β:Nat→Nat}{L V:Nat→Prop}{fo h x x0 y:Operand}{p q:Pt}{c:Rat}{U e e2 xt yt:TypeId}{v:Value}{w w':World}
variable {ty:TypeId}{pos:String}{af:Array Edge}{g:Option (Nat×Bool)}{dst:Option Nat}
theorem nD:type_of% @List.mem_singleton:=@List.mem_singleton
theorem rF:type_of% @Option.none_or:=@Option.none_or
theorem AL:type_of% @Rat.mul_eq_zero:=@Rat.mul_eq_zero
theorem vZ (A B C D M N:Rat): -1≤fD A B C D M N∧fD A B C D M N≤1:=by
 unfold fD
 split
 ·decide
 ·exact Lf (ip _ _ _) (jO (ip _ _ _) (d6 _ _)) (ip _ _ _)
theorem W4 (a b c:Rat): -1≤s3 a b c∧s3 a b c≤1:=by
 unfold s3
 have h1:=d6 a 0
 have h2:=d6 b 0
 grind
theorem fE (p q:Pt): -1≤cx p q∧cx p q≤1:=vZ _ _ _ _ _ _
theorem aby (p q:Pt): -1≤cP p q∧cP p q≤1:=by
 unfold cP th
 split
 ·exact vZ _ _ _ _ _ _
 ·exact vZ _ _ _ _ _ _
theorem acP {k:Nat}{b:Rat}(h:Rz k b) (hk:1≤k):Rz k (rB b c):=by
 unfold rB
 split
 ·exact dJ hk
 ·exact h
theorem aaz {k:Nat}{b:Rat}(h:Rz k c) (hk:1≤k):Rz k (rC b c):=by
 unfold rC
 split
 ·exact dJ hk
 ·exact h
theorem y6 {x:Int}(h: -1000000000<x) (h':x<1000000000):Sz 1 x:=by
 have e:pw 1=1000000000:=by decide+kernel
 exact⟨by omega,by omega⟩
theorem xv {n:Int}(h: -1≤n∧n≤1):IntKind.i64.wrap (0-n)= -n:=by rw[Int.zero_sub];exact pK (by omega) (by omega)
theorem adB (h:(cx p q !=0)=true):cP p q=cx p q:=Uo h
theorem adu (h:(cx p q !=0)=false):cP p q=cy p q:=U6 h
theorem Wg (h:decide (sY p k.y>0)=true):lj k p=true:=by unfold lj;rw[h];rfl
theorem Ox (h:decide (sY p k.y>0)=false) (g:(sY p k.y==0)=false):lj k p=false:=by unfold lj;rw[h,g];rfl
theorem KN (h:decide (sY p k.y>0)=false) (g:(sY p k.y==0)=true):lj k p=decide (mO p k.x>0):=by unfold lj;rw[h,g];rfl
theorem To (h:(!(lj k p==lj k q))=true) (g:lj k q=true):fJ k p q= -1:=by
 unfold fJ;rw[show(lj k p !=lj k q)=true from h,if_pos rfl,g,if_pos rfl]
theorem Qe (h:(!(lj k p==lj k q))=true) (g:lj k q=false):fJ k p q=1:=by
 unfold fJ;rw[show(lj k p !=lj k q)=true from h,if_pos rfl,g];rfl
theorem Ql (h:(!(lj k p==lj k q))=false) (g:lj k p=true):fJ k p q= -cx p q:=by
 unfold fJ;rw[show(lj k p !=lj k q)=false from h,if_neg (by decide),g,if_pos rfl]
theorem QB (h:(!(lj k p==lj k q))=false) (g:lj k p=false):fJ k p q=cx p q:=by
 unfold fJ;rw[show(lj k p !=lj k q)=false from h,if_neg (by decide),g];rfl
theorem aa7 {f:Pt}(h:(!(decide (fJ k p f<0)==decide (fJ k q f<0)))=true) (g:decide (fJ k q f<0)=true):sB k f p q= -1:=by
 unfold sB;rw[show(decide (fJ k p f<0) !=decide (fJ k q f<0))=true from h,if_pos rfl,g,if_pos rfl]
theorem X1 {f:Pt}(h:(!(decide (fJ k p f<0)==decide (fJ k q f<0)))=true) (g:decide (fJ k q f<0)=false):sB k f p q=1:=by
 unfold sB;rw[show(decide (fJ k p f<0) !=decide (fJ k q f<0))=true from h,if_pos rfl,g];rfl
theorem aa2 {f:Pt}(h:(!(decide (fJ k p f<0)==decide (fJ k q f<0)))=false):sB k f p q=fJ k p q:=by
 unfold sB;rw[show(decide (fJ k p f<0) !=decide (fJ k q f<0))=false from h];rfl
theorem Zu {f t:Pt}(h:decide (cP f t>0)=true):(Cv.seg l f t).ord p q= -cP p q:=by
 show(if _ then _ else _)=_
 grind
theorem Zx {f t:Pt}(h:decide (cP f t>0)=false):(Cv.seg l f t).ord p q=cP p q:=by
 show(if _ then _ else _)=_
 grind
theorem Zh {w:Bool}{f t:Pt}(h:(!w)=true):(Cv.arc k w f t).ord p q=sB k f p q:=by
 show(if _ then _ else _)=_
 grind
theorem Yw {w:Bool}{f t:Pt}(h:(!w)=false):(Cv.arc k w f t).ord p q=sB k.mir f.flip p.flip q.flip:=by
 show(if _ then _ else _)=_
 grind
theorem X7 {c:Cv}(h:c.supp p=false):c.on p=false:=by unfold Cv.on;rw[h];rfl
theorem W1 {c:Cv}(h:c.supp p=true) (g:decide (c.ord c.p p≤0)=false):c.on p=false:=by unfold Cv.on;rw[h,g];rfl
theorem WB {c:Cv}(h:c.supp p=true) (g:decide (c.ord c.p p≤0)=true):c.on p=decide (c.ord p c.q≤0):=by unfold Cv.on;rw[h,g];rfl
theorem YO (h:uU p.b1 p.b2 p.c=true) (hs:je p.c=true):p.b1=0∧p.b2=0∧p.c=0:=by
 unfold uU at h
 split at h
 ·grind
 grind
theorem X0 (h:uU p.b1 p.b2 p.c=true) (hs:je p.c=true):vA l p+vB l p*rt p.c=vA l p∧0=rB (vB l p) p.c∧0=rC (vB l p) p.c:=by
 obtain⟨h1,h2,h3⟩:=YO h hs
 have hb:vB l p=0:=by unfold vB;rw[h1,h2];grind
 rw[hb]
 exact⟨by grind,(TO (.inl rfl)).symm,(TK (.inl rfl)).symm⟩
theorem PH (hl:GL l) (hp:GP p):Rz 1000 (vA l p):=(((hl.a.mul hp.a1).add (hl.b.mul hp.a2)).sub hl.c).mono (by decide)
theorem RR (hl:GL l) (hp:GP p):Rz 1000 (vB l p):=((hl.a.mul hp.b1).add (hl.b.mul hp.b2)).mono (by decide)
theorem OV (hk:GK k) (hp:GB p):Rz 40002 (p.a1-k.x)∧Rz 40002 (p.a2-k.y):=⟨(hp.a1.sub hk.x).mono (by decide),(hp.a2.sub hk.y).mono (by decide)⟩
theorem OK (hk:GK k) (hp:GB p):Rz 400000 (Jv (p.a1-k.x) (p.a2-k.y) p.b1 p.b2 p.c):=by
 obtain⟨h1,h2⟩:=OV hk hp
 exact((((h1.mul h1).add (h2.mul h2)).add (((hp.b1.mul hp.b1).add (hp.b2.mul hp.b2)).mul hp.c))).mono (by decide)
theorem QY (hk:GK k) (hp:GB p):Rz 400010 (G5 k p):=((OK hk hp).add hk.q.neg).mono (by decide)
theorem Rm (hk:GK k) (hp:GB p):Rz 400000 (DY k p):=by
 obtain⟨h1,h2⟩:=OV hk hp
 exact(((h1.mul hp.b1).add (h2.mul hp.b2)).add ((h1.mul hp.b1).add (h2.mul hp.b2))).mono (by decide)
theorem Uz (x:Rat):0≤x*x:=by
 rcases Rat.le_total (a:=0) (b:=x) with h|h
 ·exact jo h h
 ·have:=jo (a:= -x) (b:= -x) (by grind) (by grind);grind
theorem WH {x:Rat}(h:x*x=0):x=0:=by
 by_cases e:x=0
 ·exact e
 ·exact absurd (AL.1 h) (by simp[e])
theorem ab5 {x y:Rat}(h:x*x+y*y=0):x=0∧y=0:=by
 have h1:=Uz x
 have h2:=Uz y
 exact⟨WH (by grind),WH (by grind)⟩
theorem AH {x:Rat}:aM x 0=0↔x=0:=by
 unfold aM
 constructor
 ·grind
 grind
theorem p6 (x:Rat):aM x x=0:=by unfold aM;rw[if_neg (by grind),if_neg (by grind)]
theorem QX {x:Rat}(h: ¬aM x 0<0):0≤x:=by
 unfold aM at h
 split at h
 ·grind
 grind
theorem sT {x:Rat}(h: ¬aM x 0<0) (g: ¬aM x 0=0):0<x:=by
 have h1:=QX h
 have h2:x≠0:=fun e=>g (AH.2 e)
 grind
theorem LG {k:Nat}{x:Int}(h:Sz (k+k) x):Sz k (bY x):=by
 have h0:=fg x
 rcases np x 0 with hx|hx
 ·rw[vz hx]
  have:=db k
  exact⟨by omega,by omega⟩
 ·have h1:=rJ hx
  have h2:pw (k+k)=pw k*pw k:=qY k k
  have h3:=h.lt
  have h4:=db k
  refine⟨?_,by omega⟩
  rcases np (bY x) (pw k) with g|g
  ·exact g
  ·have h5:pw k*pw k≤bY x*bY x:=rm g g (by omega) h0
   omega
theorem RX {k:Nat}(h:Rz (k+k) c):Rz k (rt c):=Rz.of (LG h.n) (LG h.d) (by have:=yO (den_pos c);omega)
theorem xf {a1 b1 a2 b2:Rat}(h1:Rz 52 a1) (h2:Rz 21 b1) (h3:Rz 52 a2) (h4:Rz 21 b2) (h5:Rz 78 c) (h0:0<c) (hb: ¬(b1=0∧b2=0)):GP (fV a1 b1 a2 b2 c):=by
 unfold fV
 cases hs:je c with
 |true=>
  exact GP.rat ((h1.add (h2.mul (RX (k:=39) h5))).mono (by decide)) ((h3.add (h4.mul (RX (k:=39) h5))).mono (by decide))
 |false=>
  refine⟨h1.mono (by decide),h2.mono (by decide),h3.mono (by decide),h4.mono (by decide),h5.mono (by decide),fun _=>⟨h1,h3⟩,?_⟩
  unfold uU
  grind
section
variable {l m:Ln}{k d:Ci}
theorem pO (hl:GL l) (hk:GK k):Rz 29 (nL l k.x k.y):=(((hl.a.mul hk.x).add (hl.b.mul hk.y)).sub hl.c).mono (by decide)
theorem mU (hl:GL l):Rz 17 (fi l):=((hl.a.mul hl.a).add (hl.b.mul hl.b)).mono (by decide)
theorem Jb (hl:GL l) (hk:GK k):Rz 46 (nL l k.x k.y/fi l):=(pO hl hk).div (mU hl) hl.n
theorem kv (hl:GL l) (hk:GK k):Rz 52 (nF l k):=(hk.x.sub ((Jb hl hk).mul hl.a)).mono (by decide)
theorem j7 (hl:GL l) (hk:GK k):Rz 52 (nC l k):=(hk.y.sub ((Jb hl hk).mul hl.b)).mono (by decide)
theorem yI (hl:GL l) (hk:GK k):Rz 78 (mq l k):=(((mU hl).mul hk.q).sub ((pO hl hk).mul (pO hl hk))).mono (by decide)
theorem Ir (hl:GL l):Rz 21 (l.b/fi l):=(hl.b.div (mU hl) hl.n).mono (by decide)
theorem IN (hl:GL l):Rz 21 (-l.a/fi l):=(hl.a.neg.div (mU hl) hl.n).mono (by decide)
theorem Xc (hl:GL l): ¬(l.b/fi l=0∧ -l.a/fi l=0):=by
 rintro⟨h1,h2⟩
 have hn:=hl.n
 refine hn ?_
 unfold fi
 grind
theorem Kl (hl:GL l) (hk:GK k) (h: ¬aM (mq l k) 0<0) (g: ¬aM (mq l k) 0=0):GP (Ll l k):=
 xf (kv hl hk) (Ir hl) (j7 hl hk) (IN hl) (yI hl hk) (sT h g) (Xc hl)
theorem J1 (hl:GL l) (hk:GK k) (h: ¬aM (mq l k) 0<0) (g: ¬aM (mq l k) 0=0):GP (MT l k):=
 xf (kv hl hk) (Ir hl).neg (j7 hl hk) (IN hl).neg (yI hl hk) (sT h g) (fun e=>Xc hl ⟨by grind,by grind⟩)
theorem Nw (hl:GL l) (hk:GK k): ∀p∈jd l k,GP p:=by
 intro p hp
 unfold jd at hp
 split at hp
 ·grind
 ·rename_i h
  split at hp
  ·rw[nD] at hp;subst hp
   exact GP.rat ((kv hl hk).mono (by decide)) ((j7 hl hk).mono (by decide))
  ·rename_i g
   split at hp
   ·rcases dD.1 hp with e|e
    ·rw[e];exact Kl hl hk h g
    ·rw[nD] at e;rw[e];exact J1 hl hk h g
   ·rcases dD.1 hp with e|e
    ·rw[e];exact J1 hl hk h g
    ·rw[nD] at e;rw[e];exact Kl hl hk h g
theorem wv (hk:GK k):Rz 8 (CC k):=(((hk.x.mul hk.x).add (hk.y.mul hk.y)).sub hk.q).mono (by decide)
theorem Ga:Rz 1 (2:Rat):=⟨by rw[show(2:Rat).num=2 from rfl];exact y6 (by decide) (by decide),by rw[show((2:Rat).den:Int)=1 from rfl];exact Sz.one (by decide)⟩
theorem ub (hk:GK k) (hd:GK d) (h:pT k d=false):GL (mQ k d):=by
 refine⟨(Ga.mul (hd.x.sub hk.x)).mono (by decide),(Ga.mul (hd.y.sub hk.y)).mono (by decide),((wv hd).sub (wv hk)).mono (by decide),fun e=>?_⟩
 have e1:=ab5 (show(2*(d.x-k.x))*(2*(d.x-k.x))+(2*(d.y-k.y))*(2*(d.y-k.y))=0 from e)
 have hx:k.x=d.x:=by grind
 have hy:k.y=d.y:=by grind
 unfold pT Ad at h
 rw[hx,hy] at h
 simp[p6] at h
theorem lB (hk:GK k) (hd:GK d): ∀p∈bG k d,GP p:=by
 intro p hp
 unfold bG at hp
 split at hp
 ·grind
 ·rename_i h
  exact Nw (ub hk hd (by simpa using h)) hk p hp
end
def pD (k d:Ci):Bool:=Ad k.x d.x&&Ad k.y d.y&&Ad k.q d.q
section
variable {l m:Ln}{k d:Ci}
theorem OD (h:decide (aM (mq l k) 0<0)=true):jd l k=[]:=by unfold jd;rw[if_pos (of_decide_eq_true h)]
theorem Q8 (h:decide (aM (mq l k) 0<0)=false) (g:(aM (mq l k) 0==0)=true):jd l k=[⟨nF l k,0,nC l k,0,0⟩]:=by
 unfold jd;rw[if_neg (of_decide_eq_false h),if_pos (by simpa using g)]
theorem P6 (h:decide (aM (mq l k) 0<0)=false) (g:(aM (mq l k) 0==0)=false) (q:decide (cP (MT l k) (Ll l k)>0)=true):jd l k=[Ll l k,MT l k]:=by
 unfold jd;rw[if_neg (of_decide_eq_false h),if_neg (by simpa using g),if_pos (of_decide_eq_true q)]
theorem RP (h:decide (aM (mq l k) 0<0)=false) (g:(aM (mq l k) 0==0)=false) (q:decide (cP (MT l k) (Ll l k)>0)=false):jd l k=[MT l k,Ll l k]:=by
 unfold jd;rw[if_neg (of_decide_eq_false h),if_neg (by simpa using g),if_neg (of_decide_eq_false q)]
theorem Sv (h:pT k d=true) (g:(aM k.q d.q==0)=true):bG k d=[]∧CI k d=10:=by
 unfold bG CI;rw[if_pos h,if_pos h,if_pos (by simpa using g)];exact⟨rfl,rfl⟩
theorem PQ (h:pT k d=true) (g:(aM k.q d.q==0)=false):bG k d=[]∧CI k d=0:=by
 unfold bG CI;rw[if_pos h,if_pos h,if_neg (by simpa using g)];exact⟨rfl,rfl⟩
theorem Rf (h:pT k d=false):bG k d=jd (mQ k d) k∧CI k d=0:=by
 unfold bG CI;rw[if_neg (by rw[h];decide),if_neg (by rw[h];decide)];exact⟨rfl,rfl⟩
end
theorem RdC.clo_eq {g:FuncId}{xs:List CellD}(h:RdC V w v (.k g xs)): ∃cs:Array Value,v=.func (.func g) #[] cs∧RdCs V w cs.toList xs:=by
 cases h with
 |k _ cs _ h1 h2=>exact⟨cs,rfl,by simpa using h1,fun j v u hv hu=>h2 j v u (by simpa using hv) hu⟩
theorem RdC.ptr_eq (h:RdC V w v (.p us)):
 ∃b off,∃vs:List Value,v=.pointer (some ⟨b,off,none⟩)∧b<w.heap.size∧ ¬V b∧RdCs V w vs us∧ ∀(j:Nat) (u:Value),vs[j]? =some u→w.cell? ⟨b,off+j,none⟩=some u:=by
 cases h with
 |p b off _ cv h1 h2 h3 h4=>
  refine⟨b,off,(List.range us.length).map cv,rfl,h1,h2,⟨by simp,fun j v u hv hu=>?_⟩,fun j u hu=>?_⟩
  ·grind
  grind
section
variable {P:Program}{ops:Array Oper}{T:TF}{B:BF}
theorem mw 
 (hU:s5 P U=some (true,n)) (hx:cG T x=some (.v (.c (.p cs)))) (hu:cs.take n=us) (hn:us.length=n) (hg:gd ops ⟨dst,.load U x,ty,pos,af,g⟩ T=some true):
 Sem P ops ⟨dst,.load U x,ty,pos,af,g⟩ T B (.r (.v (.a us))):=
 bL hg (pS rfl) (fun V β a w hs=>by
  obtain⟨b,off,vs,hp,_,_,hr,hc⟩:=RdC.ptr_eq (aD hs (by simp[Op.operands]) hx)
  have hr2:=hr.take n
  rw[hu] at hr2
  have hrun:=l8 (w:=w) hU (b:=b) (off:=off) (vs:=vs.take n) (by rw[hr2.1,hn]) (fun j v hv=>by
   rw[rf] at hv
   split at hv
   ·exact hc j v hv
   ·cases hv)
  refine⟨_,?_,_,rfl,by simpa using hr2⟩
  simp only[execOp,Instr.loadAt,hp,Instr.sureAddr,fb,f6,fk,hrun])
theorem xG {u:CellD}
 (hU:s5 P U=some (false,n)) (hx:cG T x=some (.v (.c (.p cs)))) (hu:cs[0]? =some u) (hg:gd ops ⟨dst,.load U x,ty,pos,af,g⟩ T=some true):
 Sem P ops ⟨dst,.load U x,ty,pos,af,g⟩ T B (.r (.v (.c u))):=
 bL hg (pS rfl) (fun V β a w hs=>by
  obtain⟨b,off,vs,hp,_,_,hr,hc⟩:=RdC.ptr_eq (aD hs (by simp[Op.operands]) hx)
  have hlt:0<cs.length:=(jf.1 hu).1
  have hv:vs[0]? =some (vs[0]'(by rw[hr.1];exact hlt)):=f9 _
  have hrun:=l7 (P:=P) (w:=w) hU (b:=b) (off:=off) (by have:=hc 0 _ hv;simpa using this)
  refine⟨_,?_,hr.2 0 _ _ hv hu⟩
  simp only[execOp,Instr.loadAt,hp,Instr.sureAddr,fb,f6,fk,hrun])
theorem Su {k:IntKind}{m n r:Int}
 (hx:cG T x=some (.v (.c (.i k m)))) (hy:cG T y=some (.v (.c (.i yk n)))) (h0: ¬n<0) (hr:m.fdiv (2^(min n.toNat k.bits))=r) (hg:gd ops ⟨dst,.binOp .shr xt x y yt,ty,pos,af,g⟩ T=some true):
 Sem P ops ⟨dst,.binOp .shr xt x y yt,ty,pos,af,g⟩ T B (.r (.v (.c (.i k r)))):=
 bL hg (pS rfl) (fun V β a w hs=>by
  have e1:a.eval x=.int k m:=fT (aD hs (x:=x) (by simp[Op.operands]) hx)
  have e2:a.eval y=.int yk n:=fT (aD hs (x:=y) (by simp[Op.operands]) hy)
  subst hr
  exact⟨.int k (m.fdiv (2^(min n.toNat k.bits))),by simp[execOp,e1,e2,eqGuard,binOp,Op.shift,h0],.i _ _⟩)
def M2 (T:TF):List Operand→Option (List CellD)
 |[]=>some []
 |x::xs=>match cG T x,M2 T xs with
  |some (.v (.c u)),some us=>some (u::us)
  |_,_=>none
theorem Bi {o:Oper}{V:Nat→Prop}{β:Nat→Nat}{a:Act}{w:World}(hs:Sees V (iN ops o) T B β a w): ∀(xs:List Operand) (us:List CellD),(∀x∈xs,x∈o.op.operands)→M2 T xs=some us→RdCs V w (xs.map a.eval) us
 |[],us,_,h=>by injection h with h;subst h;exact uN
 |x::xs,us,hx,h=>by
  unfold M2 at h
  split at h
  ·rename_i u us' hu hus
   injection h with h
   subst h
   exact uJ (aD hs (hx x (by simp)) hu) (Bi hs xs us' (fun y hy=>hx y (by simp[hy])) hus)
  ·cases h
theorem qR 
 (ha:M2 T cap.toList=some us) (hg:gd ops ⟨dst,.makeFunc (.func f) #[] cap,ty,pos,af,g⟩ T=some true):
 Sem P ops ⟨dst,.makeFunc (.func f) #[] cap,ty,pos,af,g⟩ T B (.r (.v (.c (.k f us)))):=
 bL hg (pS rfl) (fun V β a w hs=>by
  have h2:=Bi hs cap.toList us (fun x hx=>by have hx2:=Array.mem_toList_iff.1 hx;simp[Op.operands,hx2]) ha
  refine⟨.func (.func f) #[] (cap.map a.eval),by simp[execOp,Instr.makeFunc],.k f _ us (by have:=h2.1;simpa using this) (fun j v u hv hu=>h2.2 j v u ?_ hu)⟩
  rw[←xY,tU];exact hv)
theorem RdL.append {V:Nat→Prop}{w:World}: ∀ {vs vs':List Value}{ds ds':List D0},RdL V w vs ds→RdL V w vs' ds'→RdL V w (vs++vs') (ds++ds')
 |[],vs',[],ds',_,h'=>h'
 |[],_,_::_,_,h,_=>by have:=h.1;simp at this
 |_::_,_,[],_,h,_=>by have:=h.1;simp at this
 |v::vs,vs',d::ds,ds',h,h'=>by
  obtain⟨h1,h2⟩:=h.uncons
  exact s9 h1 (RdL.append h2 h')
theorem RdCs.toL (h:RdCs V w vs us):RdL V w vs (us.map .c):=by
 refine⟨by simp[h.1],fun j v d hv hd=>?_⟩
 rw[sM] at hd
 cases hu:us[j]? with
 |none=>rw[hu] at hd;cases hd
 |some u=>rw[hu] at hd;injection hd with hd;subst hd;exact h.2 j v u hv hu
theorem p9 
 (hf:cG T fo=some (.v (.c (.k f us)))) (ha:qi T args.toList=some ds) (hok:Ok P f (ds++us.map .c) rs) (hg:gd ops ⟨dst,.call ⟨.value fo,args,at_⟩,ty,pos,af,g⟩ T=some true):
 Sem P ops ⟨dst,.call ⟨.value fo,args,at_⟩,ty,pos,af,g⟩ T B (.r (xF rs)):=by
 refine⟨pS (by unfold xF;split<;>rfl),fun V β a w hs=>⟨ez hs hg,?_⟩⟩
 obtain⟨cs,h1,h1r⟩:=RdC.clo_eq (aD hs (x:=fo) (by simp[Op.operands,Call.operands]) hf)
 have h2:=jq hs args.toList ds (fun x hx=>by have hx2:=Array.mem_toList_iff.1 hx;simp[Op.operands,Call.operands,hx2]) ha
 have hc:=hok.cal
 unfold fK at hc
 cases hfn:P.funcs[f]? with
 |none=>rw[hfn] at hc;cases hc
 |some fn=>
  rw[hfn] at hc
  simp only[dL,bne_iff_ne,ne_eq,qu] at hc
  have hrun:(execOp a.eval ⟨dst,.call ⟨.value fo,args,at_⟩,ty,pos,af,g⟩).run P w=.ok (.enter f (args.map a.eval++cs)) w:=by
   have hb2:fn.body≠none:=by have:=hc.2;cases hbb:fn.body with
    |none=>rw[hbb] at this;cases this
    |some c=>simp
   simp[execOp,resolve,h1,Deferred.ofValue,invoke,callFunc,program,Sem.run,hfn,hc.1,hb2]
  unfold Gives
  rw[hrun]
  refine(hok.run V (args.map a.eval++cs) w hs.av (by rw[Array.toList_append,xY];exact h2.append h1r.toL)).mono ?_
  rintro e w' ⟨v,rfl,hr,hb⟩
  refine⟨v,rfl,?_,hb⟩
  unfold Wx at hr
  split at hr
  ·exact hr
  ·rename_i hne
   have e2:xF rs=.t rs:=by
    unfold xF
    grind
   rw[e2];exact hr
end
section
variable {P:Program}{σ:St}{Q:Exit→St→Prop}
theorem kO {c:Code}{k:Nat}
 (ht:aF t tm=some (.p k 0)) (hb:aF k bx=some (U,cs))
 (h:Dw P c ⟨N,(t,.v (.c (.p cs)))::lF k tm,jY k bx⟩ Q):Dw P c ⟨N,tm,bx⟩ Q:=fun av w0 β a w hr=>by
 obtain⟨v,hv,hx⟩:=hr.sees.tmp t _ trivial ht
 have hx:v=.pointer (some ⟨β k,0,none⟩):=hx
 subst hx
 obtain⟨hvk,vs,ev,hrd⟩:=hr.sees.box k U cs hb
 have hk0:(St.B ⟨N,tm,bx⟩) k≠none:=by rw[show(St.B ⟨N,tm,bx⟩) k=some (U,cs) from hb];simp
 have e:=Gy hr hk0
 have hkeep:Keep (fun b=>av b∨ ∃l,(St.B ⟨N,tm,bx⟩) l≠none∧β l=b) (fun b=>(av b∨ ∃l,(St.B ⟨N,tm,bx⟩) l≠none∧β l=b)∧b≠β k) w w:=⟨Nat.le_refl _,fun _ _ _=>rfl,fun _ _ h=>h.1⟩
 have hread:RdC (fun b=>(av b∨ ∃l,(St.B ⟨N,tm,bx⟩) l≠none∧β l=b)∧b≠β k) w (.pointer (some ⟨β k,0,none⟩)) (.p cs):=by
  have hr2:=hrd.keep hkeep
  refine .p (β k) 0 cs (fun j=>vs.getD j undef) (hr.sees.av _ hvk) (fun h=>h.2 rfl) (fun j hj=>?_) (fun j u hj=>?_)
  ·rw[gV,cY ev]
   have:j<vs.size:=by have:=hrd.1;simp at this;omega
   simp[Array.getD,this]
  ·have hlt:j<cs.length:=(jf.1 hj).1
   refine hr2.2 j _ u ?_ hj
   have:j<vs.size:=by have:=hrd.1;simp at this;omega
   simp[Array.getD,this]
 have h2:=(hr.drop k).upd (t:=t) (x:=.v (.c (.p cs))) hv (by rw[e];exact hread) rfl
 refine h av w0 β a w (h2.congr (fun s=>?_) (fun l=>?_))
 ·show aF s ((t,.v (.c (.p cs)))::lF k tm)=_
  rw[bv]
  split
  ·rfl
  ·rw[mm]
   show _=oV k (fun s=>aF s tm) s
   unfold oV
   grind
 ·exact ko k l bx
end
structure OkS (P:Program) (f:FuncId) (U:TypeId) (n c:Nat) (cs0 cs1:List CellD) (ds:List D0):Prop where
 cal:fK P f=true
 run: ∀(V:Nat→Prop) (b:Nat) (bs vs:Array Value) (vl:List Value) (w:World),vs.toList=.slice (some ⟨b,0,none⟩) n c::vl→(∀x,V x→x<w.heap.size)→V b→w.heap[b]? =some (.cells bs U (0,0))→RdCs V w bs.toList cs0→RdL V w vl ds→
  Calls P f vs w fun e w'=> ∃bs':Array Value,e=.returned (.tuple #[])∧w'.heap[b]? =some (.cells bs' U (0,0))∧Mid b w w'∧RdCs V w' bs'.toList cs1
section
variable {P:Program}
theorem WG {bs vs:Array Value}{K:Nat}(hlen:ds.length+1≤N) (hK:N≤K) (hvs:vs.toList=.slice (some ⟨b,0,none⟩) n m::vl) (hV: ∀x,V x→x<w.heap.size) (hVb:V b)
 (hbl:w.heap[b]? =some (.cells bs U (0,0))) (hcs:RdCs V w bs.toList cs0) (hds:RdL V w vl ds):
 Rel (fun x=>V x∧x≠b) ⟨w,fun x=>x=b,K⟩ (St.n ⟨N,(0,.o K n m)::mZ 1 ds,[(K,U,cs0)]⟩) (St.T ⟨N,(0,.o K n m)::mZ 1 ds,[(K,U,cs0)]⟩) (St.B ⟨N,(0,.o K n m)::mZ 1 ds,[(K,U,cs0)]⟩) (fun _=>b)
  {tmps:=vs++Array.replicate (N-vs.size) undef,defers:=[]} w:=by
 have hvl:vs.size=ds.length+1:=by
  have h1:vs.toList.length=ds.length+1:=by rw[hvs,ui,hds.1]
  simpa using h1
 have hT: ∀(k:Nat) (ds:List D0) (t:Nat) (x:DV),aF t (mZ k ds)=some x→ ∃j d,t=k+j∧ds[j]? =some d∧x=.v d:=by
  intro k ds
  induction ds generalizing k with
  |nil=>intro t x h;cases h
  |cons d ds ih=>
   intro t x h
   unfold mZ at h
   rw[bv] at h
   split at h
   ·rename_i e;injection h with h;exact⟨0,d,by omega,rfl,h.symm⟩
   ·obtain⟨j,d',e1,e2,e3⟩:=ih (k+1) t x h
    exact⟨j+1,d',by omega,by simpa using e2,e3⟩
 have hT0: ∀t x,aF t ((0,DV.o K n m)::mZ 1 ds)=some x→(t=0∧x=.o K n m)∨ ∃j d,t=1+j∧ds[j]? =some d∧x=.v d:=by
  intro t x h
  rw[bv] at h
  split at h
  ·rename_i e;injection h with h;exact .inl ⟨e.symm,h.symm⟩
  ·exact .inr (hT 1 ds t x h)
 have hB: ∀k y,aF k [(K,U,cs0)]=some y→k=K∧y=(U,cs0):=by
  intro k y h
  rw[bv] at h
  split at h
  ·rename_i e;injection h with h;exact⟨e.symm,h.symm⟩
  ·cases h
 have hBn: ∀k,aF k [(K,U,cs0)]≠none→k=K:=by
  intro k hk
  cases e:aF k [(K,U,cs0)] with
  |none=>exact absurd e hk
  |some y=>exact(hB k y e).1
 have hKb:aF K [(K,U,cs0)]=some (U,cs0):=by rw[bv,if_pos rfl]
 have hkeep:Keep V (fun x=>(V x∧x≠b)∨ ∃k,(St.B ⟨N,(0,.o K n m)::mZ 1 ds,[(K,U,cs0)]⟩) k≠none∧b=x) w w:=
  ⟨Nat.le_refl _,fun _ _ _=>rfl,fun x _ hx=>by
   rcases hx with hx|⟨k,_,hx⟩
   ·exact hx.1
   ·rw[←hx];exact hVb⟩
 refine⟨rfl,by simp;omega,BelE.refl _,fun x hx=>hV x hx.1,fun x hx e=>hx.2 e,hK,fun x hx _=>hx.symm,fun k l hk hl _=>(hBn k hk).trans (hBn l hl).symm,fun k _=>.inr rfl,?_,?_,?_,?_⟩
 ·intro t x k ht hx
  rcases hT0 t x ht with⟨_,rfl⟩|⟨j,d,_,_,rfl⟩
  ·injection hx with hx
   subst hx
   show aF K [(K,U,cs0)]≠none
   rw[hKb];simp
  ·cases hx
 ·grind
 ·intro k U' cs hk
  obtain⟨rfl,e⟩:=hB k _ hk
  injection e with e1 e2
  subst e1 e2
  exact⟨.inr ⟨k,by show aF k [(k,U',cs)]≠none;rw[hKb];simp,rfl⟩,bs,hbl,hcs.keep hkeep⟩
 ·intro t x _ ht
  rcases hT0 t x ht with⟨rfl,rfl⟩|⟨j,d,e1,e2,rfl⟩
  ·have hv:vs.toList[0]? =some (.slice (some ⟨b,0,none⟩) n m):=by rw[hvs];rfl
   refine⟨.slice (some ⟨b,0,none⟩) n m,?_,rfl⟩
   grind
  ·have hlt:j<vl.length:=by rw[hds.1];exact(jf.1 e2).1
   have hv:vl[j]? =some vl[j]:=by grind
   have hv2:vs.toList[t]? =some vl[j]:=by grind
   refine⟨vl[j],?_,(hds.2 j _ d hv e2).keep hkeep⟩
   grind
theorem VJ {K:Nat}{T:TF}{B:BF}(hr:Rel (fun x=>V x∧x≠b) ⟨w,fun x=>x=b,K⟩ N T B β a w') (hbx:B K=some (U,cs1)):
 β K=b∧ ∃bs':Array Value,w'.heap[b]? =some (.cells bs' U (0,0))∧Mid b w w'∧RdCs V w' bs'.toList cs1:=by
 obtain⟨hvv,bs',ebl,hrd⟩:=hr.sees.box K U cs1 hbx
 have hBK:B K≠none:=by grind
 have hfix:β K=b:=hr.fix b rfl hBK
 rw[hfix] at ebl
 have hkeep2:Keep (fun x=>(V x∧x≠b)∨ ∃l,B l≠none∧β l=x) V w' w':=⟨Nat.le_refl _,fun _ _ _=>rfl,fun x _ hx=>by
  by_cases e:x=b
  ·grind
  ·exact .inl ⟨hx,e⟩⟩
 exact⟨hfix,bs',ebl,⟨hr.bel.os,hr.bel.tape,hr.bel.output,hr.bel.size,fun c hc hne=>hr.bel.block c hc hne⟩,hrd.keep hkeep2⟩
theorem OkS.of {fn:Func}{c:Code}{K:Nat}(hcal:fK P f=true) (hf:P.funcs[f]? =some fn) (hb:fn.body=some c) (hlen:Nat.ble (ds.length+1) fn.ntmps=true) (hK:Nat.ble fn.ntmps K=true) (hres:fn.results= #[])
 (h:Dw P c ⟨fn.ntmps,(0,.o K n m)::mZ 1 ds,[(K,U,cs0)]⟩ fun e σ=>(e=.normal∨e=.ret)∧aF K σ.bx=some (U,cs1)):OkS P f U n m cs0 cs1 ds:=by
 refine⟨hcal,fun V b bs vs vl w hvs hV hVb hbl hcs hds=>calls_of_wp hf hb ?_⟩
 refine uH ?_ (h _ _ (fun _=>b) _ w (WG (fe hlen) (fe hK) hvs hV hVb hbl hcs hds))
 rintro e a' w' ⟨σ',β',hn,⟨he,hbx⟩,hr⟩
 have hresults:(results fn a'.tmps).run P w'=.ok (.tuple #[]) w':=by
  unfold results
  rw[hres]
  simp[Array.mapM_eq_mapM_toList]
 obtain⟨_,bs',ebl,hm,hrd⟩:=VJ hr hbx
 rcases he with rfl|rfl
 ·exact⟨hr.dfr,_,hresults,bs',rfl,ebl,hm,hrd⟩
 ·exact⟨hr.dfr,_,hresults,bs',rfl,ebl,hm,hrd⟩
variable {ops:Array Oper}{T:TF}{B:BF}
theorem kP {xs:List Operand}{k c:Nat}
 (hf:cG T fo=some (.v (.c (.f f)))) (hargs:args.toList=x::xs) (hx:cG T x=some (.o k n c)) (ha:qi T xs=some ds) (hb:B k=some (U,cs0)) (hok:OkS P f U n c cs0 cs1 ds) (hg:gd ops ⟨dst,.call ⟨.value fo,args,at_⟩,ty,pos,af,g⟩ T=some true):
 Sem P ops ⟨dst,.call ⟨.value fo,args,at_⟩,ty,pos,af,g⟩ T B (.rs k U cs1 (.t [])):=by
 refine⟨rfl,⟨_,hb⟩,fun V β a w hs=>⟨ez hs hg,?_⟩⟩
 have hin: ∀y∈x::xs,y∈(⟨dst,.call ⟨.value fo,args,at_⟩,ty,pos,af,g⟩:Oper).op.operands:=fun y hy=>by
  have hx2:y∈args:=by grind
  simp[Op.operands,Call.operands,hx2]
 have h1:=RdC.func_eq (aD hs (x:=fo) (by simp[Op.operands,Call.operands]) hf)
 have h2:=jq hs xs ds (fun y hy=>hin y (fC _ hy)) ha
 have h3:a.eval x=.slice (some ⟨β k,0,none⟩) n c:=aD hs (hin x (fO ..)) hx
 obtain⟨hV,bs,e,hr⟩:=hs.box k U cs0 hb
 have hc:=hok.cal
 unfold fK at hc
 cases hfn:P.funcs[f]? with
 |none=>rw[hfn] at hc;cases hc
 |some fn=>
  rw[hfn] at hc
  simp only[dL,bne_iff_ne,ne_eq,qu] at hc
  have hrun:(execOp a.eval ⟨dst,.call ⟨.value fo,args,at_⟩,ty,pos,af,g⟩).run P w=.ok (.enter f (args.map a.eval)) w:=by
   have hb2:fn.body≠none:=by have:=hc.2;cases hbb:fn.body with
    |none=>rw[hbb] at this;cases this
    |some c=>simp
   simp[execOp,resolve,h1,Deferred.ofValue,invoke,callFunc,program,Sem.run,hfn,hc.1,hb2]
  unfold Gives
  rw[hrun]
  refine(hok.run V (β k) bs (args.map a.eval) (xs.map a.eval) w (by rw[xY,hargs,oJ,h3]) hs.av hV e hr h2).mono ?_
  rintro e w' ⟨bs',rfl,hbl,hm,hr1⟩
  exact⟨.tuple #[],rfl,bs',hbl,hm,hr1,_,rfl,RdL.nil⟩
end
section
variable {P:Program}{ops:Array Oper}{T:TF}{B:BF}
theorem rK {k c q:Nat}
 (hU:tF P U=some m) (hx:cG T x=some (.o k n c)) (hh:cG T h=some (.v (.c (.i ki q)))) (hq:q≤n) (hnc:n≤c) (hg:gd ops ⟨dst,.slice U x (some h) none none,ty,pos,af,g⟩ T=some true):
 Sem P ops ⟨dst,.slice U x (some h) none none,ty,pos,af,g⟩ T B (.r (.w k (if q<c then q*m else 0) (n-q) (c-q))):=
 bL hg (fun k' e=>by
  obtain rfl:k=k':=by injection e
  exact pJ (ops:=ops) (o:=⟨dst,.slice U x (some h) none none,ty,pos,af,g⟩) (by simp[Op.operands]) hx rfl) (fun V β a w hs=>by
  have e:a.eval x=.slice (some ⟨β k,0,none⟩) n c:=aD hs (x:=x) (by simp[Op.operands]) hx
  have h2:=fT (aD hs (x:=h) (by simp[Op.operands]) hh)
  unfold tF at hU
  split at hU
  case h_2=>cases hU
  rename_i el hul
  cases hinf:P.info? el with
  |none=>rw[hinf] at hU;cases hU
  |some inf=>
   rw[hinf] at hU
   simp at hU
   have hso: ∀w,(sizeOf el).run P w=.ok m w:=fun w=>by unfold sizeOf typeInfo;simp[program,Sem.run,hinf,hU]
   refine⟨.slice (some ⟨β k,if q<c then q*m else 0,none⟩) (n-q) (c-q),?_,rfl⟩
   by_cases hqc:q<c
   ·simp[execOp,Instr.sliceAt,Instr.slice,run_underlying hul,e,h2,Instr.sliceBounds,Instr.sliceBound,asIntOf,hq,hso,Addr.add,hqc,Nat.ne_of_gt hqc]
    exact fun h=>h.symm
   ·have hce:c=q:=by omega
    simp[execOp,Instr.sliceAt,Instr.slice,run_underlying hul,e,h2,Instr.sliceBounds,Instr.sliceBound,asIntOf,hq,hso,Addr.add,hce])
theorem MI {k q c:Nat}(hs:Sees V L T B β a w) (hb:B k=some (U,cs)) (hys:(cs.drop off).take (q*m)=ys)
 (hoff:0<q→off+q*m≤cs.length) (hqc:q≤c) (hc:c≤9223372036854775807):RdC (fun x=>V x∧x≠β k) w (.slice (some ⟨β k,off,none⟩) q c) (.s q ys):=by
 obtain⟨hV,bs,e,hr⟩:=hs.box k U cs hb
 rcases jn q with h0|h0
 ·subst h0
  rw[←hys];simp
  exact .s0 _ _ hc
 ·have hoff:=hoff h0
  have hkeep:Keep V (fun x=>V x∧x≠β k) w w:=⟨Nat.le_refl _,fun _ _ _=>rfl,fun _ _ h=>h.1⟩
  have hbl:bs.size=cs.length:=by have:=hr.1;simpa using this
  have hr2:=((hr.drop off).take (q*m)).keep hkeep
  rw[hys] at hr2
  refine .s (β k) off c m q ys (fun j=>bs.getD (off+j) undef) h0 hqc hc ?_ (hs.av _ hV) (fun h=>h.2 rfl) (fun j hj=>?_) (fun j u hj=>?_)
  ·grind
  ·rw[cY e]
   have:off+j<bs.size:=by omega
   simp[Array.getD,this]
  ·have hlt:j<ys.length:=(jf.1 hj).1
   have hlt2:j<q*m:=by grind
   refine hr2.2 j _ u ?_ hj
   rw[rf,if_pos hlt2,Df,tU]
   have:off+j<bs.size:=by omega
   simp[Array.getD,this]
end
section
variable {P:Program}{ops:Array Oper}{T:TF}{B:BF}
theorem uE {ps:Array (Nat×Operand)}{dps:List (Nat×D0)}
 (hU:tG P U=some (e,m,by_,zs)) (hp:ve T ps.toList=some dps) (hf:xx (fun i=>some (i*m,m)) (List.replicate n zs).flatten dps=some us) (hl:us.length=n*m) (hn:n*m≤16777216) (hm:0<n*m)
 (hg:gd ops ⟨dst,.buildSlice U n ps,ty,pos,af,g⟩ T=some true):Sem P ops ⟨dst,.buildSlice U n ps,ty,pos,af,g⟩ T B (.r (.f n us)):=by
 have h:=oM (B:=B) hU hp hf hn hm hg
 refine⟨pS rfl,fun V β a w hs=>?_⟩
 obtain⟨hw,hg⟩:=h V β a w hs
 refine⟨hw,hg.mono ?_⟩
 rintro v w' ⟨vs,rfl,rfl,hr⟩
 refine⟨⟨⟨_,rfl⟩,?_⟩,(eQ _ w).alloc (cg _) _⟩
 have hkeep:=Keep.below (av:=V) ((eQ w.heap.size w).alloc (cg _) (.cells vs e))
 have hr2:=hr.keep hkeep
 have hvl:vs.size=n*m:=by have:=hr.1;rw[hl] at this;simpa using this
 have hn0:0<n:=by grind
 have hm0:0<m:=by grind
 have hnm:n≤n*m:=Nat.le_mul_of_pos_right n hm0
 refine RdC.s w.heap.size 0 n m n _ (fun j=>vs.getD j undef) hn0 (cg _) (by omega) hl (by simp) (fun h=>by have:=hs.av _ h;omega) (fun j hj=>?_) (fun j u hj=>?_)
 ·simp_all
 ·have hlt:j<n*m:=by have:=(jf.1 hj).1;omega
  refine hr2.2 j _ u ?_ hj
  have:j<vs.size:=by omega
  simp[Array.getD,this]
theorem VC {k q c:Nat}(hU:tG P U=some (e,m,by_,zs)) (hs:Sees V L T B β a w) (hb:B k=some (e2,cs)) (hys:(cs.drop off).take (q*m)=ys)
 (hyl:ys.length=q*m) (hoff:0<q→off+q*m≤cs.length) (hqc:q≤c) (hc:c≤9223372036854775807): ∃news,Src P m U (.slice (some ⟨β k,off,none⟩) q c) q news w∧RdCs V w news ys:=by
 obtain⟨news,hsrc,hr⟩:=rS hU (MI hs hb hys hoff hqc hc) hyl
 obtain⟨hV,bs,e,hr2⟩:=hs.box k e2 cs hb
 have hbl:bs.size=cs.length:=by have:=hr2.1;simpa using this
 have hr3:=(hr2.drop off).take (q*m)
 have hl:((bs.toList.drop off).take (q*m)).length=q*m:=by grind
 have h2:=run_loadCells_list (P:=P) w ⟨β k,off,none⟩ ((bs.toList.drop off).take (q*m)) (fun j u hj=>by
  rw[kg,cY e]
  have hlt:j<q*m:=by have:=(jf.1 hj).1;omega
  rw[rf,if_pos hlt,Df,tU] at hj
  exact hj)
 rw[hl] at h2
 have h1:(Builtin.firstCells m q (.slice (some ⟨β k,off,none⟩) q c)).run P w=.ok news.toArray w:=hsrc.cells
 have h3:=h1.symm.trans h2
 grind
theorem tH {q:Nat}
 (hU:tG P U=some (e,m,by_,zs)) (hx:cG T x=some (.f n us)) (hsc: ∀V β a w,Sees V (iN ops ⟨dst,.call ⟨.builtin .append,#[x,y],#[U,U]⟩,ty,pos,af,g⟩) T B β a w→ ∃news,Src P m U (a.eval y) q news w∧RdCs V w news ys)
 (hus:us.length=n*m) (hys:ys.length=q*m) (hm:0<m) (hn0:0<n) (hbytes:(n+q)*by_≤140737488355328) (h63:n+q≤maxLen)
 (hg:gd ops ⟨dst,.call ⟨.builtin .append,#[x,y],#[U,U]⟩,ty,pos,af,g⟩ T=some true):
 Sem P ops ⟨dst,.call ⟨.builtin .append,#[x,y],#[U,U]⟩,ty,pos,af,g⟩ T B (.r (.v (.c (.s (n+q) (us++ys))))):=by
 refine⟨pS rfl,fun V β a w hs=>⟨ez hs hg,?_⟩⟩
 obtain⟨⟨A,e1⟩,hxr⟩:(∃A,a.eval x=.slice A n n)∧RdV V w (a.eval x) (.c (.s n us)):=aD hs (x:=x) (by simp[Op.operands,Call.operands]) hx
 replace hxr:RdC V w (a.eval x) (.s n us):=hxr
 obtain⟨news,hsrc,hrn⟩:=hsc _ _ _ _ hs
 obtain⟨olds,hsrc0,hro⟩:=rS hU hxr hus
 obtain⟨hu,i,z,hi,hz,hsz,hby,_,hzr⟩:=iW hU
 subst hsz
 have hnl:news.length=q*i.size:=hsrc.newsLen
 rw[e1] at hxr hsrc0
 unfold Gives
 by_cases hq:q=0
 ·subst hq
  have hn1:news=[]:=jQ.1 (by rw[hnl,Nat.zero_mul])
  have hy1:ys=[]:=jQ.1 (by rw[hys,Nat.zero_mul])
  subst hn1 hy1
  have hrun:(Builtin.append_ #[U,U] ty #[.slice A n n,a.eval y]).run P w=.ok (.slice A n n) w:=by
   have hA: ∃b off,A=some ⟨b,off,none⟩:=by
    generalize hv:Value.slice A n n=v at hxr
    cases hxr with
    |s0 A' c hc=>omega
    |s b off c sz n' xs' cv h0 hnc hcm hlen hb hav hcell hr=>injection hv with h1;exact⟨b,off,h1⟩
   obtain⟨b,off,rfl⟩:=hA
   rcases hsrc.kind with⟨e',hk⟩|hk<;>simp[Builtin.append_,run_underlying hu,sizeOf,typeInfo,hi,hsrc.len,hsrc.cells,Addr.add_lit]<;>rfl
  have hexec:(execOp a.eval ⟨dst,.call ⟨.builtin .append,#[x,y],#[U,U]⟩,ty,pos,af,g⟩).run P w=.ok (.value (.slice A n n)) w:=by
   simp only[execOp,resolve,invoke,builtin,fb,f6,fk,qV,oJ,qe,e1]
   rw[hrun]
   rfl
  rw[hexec]
  refine⟨?_,eQ _ w⟩
  rw[iZ];exact hxr
 ·have hgrow:n<n+q:=by omega
  have hrun:=run_append_grow_src (P:=P) (w:=w) U U ty e i z hu hi hz A n n _ hsrc0.cellsD (a.eval y) q news hsrc hgrow (by have:maxLen=9223372036854775807:=rfl;omega) (growslice_fits hgrow (by rw[hby];exact hbytes))
  have hexec:(execOp a.eval ⟨dst,.call ⟨.builtin .append,#[x,y],#[U,U]⟩,ty,pos,af,g⟩).run P w=.ok (.value (.slice (some ⟨w.heap.size,0,none⟩) (n+q) (grownCap w (n+q) n e)))
   (w.drew.alloc (.cells ((olds++news).toArray++Builtin.zeroCells z.cells (grownCap w (n+q) n e-(n+q))) e)):=by
   simp only[execOp,resolve,invoke,builtin,fb,f6,fk,qV,oJ,qe,e1]
   rw[hrun]
   rfl
  rw[hexec]
  have hbel:Below w.heap.size w (w.drew.alloc (.cells ((olds++news).toArray++Builtin.zeroCells z.cells (grownCap w (n+q) n e-(n+q))) e)):=(eQ _ w).drew.alloc (cg _) _
  refine⟨?_,hbel⟩
  have hrd:=(qW hro hrn).keep (Keep.below (av:=V) hbel)
  have hlenr:(olds++news).length=(n+q)*i.size:=by rw[dt,hsrc0.newsLen,hnl,oh]
  refine RdC.s w.heap.size 0 (grownCap w (n+q) n e) i.size (n+q) _ (fun j=>(olds++news).getD j undef) (by omega) (grownCap_ge _ _ _ _) (grownCap_le_maxLen _ _ _ _ h63) (by rw[←hrd.1];exact hlenr) (by simp) (fun h=>by have:=hs.av _ h;omega) (fun j hj=>?_) (fun j u hj=>?_)
  ·have hlt:j<(olds++news).length:=by omega
   rw[gV]
   show(w.drew.alloc _).cell? ⟨w.drew.heap.size,j,none⟩=_
   rw[cY (U:=e) (vs:=(olds++news).toArray++Builtin.zeroCells z.cells (grownCap w (n+q) n e-(n+q))) (heap_alloc_new w.drew _)]
   rw[Array.getElem?_append_left (by simpa using hlt)]
   simp only[List.getElem?_toArray,List.getD]
   rw[f9 hlt];rfl
  ·have hlt:j<(olds++news).length:=by rw[hrd.1];exact(jf.1 hj).1
   have hv:(olds++news)[j]? =some ((olds++news)[j]):=f9 hlt
   simp only[List.getD,hv,Option.getD_some]
   exact hrd.2 j _ u hv hj
theorem Bt {q k2 c2:Nat}{cs2:List CellD}
 (hU:tG P U=some (e,m,by_,zs)) (hx:cG T x=some (.f n us)) (hy:cG T y=some (.w k2 off q c2)) (hb2:B k2=some (e2,cs2)) (hys:(cs2.drop off).take (q*m)=ys) (hoff:0<q→off+q*m≤cs2.length) (hqc:q≤c2) (hc2:c2≤maxLen)
 (hus:us.length=n*m) (hyl:ys.length=q*m) (hm:0<m) (hn0:0<n) (hbytes:(n+q)*by_≤140737488355328) (h63:n+q≤maxLen)
 (hg:gd ops ⟨dst,.call ⟨.builtin .append,#[x,y],#[U,U]⟩,ty,pos,af,g⟩ T=some true):
 Sem P ops ⟨dst,.call ⟨.builtin .append,#[x,y],#[U,U]⟩,ty,pos,af,g⟩ T B (.r (.v (.c (.s (n+q) (us++ys))))):=
 tH hU hx (fun V β a w hs=>by
  have hmax:maxLen=9223372036854775807:=rfl
  have e1:a.eval y=.slice (some ⟨β k2,off,none⟩) q c2:=aD hs (x:=y) (by simp[Op.operands,Call.operands]) hy
  rw[e1]
  exact VC hU hs hb2 hys hyl hoff hqc (by omega)) hus hyl hm hn0 hbytes h63 hg
theorem Gt 
 (hU:tG P U=some (e,m,by_,zs)) (hx:cG T x=some (.f n us)) (hy:cG T y=some .z) (hus:us.length=n*m) (hm:0<m) (hn0:0<n) (hbytes:n*by_≤140737488355328) (h63:n≤maxLen)
 (hg:gd ops ⟨dst,.call ⟨.builtin .append,#[x,y],#[U,U]⟩,ty,pos,af,g⟩ T=some true):
 Sem P ops ⟨dst,.call ⟨.builtin .append,#[x,y],#[U,U]⟩,ty,pos,af,g⟩ T B (.r (.v (.c (.s n us)))):=by
 have h:=tH (B:=B) (q:=0) (ys:=[]) hU hx (fun V β a w hs=>rS hU (by
  have e1:a.eval y=.slice none 0 0:=aD hs (x:=y) (by simp[Op.operands,Call.operands]) hy
  rw[e1];exact .s0 _ _ (by decide)) (by simp)) hus (by simp) hm hn0 hbytes h63 hg
 grind
theorem G9 
 (hU:tF P U=some m) (hx:cG T x=some .z) (hh:cG T h=some (.v (.c (.i ki 0)))) (hg:gd ops ⟨dst,.slice U x none (some h) none,ty,pos,af,g⟩ T=some true):
 Sem P ops ⟨dst,.slice U x none (some h) none,ty,pos,af,g⟩ T B (.r .z):=
 bL hg (fun k' e=>by cases e) (fun V β a w hs=>by
  have e:a.eval x=.slice none 0 0:=aD hs (x:=x) (by simp[Op.operands]) hx
  have h2:=fT (aD hs (x:=h) (by simp[Op.operands]) hh)
  unfold tF at hU
  split at hU
  case h_2=>cases hU
  rename_i el hul
  cases hinf:P.info? el with
  |none=>rw[hinf] at hU;cases hU
  |some inf=>
   rw[hinf] at hU
   simp at hU
   have hso: ∀w,(sizeOf el).run P w=.ok m w:=fun w=>by unfold sizeOf typeInfo;simp[program,Sem.run,hinf,hU]
   refine⟨.slice none 0 0,?_,rfl⟩
   simp[execOp,Instr.sliceAt,Instr.slice,run_underlying hul,e,h2,Instr.sliceBounds,Instr.sliceBound,asIntOf,hso])
theorem GC 
 (hU:tF P U=some m) (hx:cG T x=some .z) (hh:cG T h=some (.v (.c (.i ki 0)))) (hg:gd ops ⟨dst,.slice U x (some h) none none,ty,pos,af,g⟩ T=some true):
 Sem P ops ⟨dst,.slice U x (some h) none none,ty,pos,af,g⟩ T B (.r .z):=
 bL hg (fun k' e=>by cases e) (fun V β a w hs=>by
  have e:a.eval x=.slice none 0 0:=aD hs (x:=x) (by simp[Op.operands]) hx
  have h2:=fT (aD hs (x:=h) (by simp[Op.operands]) hh)
  unfold tF at hU
  split at hU
  case h_2=>cases hU
  rename_i el hul
  cases hinf:P.info? el with
  |none=>rw[hinf] at hU;cases hU
  |some inf=>
   rw[hinf] at hU
   simp at hU
   have hso: ∀w,(sizeOf el).run P w=.ok m w:=fun w=>by unfold sizeOf typeInfo;simp[program,Sem.run,hinf,hU]
   refine⟨.slice none 0 0,?_,rfl⟩
   simp[execOp,Instr.sliceAt,Instr.slice,run_underlying hul,e,h2,Instr.sliceBounds,Instr.sliceBound,asIntOf,hso])
theorem Oi 
 (hU:tF P U=some m) (hx:cG T x=some .z) (hg:gd ops ⟨dst,.call ⟨.builtin .len,#[x],#[U]⟩,ty,pos,af,g⟩ T=some true):Sem P ops ⟨dst,.call ⟨.builtin .len,#[x],#[U]⟩,ty,pos,af,g⟩ T B (.r (.v (.c (.i .i64 0)))):=
 bL hg (pS rfl) (fun V β a w hs=>by
  have e:a.eval x=.slice none 0 0:=aD hs (x:=x) (by simp[Op.operands,Call.operands]) hx
  unfold tF at hU
  split at hU
  case h_2=>cases hU
  rename_i el hul
  refine⟨.int .i64 0,?_,.i _ _⟩
  simp[execOp,resolve,invoke,builtin,Builtin.len_,e,run_underlying hul,goInt])
end
section
variable {P:Program}{ops:Array Oper}{os:List Oper}{K:St→Prop}{N:Nat}{tm:List (Nat×DV)}{bx:List (Nat×TypeId×List CellD)}
theorem vt {c q k N':Nat}{rest:List CellD}
 (hU:tG P U=some (e,m,by_,zs)) (hx:cG (fun s=>aF s tm) x=some (.o k n c)) (hy:cG (fun s=>aF s tm) y=some (.v (.c (.s q ys)))) (hb:aF k bx=some (e,cs)) (hcs:cs=us++rest) (hus:us.length=n*m) (hr:rest.length=(c-n)*m)
 (hys:ys.length=q*m) (hm:0<m) (hnc:n≤c) (hcm:c≤maxLen) (hbytes:(n+q)*by_≤140737488355328) (h63:n+q≤maxLen) (hd:t=k∨aF t bx=none) (hN:n+q=N') (hz:us++ys=zs')
 (hg:gd ops ⟨some t,.call ⟨.builtin .append,#[x,y],#[U,U]⟩,ty,pos,af,g⟩ (fun s=>aF s tm)=some true)
 (hk: ∀c' rest',N'≤c'→c'≤maxLen→rest'.length=(c'-N')*m→dl P ops os ⟨N,(t,.o t N' c')::lF k tm,(t,e,zs'++rest')::jY k bx⟩ K):
 dl P ops (⟨some t,.call ⟨.builtin .append,#[x,y],#[U,U]⟩,ty,pos,af,g⟩::os) ⟨N,tm,bx⟩ K:=by
 subst hcs hN hz
 exact mh hU hx hy hb hus hr hys hm hnc hcm hbytes h63 hd hg hk
theorem wC {q:Nat}
 (hU:tG P U=some (e,m,by_,zs)) (hx:cG (fun s=>aF s tm) x=some .z) (hy:cG (fun s=>aF s tm) y=some (.v (.c (.s q ys)))) (hys:ys.length=q*m) (hq:0<q)
 (hbytes:q*by_≤140737488355328) (h63:q≤maxLen) (hd:aF t bx=none) (hz:ys=zs')
 (hg:gd ops ⟨some t,.call ⟨.builtin .append,#[x,y],#[U,U]⟩,ty,pos,af,g⟩ (fun s=>aF s tm)=some true)
 (hk: ∀c' rest',q≤c'→c'≤maxLen→rest'.length=(c'-q)*m→dl P ops os ⟨N,(t,.o t q c')::tm,(t,e,zs'++rest')::bx⟩ K):
 dl P ops (⟨some t,.call ⟨.builtin .append,#[x,y],#[U,U]⟩,ty,pos,af,g⟩::os) ⟨N,tm,bx⟩ K:=by
 subst hz
 exact lq hU hx hy hys hq hbytes h63 hd hg hk
end
def uQ (L:Nat→Bool):List (Nat×Nat×DV)→List (Nat×DV)→List (Nat×DV)
 |[],tm=>tm
 |(i,d,x)::r,tm=>uQ L r (bif L i then(d,x)::tm else tm)
def oF (L:Nat→Bool):List (Nat×Nat×DV)→Nat→Option DV
 |[],_=>none
 |(i,d,x)::r,t=>(oF L r t).or (if d=t∧L i=true then some x else none)
theorem gC (L:Nat→Bool) (t:Nat): ∀(l:List (Nat×Nat×DV)) (tm:List (Nat×DV)),aF t (uQ L l tm)=(oF L l t).or (aF t tm)
 |[],tm=>by simp[uQ,oF]
 |(i,d,x)::r,tm=>by
  show aF t (uQ L r _)=_
  rw[gC L t r]
  show _=((oF L r t).or _).or _
  rw[Option.or_assoc]
  congr 1
  cases h:L i with
  |false=>simp
  |true=>
   show aF t ((d,x)::tm)=_
   rw[bv]
   by_cases e:d=t<;>simp[e]
theorem zJ {L:Nat→Bool}{t:Nat}{x:DV}: ∀ {l:List (Nat×Nat×DV)},oF L l t=some x→ ∃i,(i,t,x)∈l∧L i=true
 |(i,d,y)::r,h=>by
  have h:(oF L r t).or (if d=t∧L i=true then some y else none)=some x:=h
  cases h1:oF L r t with
  |some zz=>
   rw[h1] at h
   injection h with h
   subst h
   obtain⟨j,g1,g2⟩:=zJ h1
   exact⟨j,fC _ g1,g2⟩
  |none=>
   rw[h1,rF] at h
   split at h
   ·next e=>injection h with h;subst h;exact⟨i,by rw[e.1];exact fO,e.2⟩
   ·cases h
theorem R5 {L:Nat→Bool}{t i:Nat}{x:DV}: ∀ {l:List (Nat×Nat×DV)},(∀i j y,(i,t,x)∈l→(j,t,y)∈l→y=x)→(i,t,x)∈l→L i=true→oF L l t=some x
 |(j,d,y)::r,hu,hm,hi=>by
  show(oF L r t).or (if d=t∧L j=true then some y else none)=some x
  cases h1:oF L r t with
  |some zz=>
   obtain⟨k,g1,g2⟩:=zJ h1
   rw[hu i k zz hm (fC _ g1)];rfl
  |none=>
   rw[rF]
   rcases dD.1 hm with e|hm
   ·injection e with e1 e2
    injection e2 with e2 e3
    subst e1 e2 e3
    rw[if_pos ⟨rfl,hi⟩]
   ·rw[R5 (fun i j y a b=>hu i j y (fC _ a) (fC _ b)) hm hi] at h1
    cases h1
theorem Fg {L:Nat→Bool}: ∀ {l:List (Nat×Nat×DV)},(∀i x,(i,t,x)∈l→L i=false)→oF L l t=none:=by
 intro l h
 cases h1:oF L l t with
 |none=>rfl
 |some x=>
  obtain⟨i,g1,g2⟩:=zJ h1
  grind
theorem wY {L M:Nat→Bool}{t:Nat}: ∀ {l:List (Nat×Nat×DV)},(∀i x,(i,t,x)∈l→L i=M i)→oF L l t=oF M l t
 |[],_=>rfl
 |(i,d,x)::r,h=>by
  show(oF L r t).or _=(oF M r t).or _
  rw[wY (l:=r) fun j y hm=>h j y (fC _ hm)]
  congr 1
  by_cases e:d=t
  ·subst e;rw[h i x fO]
  ·simp[e]
section
variable {P:Program}{ops:Array Oper}
def da (P:Program) (ops:Array Oper) (C:List Nat) (bx:List (Nat×TypeId×List CellD)):Nat→List Oper→List (Nat×DV)→(List (Nat×DV)→Prop)→Prop
 |_,[],tm,K=>K tm
 |i,o::os,tm,K=>bif C.any (Nat.beq i) then da P ops C bx (i+1) os tm K else ∃x d,o.dst=some d∧Sem P ops o (fun s=>aF s tm) (fun k=>aF k bx) (.r x)∧jS x=none∧da P ops C bx (i+1) os ((d,x)::tm) K
theorem Ec {o:Oper}(hc:C.any (Nat.beq i)=true) (h:da P ops C bx (i+1) os tm K):da P ops C bx i (o::os) tm K:=by
 unfold da;rw[hc];exact h
theorem gw {d:Nat}{op:Op}{x:DV}
 (hc:C.any (Nat.beq i)=false) (hs:Sem P ops ⟨some d,op,ty,pos,af,g⟩ (fun s=>aF s tm) (fun k=>aF k bx) (.r x)) (hx:jS x=none) (h:da P ops C bx (i+1) os ((d,x)::tm) K):da P ops C bx i (⟨some d,op,ty,pos,af,g⟩::os) tm K:=by
 unfold da;rw[hc];exact⟨x,d,rfl,hs,hx,h⟩
theorem DP {C:List Nat}{bx:List (Nat×TypeId×List CellD)}{K:List (Nat×DV)→Prop}: ∀(os:List Oper) (i0:Nat) (tm:List (Nat×DV)),da P ops C bx i0 os tm K→ ∃opn:List (Nat×Nat×DV),
 (∀i d x,(i,d,x)∈opn→i0≤i∧C.any (Nat.beq i)=false∧jS x=none∧ ∃o,os[i-i0]? =some o∧o.dst=some d∧Sem P ops o (fun s=>aF s (uQ (fun j=>decide (j<i)) opn tm)) (fun k=>aF k bx) (.r x))∧
 (∀i o,os[i]? =some o→C.any (Nat.beq (i0+i))=false→ ∃d x,(i0+i,d,x)∈opn)∧(∀i d x d' x',(i,d,x)∈opn→(i,d',x')∈opn→d=d'∧x=x')∧K (uQ (fun _=>true) opn tm)
 |[],i0,tm,h=>⟨[],(fun _ _ _ h=>by cases h),(fun i o h=>by simp at h),(fun _ _ _ _ _ h=>by cases h),h⟩
 |o::os,i0,tm,h=>by
  unfold da at h
  cases hc:C.any (Nat.beq i0) with
  |true=>
   rw[hc] at h
   obtain⟨opn,h1,h2,h4,h3⟩:=DP os (i0+1) tm h
   refine⟨opn,fun i d x hm=>?_,fun i o' ho hn=>?_,h4,h3⟩
   ·obtain⟨g1,g2,g3,o',g4,g5⟩:=h1 i d x hm
    refine⟨by omega,g2,g3,o',?_,g5⟩
    rw[show i-i0=i-(i0+1)+1 by omega];simpa using g4
   ·cases i with
    |zero=>rw[sw,hc] at hn;cases hn
    |succ i=>rw[show i0+(i+1)=i0+1+i by omega] at hn⊢;exact h2 i o' (by simpa using ho) hn
  |false=>
   rw[hc] at h
   obtain⟨x,d,hd,hs,hx,h⟩:=h
   obtain⟨opn,h1,h2,h4,h3⟩:=DP os (i0+1) ((d,x)::tm) h
   refine⟨(i0,d,x)::opn,fun i d' x' hm=>?_,fun i o' ho hn=>?_,fun i d1 x1 d2 x2 g1 g2=>?_,h3⟩
   ·rcases dD.1 hm with e|hm
    ·injection e with e1 e2
     injection e2 with e2 e3
     subst e1 e2 e3
     refine⟨Nat.le_refl _,hc,hx,o,by rw[Nat.sub_self];rfl,hd,?_⟩
     have e:(fun s=>aF s (uQ (fun j=>decide (j<i)) ((i,d',x')::opn) tm))=fun s=>aF s tm:=by
      funext s
      rw[gC,Fg,rF]
      intro j y hj
      rcases dD.1 hj with e|hj
      ·injection e with e1;subst e1;simp
      ·have:=(h1 j s y hj).1;simp;omega
     rw[e];exact hs
    ·obtain⟨g1,g2,g3,o',g4,g5,g6⟩:=h1 i d' x' hm
     refine⟨by omega,g2,g3,o',?_,g5,?_⟩
     ·grind
     ·show Sem P ops o' (fun s=>aF s (uQ _ opn (bif decide (i0<i) then(d,x)::tm else tm))) _ _
      rw[show decide (i0<i)=true from decide_eq_true (by omega)];exact g6
   ·cases i with
    |zero=>exact⟨d,x,fO⟩
    |succ i=>
     grind
   ·rcases dD.1 g1 with e1|k1<;>rcases dD.1 g2 with e2|k2
    ·grind
    ·grind
    ·grind
    grind
theorem Cz {q:Nat}
 (hU:tG P U=some (e,m,by_,zs)) (hx:cG (fun s=>aF s tm) x=some (.f 0 us)) (hy:cG (fun s=>aF s tm) y=some (.v (.c (.s q ys)))) (hys:ys.length=q*m) (hq:0<q)
 (hbytes:q*by_≤140737488355328) (h63:q≤maxLen) (hd:aF t bx=none)
 (hg:gd ops ⟨some t,.call ⟨.builtin .append,#[x,y],#[U,U]⟩,ty,pos,af,g⟩ (fun s=>aF s tm)=some true):
 Kf P ops ⟨some t,.call ⟨.builtin .append,#[x,y],#[U,U]⟩,ty,pos,af,g⟩ ⟨N,tm,bx⟩ (fun σ'=> ∃c' rest,q≤c'∧c'≤maxLen∧rest.length=(c'-q)*m∧σ'=⟨N,(t,.o t q c')::tm,(t,e,ys++rest)::bx⟩):=by
 intro av w0 β a w hrel htn
 have hs:=Sees.of hrel.sees (L:=iN ops ⟨some t,.call ⟨.builtin .append,#[x,y],#[U,U]⟩,ty,pos,af,g⟩) (fun _ _=>trivial) (fun _ _ _ h=>h) (fun _ _ h=>h)
 refine⟨ez hs hg,?_⟩
 obtain⟨⟨A,e1⟩,_⟩:(∃A,a.eval x=.slice A 0 0)∧_:=aD hs (x:=x) (by simp[Op.operands,Call.operands]) hx
 have h2:=aD hs (x:=y) (by simp[Op.operands,Call.operands]) hy
 obtain⟨news,hsrc,hrn⟩:=rS hU h2 hys
 obtain⟨hu,i,z,hi,hz,hsz,hby,hzl,hzr⟩:=iW hU
 subst hsz
 have ht:t<N:=htn t rfl
 unfold Gives
 have hold:(Builtin.firstCells i.size 0 (.slice A 0 0)).run P w.drew=.ok ([]:List Value).toArray w.drew:=by
  cases A with
  |none=>rfl
  |some b=>
   have h9:=run_loadCells_list (P:=P) w.drew b ([]:List Value) (fun j u h=>by simp at h)
   rw[show([]:List Value).length=0*i.size by simp] at h9
   exact h9
 have hgrow:0<0+q:=by omega
 have hrun:=run_append_grow_src (P:=P) (w:=w) U U ty e i z hu hi hz A 0 0 _ hold (a.eval y) q news hsrc hgrow (by have:maxLen=9223372036854775807:=rfl;omega) (growslice_fits hgrow (by rw[hby,gV];exact hbytes))
 rw[gV] at hrun
 generalize hcap:grownCap w q 0 e=c' at hrun
 have hc1:q≤c':=by rw[←hcap];exact grownCap_ge _ _ _ _
 have hc2:c'≤maxLen:=by rw[←hcap];exact grownCap_le_maxLen _ _ _ _ h63
 have hexec:(execOp a.eval ⟨some t,.call ⟨.builtin .append,#[x,y],#[U,U]⟩,ty,pos,af,g⟩).run P w=.ok (.value (.slice (some ⟨w.heap.size,0,none⟩) q c'))
  (w.drew.alloc (.cells (([]++news).toArray++Builtin.zeroCells z.cells (c'-q)) e)):=by
  simp only[execOp,resolve,invoke,builtin,fb,f6,fk,qV,oJ,qe,e1]
  rw[hrun]
  rfl
 rw[hexec]
 obtain⟨rest,hrl,hrz⟩:=QP hzl hzr (c'-q)
 have hrd:RdCs (fun b=>av b∨ ∃k,aF k bx≠none∧β k=b) w.drew (([]++news).toArray++Builtin.zeroCells z.cells (c'-q)).toList (ys++rest):=by
  have h1:RdCs (fun b=>av b∨ ∃k,aF k bx≠none∧β k=b) w.drew (news++(Builtin.zeroCells z.cells (c'-q)).toList) (ys++rest):=qW (RdCs.keep (Keep.below (eQ _ w).drew) hrn) (hrz (fun b=>av b∨ ∃k,aF k bx≠none∧β k=b) w.drew)
  grind
 have hbox:=hrel.drew.box (d:=t) ht hd (U:=e) (sl:=some c') hrd
 refine⟨⟨N,(t,.o t q c')::tm,(t,e,ys++rest)::bx⟩,fun l=>if l=t then w.drew.heap.size else β l,⟨c',_,hc1,hc2,hrl,rfl⟩,rfl,?_⟩
 have hval:=hbox.value (d:=some t) (x:=.o t q c') (v:=.slice (some ⟨w.heap.size,0,none⟩) q c') (by intro s hs;injection hs with hs;subst hs;exact ht) (eQ _ _) (by show _=Value.slice (some ⟨if t=t then w.drew.heap.size else β t,0,none⟩) _ _;rw[if_pos rfl];rfl) (by intro l hl;injection hl with hl;subst hl;rw[if_pos rfl];simp)
 rw[B7] at hval
 refine hval.congr (fun s=>?_) (fun l=>?_)
 ·show aF s ((t,DV.o t q c')::tm)=(if some t=some s then _ else if some t=some s then _ else aF s tm)
  rw[bv]
  grind
 ·show aF l ((t,e,ys++rest)::bx)=(if some t=some l then _ else aF l bx)
  rw[bv]
  grind
structure AppS where
 i:Nat
 t:Nat
 y:Operand
 q:Nat
 ys:List CellD
def nA:List AppS→Nat
 |[]=>0
 |a::r=>a.q+nA r
def uA:List AppS→List CellD
 |[]=>[]
 |a::r=>a.ys++uA r
theorem wy (a:AppS): ∀l:List AppS,nA (l++[a])=nA l+a.q
 |[]=>by simp[nA]
 |b::r=>by show b.q+nA (r++[a])=b.q+nA r+a.q;rw[wy a r];omega
theorem Gu (a:AppS): ∀l:List AppS,uA (l++[a])=uA l++a.ys
 |[]=>by simp[uA]
 |b::r=>by show b.ys++uA (r++[a])=b.ys++uA r++a.ys;rw[Gu a r,nk]
def qF (ops:Array Oper) (C:List Nat) (m i:Nat) (y:Operand):Bool:=match y with
 | .tmp u=>(match ops[i]? with
   |none=>false
   |some o=>(List.range m).all fun j=>match ops[j]? with
    |none=>false
    |some p=> !(match p.dst with|none=>false|some d=>Nat.beq d u)||(!C.any (Nat.beq j)&&(cU o).any (Nat.beq j)))
 |_=>true
def LO (x0:Operand) (l:List AppS):Operand:=match l.getLast? with
 |none=>x0
 |some a=>.tmp a.t
structure ChainA (P:Program) (ops:Array Oper) (C:List Nat) (m:Nat) (U e:TypeId) (sz by_:Nat) (zs:List CellD) (x0:Operand) (tm0 tm:List (Nat×DV)) (bx:List (Nat×TypeId×List CellD)) (ch:List AppS):Prop where
 hU:tG P U=some (e,sz,by_,zs)
 hm:0<sz
 base: ∃us,cG (fun s=>aF s tm) x0=some (.f 0 us)
 hC:ch.map (·.i)=C
 op: ∀l a r,ch=l++a::r→ ∃ty pos af,ops[a.i]? =some ⟨some a.t,.call ⟨.builtin .append,#[LO x0 l,a.y],#[U,U]⟩,ty,pos,af,none⟩
 lt: ∀a∈ch,a.i<m
 y: ∀a∈ch,cG (fun s=>aF s tm) a.y=some (.v (.c (.s a.q a.ys)))∧a.ys.length=a.q*sz∧qF ops C m a.i a.y=true
 bx0: ∀a r,ch=a::r→qF ops C m a.i x0=true∧0<a.q
 nx: ∀l a b r,ch=l++a::b::r→ ∀o,ops[b.i]? =some o→a.i∈cU o
 new: ∀a∈ch,aF a.t tm0=none∧aF a.t bx=none
 big:nA ch*by_≤140737488355328∧nA ch≤maxLen
def Bq (c:Nat) (l:List AppS):List (Nat×DV):=match l.getLast? with
 |none=>[]
 |some a=>[(a.t,.o a.t (nA l) c)]
def Fx (e:TypeId) (rest:List CellD) (l:List AppS):List (Nat×TypeId×List CellD):=match l.getLast? with
 |none=>[]
 |some a=>[(a.t,e,uA l++rest)]
theorem zh (c:Nat) (l:List AppS) (a:AppS):Bq c (l++[a])=[(a.t,.o a.t (nA l+a.q) c)]:=by unfold Bq;rw[List.getLast?_concat];show[(a.t,DV.o a.t (nA (l++[a])) c)]=_;rw[wy]
theorem vi (e:TypeId) (rest:List CellD) (l:List AppS) (a:AppS):Fx e rest (l++[a])=[(a.t,e,uA l++a.ys++rest)]:=by unfold Fx;rw[List.getLast?_concat];show[(a.t,e,uA (l++[a])++rest)]=_;rw[Gu]
theorem acL {l r:List AppS}:nA l≤nA (l++r):=by
 induction l with
 |nil=>exact eF _
 |cons a l ih=>show a.q+nA l≤a.q+nA (l++r);omega
end
theorem OE {sz:Nat}: ∀ {l:List AppS},(∀a∈l,a.ys.length=a.q*sz)→(uA l).length=nA l*sz
 |[],_=>by simp[uA,nA]
 |a::r,h=>by
  show(a.ys++uA r).length=(a.q+nA r)*sz
  rw[dt,h a fO,OE fun b hb=>h b (fC _ hb),oh]
theorem An {α:Type}{b:α}: ∀(a:α) (r:List α),b∈r→ ∃l p r',a::r=l++p::b::r'
 |a,c::r,h=>by
  rcases dD.1 h with e|h
  ·subst e;exact⟨[],a,r,rfl⟩
  ·obtain⟨l,p,r',e⟩:=An c r h
   exact⟨a::l,p,r',by rw[e];rfl⟩
section
variable {P:Program}{ops:Array Oper}{Q:Exit→Act→World→Prop}{av:Nat→Prop}{w0:Ent}{m n:Nat}
set_option linter.unusedVariables false in
theorem TB (hc:Chk ops m n) {sz:Nat}{ch:List AppS}{opn:List (Nat×Nat×DV)}
 (ho1: ∀i d x,(i,d,x)∈opn→C.any (Nat.beq i)=false∧jS x=none∧i<m∧ ∃o,ops[i]? =some o∧o.dst=some d∧Sem P ops o (fun s=>aF s (uQ (fun j=>decide (j<i)) opn tm0)) (fun k=>aF k bx) (.r x))
 (ho2: ∀i,i<m→C.any (Nat.beq i)=false→ ∃d x,(i,d,x)∈opn)
 (ho3: ∀i d x d' x',(i,d,x)∈opn→(i,d',x')∈opn→d=d'∧x=x')
 (hch:ChainA P ops C m U e sz by_ zs x0 tm0 (uQ (fun _=>true) opn tm0) bx ch)
 (hwf: ∀t x k,aF t tm0=some x→jS x=some k→aF k bx≠none)
 (hQ: ∀c rest β a w fuel,nA ch≤c→c≤maxLen→rest.length=(c-nA ch)*sz→ops.size-m≤fuel→
  Rel av w0 n (fun s=>aF s (Bq c ch++uQ (fun _=>true) opn tm0)) (fun k=>aF k (Fx e rest ch++bx)) β a w→wpAny P .any ops Q fuel (dj ops.size m) a w):
 ∀(fuel:Nat) (listed:Array Bool) (β:Nat→Nat) (a:Act) (w:World) (dn td:List AppS) (c:Nat) (rest:List CellD),listed.size=ops.size→Ob listed≤fuel→
  (∀i o j,listed.getD i false=true→ops[i]? =some o→j∈cU o→listed.getD j false=true)→(∀t,m≤t→listed.getD t false=false)→
  ch=dn++td→(∀b∈dn,listed.getD b.i false=true)→(∀b∈td,listed.getD b.i false=false)→nA dn≤c∧c≤maxLen∧rest.length=(c-nA dn)*sz→
  Rel av w0 n (fun s=>aF s (Bq c dn++uQ (fun j=>listed.getD j false) opn tm0)) (fun k=>aF k (Fx e rest dn++bx)) β a w→wpAny P .any ops Q fuel listed a w:=by
 have hCm: ∀b∈ch,C.any (Nat.beq b.i)=true:=fun b hb=>kS.2 (by rw[←hch.hC];exact List.mem_map_of_mem hb)
 have hop: ∀b∈ch,∃o,ops[b.i]? =some o∧o.dst=some b.t:=fun b hb=>by
  obtain⟨l,r,e1⟩:=List.append_of_mem hb
  obtain⟨ty,pos,af,h⟩:=hch.op l b r e1
  exact⟨_,h,rfl⟩
 have huq: ∀ {i j d x y},(i,d,x)∈opn→(j,d,y)∈opn→i=j∧y=x:=by
  intro i j d x y h1 h2
  obtain⟨_,_,hi,oi,q1,q2,_⟩:=ho1 i d x h1
  obtain⟨_,_,hj,oj,q3,q4,_⟩:=ho1 j d y h2
  have:=hc.dist i j oi oj d hi hj q1 q3 q2 q4
  subst this
  exact⟨rfl,(ho3 i d y d x h2 h1).2⟩
 have hne: ∀b∈ch,∀i x,(i,b.t,x)∉opn:=by
  intro b hb i x hm
  obtain⟨q0,_,hi,oi,q1,q2,_⟩:=ho1 i b.t x hm
  obtain⟨o,g1,g2⟩:=hop b hb
  have:=hc.dist i b.i oi o b.t hi (hch.lt b hb) q1 g1 q2 g2
  subst this
  rw[hCm b hb] at q0;cases q0
 have hnl: ∀(L:Nat→Bool),∀b∈ch,aF b.t (uQ L opn tm0)=none:=by
  intro L b hb
  rw[gC,Fg fun i x hm=>absurd hm (hne b hb i x),(hch.new b hb).1];rfl
 have hhd: ∀(c:Nat) (l r:List AppS) t,ch=l++r→(∀b∈ch,b.t≠t)→aF t (Bq c l)=none:=by
  intro c l r t e1 h
  unfold Bq
  cases hg:l.getLast? with
  |none=>rfl
  |some b=>
   have hb:b∈ch:=by rw[e1];exact AP _ (List.mem_of_getLast? hg)
   show aF t [(b.t,_)]=none
   rw[bv,if_neg (h b hb)];rfl
 have hhb: ∀(rest:List CellD) (l r:List AppS) k c,ch=l++r→aF k bx=some c→aF k (Fx e rest l)=none:=by
  intro rest l r k c e1 h
  unfold Fx
  cases hg:l.getLast? with
  |none=>rfl
  |some b=>
   have hb:b∈ch:=by rw[e1];exact AP _ (List.mem_of_getLast? hg)
   show aF k [(b.t,_)]=none
   rw[bv,if_neg (fun h2=>by subst h2;rw[(hch.new b hb).2] at h;cases h)];rfl
 have htr: ∀ {L:Nat→Bool}{i:Nat}{o:Oper}{y:Operand}{v:DV}{c:Nat}{l r:List AppS},ch=l++r→ops[i]? =some o→(∀j,j∈cU o→L j=true)→qF ops C m i y=true→
  cG (fun s=>aF s (uQ (fun _=>true) opn tm0)) y=some v→cG (fun s=>aF s (Bq c l++uQ L opn tm0)) y=some v:=by
  intro L i o y v c l r e1 ho hb hbt hv
  cases y with
  |tmp u=>
   have hv:aF u (uQ (fun _=>true) opn tm0)=some v:=hv
   show aF u (Bq c l++uQ L opn tm0)=some v
   unfold qF at hbt
   rw[ho] at hbt
   dsimp only at hbt
   have hall: ∀j p,j<m→ops[j]? =some p→p.dst=some u→C.any (Nat.beq j)=false∧L j=true:=by
    intro j p hj hp hd
    have h1:=kY.1 hbt j (lZ.2 hj)
    rw[hp] at h1
    dsimp only at h1
    rw[hd] at h1
    dsimp only at h1
    rw[xV] at h1
    simp only[Bool.not_true,Bool.false_or,dL] at h1
    refine⟨by simpa using h1.1,hb j (kS.1 h1.2)⟩
   rw[cH,hhd c l r u e1 (fun b hb2 e2=>by
    obtain⟨o2,g1,g2⟩:=hop b hb2
    have:=(hall b.i o2 (hch.lt b hb2) g1 (by rw[g2,e2])).1
    rw[hCm b hb2] at this;cases this),rF,←hv,gC,gC]
   congr 1
   refine wY fun j x hm=>?_
   obtain⟨_,_,hj,oj,q1,q2,_⟩:=ho1 j u x hm
   exact(hall j oj hj q1 q2).2
  |const z9=>exact hv
  |func z9=>exact hv
  |global z9=>exact hv
 intro fuel
 have hfin: ∀(fuel:Nat) (listed:Array Bool) (β:Nat→Nat) (a:Act) (w:World) (dn td:List AppS) (c:Nat) (rest:List CellD),listed.size=ops.size→ops.size-m≤fuel→
  (∀t,m≤t→listed.getD t false=false)→ch=dn++td→(∀b∈td,listed.getD b.i false=false)→nA dn≤c∧c≤maxLen∧rest.length=(c-nA dn)*sz→(∀i,i<m→listed.getD i false=true)→
  Rel av w0 n (fun s=>aF s (Bq c dn++uQ (fun j=>listed.getD j false) opn tm0)) (fun k=>aF k (Fx e rest dn++bx)) β a w→wpAny P .any ops Q fuel listed a w:=by
  intro fuel listed β a w dn td c rest hsz hfu hp hs htd hb hl hr
  have htd0:td=[]:=by
   cases td with
   |nil=>rfl
   |cons b r=>
    have h1:=htd b fO
    rw[hl b.i (hch.lt b (by rw[hs];simp))] at h1;cases h1
  subst htd0
  rw[iZ] at hs
  subst hs
  have e1:listed=dj ops.size m:=by
   apply Array.ext (by simp[dj,hsz])
   intro i h1 h2
   by_cases him:i<m
   ·have h3:=hl i him
    simp[Array.getD,h1] at h3
    rw[h3];simp[dj,him]
   ·have h3:=hp i (by omega)
    simp[Array.getD,h1] at h3
    rw[h3];simp[dj]
    cases hb:Nat.blt i m with
    |false=>rfl
    |true=>have:=iB.1 hb;omega
  have e2:(fun s=>aF s (Bq c ch++uQ (fun j=>listed.getD j false) opn tm0))=fun s=>aF s (Bq c ch++uQ (fun _=>true) opn tm0):=by
   funext t
   rw[cH,cH,gC,gC]
   congr 2
   refine wY fun j x hm=>?_
   obtain⟨_,_,hj,_⟩:=ho1 j t x hm
   exact hl j hj
  rw[e2] at hr
  rw[e1]
  exact hQ c rest β a w fuel hb.1 hb.2.1 hb.2.2 hfu hr
 induction fuel with
 |zero=>
  intro listed β a w dn td c rest hsz hu hcl hp hs hdn htd hb hr
  have hm:m=ops.size:=by
   rcases gO m ops.size with h|h
   ·have:=Ca (listed:=listed) (i:=m) (by omega) (by rw[rc (by omega) true false];exact hp m (cg _));omega
   ·exact Nat.le_antisymm hc.le h
  exact hfin 0 listed β a w dn td c rest hsz (by omega) hp hs htd hb (fun i hi=>by
   cases h:listed.getD i false with
   |true=>rfl
   |false=>have:=Ca (listed:=listed) (i:=i) (by omega) (by rw[rc (by omega) true false];exact h);omega) hr
 |succ fuel ih=>
  intro listed β a w dn td c rest hsz hu hcl hp hs hdn htd hb hr
  by_cases hl: ∀i,i<m→listed.getD i false=true
  ·have hun:ops.size-m≤Ob listed:=by
    have e1:listed=dj ops.size m:=by
     apply Array.ext (by simp[dj,hsz])
     intro i h1 h2
     by_cases him:i<m
     ·have h3:=hl i him
      simp[Array.getD,h1] at h3
      rw[h3];simp[dj,him]
     ·have h3:=hp i (by omega)
      simp[Array.getD,h1] at h3
      rw[h3];simp[dj]
      cases hb:Nat.blt i m with
      |false=>rfl
      |true=>have:=iB.1 hb;omega
    rw[e1]
    unfold Ob dj
    have:(List.map (fun i=>Nat.blt i m) (List.range ops.size))=List.replicate m true++List.replicate (ops.size-m) false:=by
     apply u9 (by simp;have:=hc.le;omega)
     intro i h1 h2
     simp at h1
     by_cases him:i<m
     ·rw[List.getElem_append_left (by simpa using him)];simp[him]
     ·rw[List.getElem_append_right (by simpa using him)]
      simp
      cases hb:Nat.blt i m with
      |false=>rfl
      |true=>have:=iB.1 hb;omega
    simp[this,List.countP_append,List.countP_replicate]
   exact hfin (fuel+1) listed β a w dn td c rest hsz (by omega) hp hs htd hb hl hr
  ·refine⟨fun h0=>?_,fun i hi=>?_⟩
   ·exfalso
    have hex: ∃p,p<m∧listed.getD p false=false∧ ∀q,q<p→listed.getD q false=true:=by
     have key: ∀d p,p≤d→p<m→listed.getD p false=false→ ∃p,p<m∧listed.getD p false=false∧ ∀q,q<p→listed.getD q false=true:=by
      intro d
      induction d with
      |zero=>
       intro p hd hpm hpf
       exact⟨p,hpm,hpf,fun q hq=>by omega⟩
      |succ d ih2=>
       intro p hd hpm hpf
       by_cases hq: ∀q,q<p→listed.getD q false=true
       ·exact⟨p,hpm,hpf,hq⟩
       ·obtain⟨q,hq⟩:=Aj.1 hq
        obtain⟨hqp,hq⟩:=AZ.1 hq
        exact ih2 q (by omega) (by omega) (by simpa using hq)
     obtain⟨p,hp'⟩:=Aj.1 hl
     obtain⟨hpm,hp'⟩:=AZ.1 hp'
     exact key p p (cg _) hpm (by simpa using hp')
    obtain⟨p,hpm,hpf,hq⟩:=hex
    have hps:p<ops.size:=by have:=hc.le;omega
    have hin:p∈Region.ready .any ops listed:=mem_ready.2 ⟨by rw[rc (by omega) true false];exact hpf,ops[p],yf hps,fun e he hb=>
     hq e.on (hc.low p _ e.on (yf hps) (Bu he hb))⟩
    rw[h0] at hin;cases hin
   ·obtain⟨hif,o,ho,hae0⟩:=mem_ready.1 hi
    have his:i<ops.size:=(sP.1 ho).1
    have hif':listed.getD i false=false:=by rw[rc (by omega) false true];exact hif
    have hae: ∀j,j∈cU o→listed.getD j false=true:=fun j hj=>by
     obtain⟨e',he',hb',rfl⟩:=mp hj
     exact hae0 e' he' hb'
    have him:i<m:=by
     rcases gO i m with h|h
     ·exact h
     ·exfalso
      rcases hc.tl i o h ho with⟨j,hj,hmj⟩|hcov
      ·have:=hae j hj
       rw[hp _ hmj] at this;cases this
      ·apply hl
       have key: ∀d p,m-p≤d→p<m→listed.getD p false=true:=by
        intro d
        induction d with
        |zero=>intro p hd hpm;omega
        |succ d ih2=>
         intro p hd hpm
         rcases hcov p hpm with hb|⟨q,oq,hpq,hqm,hoq,hb⟩
         ·exact hae p hb
         ·exact hcl q oq p (ih2 q (by omega) hqm) hoq hb
       exact fun p hpm=>key (m-p) p (cg _) hpm
    have hmi: ∀j,(listed.setIfInBounds i true).getD j false=if j=i then true else listed.getD j false:=by
     intro j
     by_cases hji:j=i
     ·subst hji;simp[Array.getD,hsz,his]
     ·rw[if_neg hji,getD_set_ne false (fun e=>hji e.symm)]
    have hcl': ∀i' o' j,(listed.setIfInBounds i true).getD i' false=true→ops[i']? =some o'→j∈cU o'→(listed.setIfInBounds i true).getD j false=true:=by
     intro i' o' j' h1 h2 h3
     rw[hmi] at h1⊢
     by_cases hji:j'=i
     ·rw[if_pos hji]
     ·rw[if_neg hji]
      by_cases hii:i'=i
      ·subst hii
       rw[ho] at h2
       injection h2 with h2
       subst h2
       exact hae j' h3
      ·rw[if_neg hii] at h1
       exact hcl i' o' j' h1 h2 h3
    have hp': ∀t,m≤t→(listed.setIfInBounds i true).getD t false=false:=fun t ht=>by
     rw[hmi,if_neg (by omega)]
     exact hp t ht
    have hu':Ob (listed.setIfInBounds i true)≤fuel:=by have:=FL (listed:=listed) (i:=i) (by omega) hif;omega
    have hsz':(listed.setIfInBounds i true).size=ops.size:=by simpa using hsz
    unfold wpOp
    rw[ho]
    cases hiC:C.any (Nat.beq i) with
    |false=>
     obtain⟨d,x,hmem⟩:=ho2 i him hiC
     obtain⟨_,hrx,_,o',ho',hd',hsem⟩:=ho1 i d x hmem
     rw[ho] at ho'
     injection ho' with ho'
     subst ho'
     have hchi: ∀b∈ch,b.i≠i:=fun b hb e1=>by have:=hCm b hb;rw[e1,hiC] at this;cases this
     refine hr.step hsem (fun t ht=>hc.dn i o t ho ht) ?_ ?_ (fun U cs sl hE=>by cases hE) (fun β' a' w' hr'=>?_)
     ·intro t x' hlk hx
      have hx:aF t (uQ (fun j=>decide (j<i)) opn tm0)=some x':=hx
      show aF t (Bq c dn++uQ (fun j=>listed.getD j false) opn tm0)=some x'
      have hnt: ∀b∈ch,b.t≠t:=fun b hb e1=>by rw[←e1,hnl _ b hb] at hx;cases hx
      rw[cH,hhd c dn td t hs hnt,rF,←hx,gC,gC]
      congr 1
      refine wY fun j y hm=>?_
      obtain⟨_,_,hjm,oj,hoj,hdj,_⟩:=ho1 j t y hm
      by_cases hji:j=i
      ·subst hji;rw[hif'];simp
      ·rcases hc.dep i j o oj t him hjm (fun e=>hji e.symm) ho hoj hdj hlk with hb2|hb2
       ·have hji2:=hc.low i o j ho hb2
        rw[hae j hb2];simpa using hji2
       ·have hji2:=hc.low j oj i hoj hb2
        have h1:listed.getD j false=false:=by
         cases hlj:listed.getD j false with
         |false=>rfl
         |true=>have:=hcl j oj i hlj hoj hb2;rw[hif'] at this;cases this
        rw[h1];simp;omega
     ·intro k cc hk
      have hk:aF k bx=some cc:=hk
      show aF k (Fx e rest dn++bx)=some cc
      rw[cH,hhb rest dn td k cc hs hk,rF];exact hk
     ·refine ih _ β' a' w' dn td c rest hsz' hu' hcl' hp' hs (fun b hb=>?_) (fun b hb=>?_) hb ?_
      ·rw[hmi];split
       ·rfl
       ·exact hdn b hb
      ·rw[hmi,if_neg (hchi b (by rw[hs];exact List.mem_append_right _ hb))];exact htd b hb
      ·refine hr'.congr (fun t=>?_) (fun k=>rfl)
       show _=if o.dst=some t then some x else _
       rw[cH,gC]
       by_cases hdt:d=t
       ·subst hdt
        rw[if_pos hd',hhd c dn td d hs (fun b hb e1=>hne b hb i x (by rw[e1];exact hmem)),rF,R5 (fun i j y h1 h2=>(huq h1 h2).2) hmem (by rw[hmi,if_pos rfl])]
        rfl
       ·rw[if_neg (by rw[hd'];simpa using hdt)]
        show _=aF t (Bq c dn++uQ _ opn tm0)
        rw[cH,gC]
        congr 2
        refine wY fun j y hm=>?_
        rw[hmi,if_neg]
        intro e1
        subst e1
        exact hdt (ho3 _ _ _ _ _ hmem hm).1
    |true=>
     have hmemC:=kS.1 hiC
     rw[←hch.hC] at hmemC
     obtain⟨b,hbc,rfl⟩:=nB.1 hmemC
     have hbtd:b∈td:=by
      rw[hs] at hbc
      rcases mW.1 hbc with h|h
      ·have:=hdn b h;rw[hif'] at this;cases this
      ·exact h
     obtain⟨a9,r,htd9⟩: ∃a9 r,td=a9::r:=by
      cases td with
      |nil=>cases hbtd
      |cons a9 r=>exact⟨a9,r,rfl⟩
     subst htd9
     have hba:b=a9:=by
      rcases dD.1 hbtd with h|h
      ·exact h
      ·exfalso
       obtain⟨l,p,r',e1⟩:=An a9 r h
       have h1:=hch.nx (dn++l) p b r' (by rw[hs,e1,nk]) o ho
       have h2:=hae _ h1
       rw[htd p (by rw[e1];simp)] at h2;cases h2
     subst hba
     obtain⟨ty,pos,af,hob⟩:=hch.op dn b r hs
     rw[ho] at hob
     injection hob with hob
     subst hob
     obtain⟨hy1,hy2,hy3⟩:=hch.y b hbc
     have hy:=htr (c:=c) hs ho hae hy3 hy1
     have hnAb:nA dn+b.q≤nA ch:=by
      have h1:nA (dn++[b])≤nA (dn++[b]++r):=acL
      rw[wy,nk] at h1
      rw[hs];exact h1
     have hbig1:(nA dn+b.q)*by_≤140737488355328:=iO (pf _ hnAb) hch.big.1
     have hbig2:nA dn+b.q≤maxLen:=iO hnAb hch.big.2
     obtain⟨hnew0,hnewb⟩:=hch.new b hbc
     have hgo: ∀(β':Nat→Nat) (a':Act) (w':World) (σ':St) (c':Nat) (rest':List CellD),σ'.n=n→nA dn+b.q≤c'→c'≤maxLen→rest'.length=(c'-(nA dn+b.q))*sz→
      (∀t x,aF t (Bq c' (dn++[b])++uQ (fun j=>listed.getD j false) opn tm0)=some x→aF t σ'.tm=some x)→(∀k cc,aF k (Fx e rest' (dn++[b])++bx)=some cc→aF k σ'.bx=some cc)→
      Rel av w0 σ'.n σ'.T σ'.B β' a' w'→wpAny P .any ops Q fuel (listed.setIfInBounds b.i true) a' w':=by
      intro β' a' w' σ' c' rest' hn' g1 g2 g3 htm hbx' hr'
      have hL:(fun s=>aF s (Bq c' (dn++[b])++uQ (fun j=>(listed.setIfInBounds b.i true).getD j false) opn tm0))=fun s=>aF s (Bq c' (dn++[b])++uQ (fun j=>listed.getD j false) opn tm0):=by
       funext t
       rw[cH,cH,gC,gC]
       congr 2
       refine wY fun j x hm=>?_
       rw[hmi,if_neg]
       intro e1
       have:=(ho1 j t x hm).1
       rw[e1,hiC] at this;cases this
      refine ih _ β' a' w' (dn++[b]) r c' rest' hsz' hu' hcl' hp' (by rw[hs,nk];rfl) (fun b' hb'=>?_) (fun b' hb'=>?_) ⟨by rw[wy];exact g1,g2,by rw[wy];exact g3⟩ ?_
      ·rw[hmi];split
       ·rfl
       ·rename_i hne'
        rcases mW.1 hb' with h|h
        ·exact hdn b' h
        ·rw[nD] at h;exact absurd (by rw[h]) hne'
      ·rw[hmi,if_neg]
       ·exact htd b' (fC _ hb')
       ·intro e1
        obtain⟨l,p,r',e2⟩:=An b r hb'
        have h0:=ho
        rw[←e1] at h0
        have h1:=hch.nx (dn++l) p b' r' (by rw[hs,e2,nk]) _ h0
        have h2:=hae _ h1
        rw[htd p (by rw[e2];simp)] at h2;cases h2
      ·rw[hL]
       have hsub:Sub σ' ⟨n,Bq c' (dn++[b])++uQ (fun j=>listed.getD j false) opn tm0,Fx e rest' (dn++[b])++bx⟩:=by
        refine⟨hn'.symm,htm,hbx',fun t x k hx hk=>?_⟩
        show aF k (Fx e rest' (dn++[b])++bx)≠none
        have hx:aF t (Bq c' (dn++[b])++uQ (fun j=>listed.getD j false) opn tm0)=some x:=hx
        rw[zh] at hx
        rw[cH,vi]
        rw[cH,bv] at hx
        by_cases htb:b.t=t
        ·rw[if_pos htb] at hx
         injection hx with hx
         subst hx
         injection hk with hk
         subst hk
         rw[bv,if_pos rfl];simp
        ·rw[if_neg htb] at hx
         have hx:(aF t []:Option DV).or (aF t (uQ (fun j=>listed.getD j false) opn tm0))=some x:=hx
         rw[show(aF t []:Option DV)=none from rfl,rF,gC] at hx
         cases ho9:oF (fun j=>listed.getD j false) opn t with
         |some x9=>
          rw[ho9] at hx
          injection hx with hx
          subst hx
          obtain⟨j,g4,_⟩:=zJ ho9
          rw[(ho1 _ _ _ g4).2.1] at hk;cases hk
         |none=>
          rw[ho9,rF] at hx
          have h5:=hwf t x k hx hk
          cases h6:aF k bx with
          |none=>exact absurd h6 h5
          |some cc=>cases h7:aF k [(b.t,e,uA dn++b.ys++rest')]<;>simp
       exact hr'.sub hsub
     have hT9: ∀t x,aF t (uQ (fun j=>listed.getD j false) opn tm0)=some x→(∀b'∈ch,b'.t≠t)∧ ∀b'∈ch,jS x≠some b'.t:=by
      intro t x hx
      refine⟨fun b' hb' e1=>(by rw[←e1,hnl _ b' hb'] at hx;cases hx),fun b' hb' hk=>?_⟩
      rw[gC] at hx
      cases ho9:oF (fun j=>listed.getD j false) opn t with
      |some x9=>
       rw[ho9] at hx
       injection hx with hx
       subst hx
       obtain⟨j,g4,_⟩:=zJ ho9
       rw[(ho1 _ _ _ g4).2.1] at hk;cases hk
      |none=>
       rw[ho9,rF] at hx
       exact hwf t x _ hx hk (hch.new b' hb').2
     have hdlt:=hc.dn b.i _ b.t ho rfl
     rcases List.eq_nil_or_concat dn with hdn0|⟨l,p,hdn0⟩
     ·subst hdn0
      obtain⟨us0,hbase⟩:=hch.base
      obtain⟨hbt0,hq0⟩:=hch.bx0 b r hs
      have hx:=htr (c:=c) hs ho hae hbt0 hbase
      have hG:=Cz (P:=P) (ops:=ops) (N:=n) (t:=b.t) (ty:=ty) (pos:=pos) (af:=af) (g:=none) hch.hU (x:=x0) hx hy hy2 hq0 (by simpa [nA] using hbig1) (by simpa [nA] using hbig2) (bx:=Fx e rest []++bx) hnewb rfl
      obtain⟨hw,hg⟩:=hG av w0 β a w hr (fun t ht=>by injection ht with ht;subst ht;exact hdlt)
      refine(if_pos hw).mpr (.inl (hg.wp fun v w' ⟨σ',β',⟨c',rest',q1,q2,q3,q4⟩,hn',hr'⟩=>?_))
      subst q4
      refine hgo β' _ w' ⟨n,(b.t,.o b.t b.q c')::(Bq c []++uQ (fun j=>listed.getD j false) opn tm0),(b.t,e,b.ys++rest')::(Fx e rest []++bx)⟩ c' rest' rfl (by simpa [nA] using q1) q2 (by simpa [nA] using q3) (fun t x hx=>?_) (fun k cc hk=>?_) hr'
      ·rw[zh] at hx
       rw[cH,bv] at hx
       show aF t ((b.t,_)::(uQ _ opn tm0))=some x
       rw[bv]
       by_cases htb:b.t=t
       ·rw[if_pos htb] at hx⊢;simpa [nA] using hx
       ·rw[if_neg htb] at hx⊢;simpa [aF] using hx
      ·rw[vi] at hk
       rw[cH,bv] at hk
       show aF k ((b.t,_)::bx)=some cc
       rw[bv]
       by_cases htb:b.t=k
       ·rw[if_pos htb] at hk⊢;simpa [uA] using hk
       ·rw[if_neg htb] at hk⊢;simpa [aF] using hk
     ·rw[List.concat_eq_append] at hdn0
      subst hdn0
      have hpc:p∈ch:=by rw[hs];simp
      have hlast:LO x0 (l++[p])=.tmp p.t:=by unfold LO;rw[List.getLast?_concat]
      have hpt:p.t≠b.t:=by
       intro e1
       obtain⟨o1,g1,g2⟩:=hop p hpc
       obtain⟨o2,g3,g4⟩:=hop b hbc
       have h1:=hc.dist p.i b.i o1 o2 b.t (hch.lt p hpc) (hch.lt b hbc) g1 g3 (by rw[g2,e1]) g4
       have h2:=hdn p (by simp)
       rw[h1,hif'] at h2;cases h2
      have hx:cG (fun s=>aF s (Bq c (l++[p])++uQ (fun j=>listed.getD j false) opn tm0)) (LO x0 (l++[p]))=some (.o p.t (nA (l++[p])) c):=by
       rw[hlast]
       show aF p.t _=_
       rw[zh,cH,bv,if_pos rfl,wy];rfl
      have hbx9:aF p.t (Fx e rest (l++[p])++bx)=some (e,uA (l++[p])++rest):=by
       rw[vi,cH,bv,if_pos rfl,Gu];rfl
      have hul:(uA (l++[p])).length=nA (l++[p])*sz:=OE fun b' hb'=>(hch.y b' (by rw[hs];exact AP _ hb')).2.1
      have hG:=Bl (P:=P) (ops:=ops) (N:=n) (t:=b.t) (ty:=ty) (pos:=pos) (af:=af) (g:=none) hch.hU hx hy hbx9 (by rw[dt,hul,hb.2.2,←oh];congr 1;have:=hb.1;omega) hy2 hch.hm hb.1 hb.2.1 hbig1 hbig2 (pre:=uA (l++[p]))
       (by rw[←hul];simp) (.inr (by rw[vi,cH,bv,if_neg hpt];simpa [aF] using hnewb)) rfl
      obtain⟨hw,hg⟩:=hG av w0 β a w hr (fun t ht=>by injection ht with ht;subst ht;exact hdlt)
      refine(if_pos hw).mpr (.inl (hg.wp fun v w' ⟨σ',β',⟨c',rest',q1,q2,q3,q4⟩,hn',hr'⟩=>?_))
      subst q4
      refine hgo β' _ w' ⟨n,(b.t,.o b.t (nA (l++[p])+b.q) c')::lF p.t (Bq c (l++[p])++uQ (fun j=>listed.getD j false) opn tm0),(b.t,e,uA (l++[p])++b.ys++rest')::jY p.t (Fx e rest (l++[p])++bx)⟩ c' rest' rfl q1 q2 q3 (fun t x hx=>?_) (fun k cc hk=>?_) hr'
      ·rw[zh] at hx
       rw[cH,bv] at hx
       show aF t ((b.t,_)::lF p.t _)=some x
       rw[bv]
       by_cases htb:b.t=t
       ·rw[if_pos htb] at hx⊢;simpa using hx
       ·rw[if_neg htb] at hx⊢
        have hx:aF t (uQ (fun j=>listed.getD j false) opn tm0)=some x:=by simpa [aF] using hx
        obtain⟨g1,g2⟩:=hT9 t x hx
        rw[mm,cH,hhd c (l++[p]) (b::r) t hs g1,rF,hx]
        dsimp only
        rw[if_neg (g2 p hpc)]
      ·rw[vi] at hk
       rw[cH,bv] at hk
       show aF k ((b.t,_)::jY p.t _)=some cc
       rw[bv]
       by_cases htb:b.t=k
       ·rw[if_pos htb] at hk⊢;simpa using hk
       ·rw[if_neg htb] at hk⊢
        have hk:aF k bx=some cc:=by simpa [aF] using hk
        rw[ko,if_neg (fun e1=>by rw[e1,(hch.new p hpc).2] at hk;cases hk),cH,hhb rest (l++[p]) (b::r) k cc hs hk,rF];exact hk
theorem Fh {l:List Oper}{Q:Exit→St→Prop}(m:Nat) (C:List Nat) (hm:P.follows .mixedOrders=true) (hc:Kv l.toArray m n=true) (hpre:l.take m=pre) (htail:l.drop m=tail)
 (h:da P l.toArray C bx 0 pre tm0 fun tm=> ∃(U e:TypeId) (sz by_:Nat) (zs:List CellD) (x0:Operand) (ch:List AppS),ChainA P l.toArray C m U e sz by_ zs x0 tm0 tm bx ch∧
  ∀c rest,nA ch≤c→c≤maxLen→rest.length=(c-nA ch)*sz→dl P l.toArray tail ⟨n,Bq c ch++tm,Fx e rest ch++bx⟩ (Q .normal)):Dw P (.region id l.toArray true) ⟨n,tm0,bx⟩ Q:=fun av w0 β a w hr=>by
 have hC:=Chk.of hc
 subst hpre htail
 obtain⟨opn,h1,h2,h4,U,e,sz,by_,zs,x0,ch,hch,hdl⟩:=DP _ _ _ h
 have hml:m≤l.length:=by simpa using hC.le
 have hget: ∀ {i:Nat}{o:Oper},(l.take m)[i]? =some o→i<m∧l.toArray[i]? =some o:=by
  intro i o hi
  grind
 refine wp_region_any hm ?_
 refine TB (av:=av) (w0:=w0) (Q:=fun e a' w'=> ∃σ' β',σ'.n=n∧Q e σ'∧Rel av w0 σ'.n σ'.T σ'.B β' a' w') hC (opn:=opn) ?_ ?_ h4 hch (fun t x k hx hk=>hr.wf t x k hx hk) ?_ l.toArray.size (Array.replicate l.toArray.size false) β a _ [] ch 0 [] (by simp) (by unfold Ob;refine iO List.countP_le_length ?_;simp) ?_ ?_ rfl (fun b hb=>by cases hb) ?_ ?_ ?_
 ·intro i d x hmem
  grind
 ·intro i him hiC
  have hil:i<l.length:=by omega
  have:=h2 i l[i] (by rw[rf,if_pos him];exact f9 hil) (by rw[gV];exact hiC)
  grind
 ·intro c rest β a w fuel g1 g2 g3 hf hr'
  refine zO hC (K:=Q .normal) (fun σ' β a w hn hq hr=>⟨σ',β,hn,hq,by rw[hn];exact hr⟩) (l.drop m) m ⟨n,Bq c ch++uQ (fun _=>true) opn tm0,Fx e rest ch++bx⟩ fuel β a w (cg _) (fun j=>by simp) (by simp;omega) rfl (hdl c rest g1 g2 g3) hr' (by simpa using hf)
 ·intro i o j hi
  simp[Array.getD] at hi
 ·intro t _
  simp[Array.getD]
  try (split<;>rfl)
 ·intro b _
  simp[Array.getD]
  try (split<;>rfl)
 ·exact⟨Nat.le_refl _,eF _,by simp[nA]⟩
 ·refine hr.drew.congr (fun t=>?_) (fun k=>rfl)
  show aF t (Bq 0 []++uQ _ opn tm0)=aF t tm0
  rw[cH]
  show(aF t []).or _=_
  rw[show(aF t []:Option DV)=none from rfl,rF,gC,Fg,rF]
  simp[Array.getD]
  try (split<;>rfl)
end
end Go.Proofs.YtegpmhlfjkhjmaaGreat
