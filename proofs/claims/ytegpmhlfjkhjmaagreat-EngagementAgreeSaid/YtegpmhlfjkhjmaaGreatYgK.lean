/-Plain:bounds and first facts of the values that curves are judged by. -/
import Derived.Test.YtegpmhlfjkhjmaaGreatYgJ
namespace Go.Proofs.YtegpmhlfjkhjmaaGreat
open Go Go.RowKit
variable {a:Act}{args cap:Array Operand}{at_:Array TypeId}{k:Ci}{f:FuncId}{ki yk:IntKind}{tm:List (Nat×DV)}{bx:List (Nat×TypeId×List CellD)}{cs cs0 cs1 us ys zs zs':List CellD}{ds rs:List D0}{vl vs:List Value}{l:Ln}{K N b by_ m n t:Nat}{β:Nat→Nat}{L V:Nat→Prop}{fo h x y:Operand}{p q:Pt}{c:Rat}{U e xt yt:TypeId}{v:Value}{w w':World}
variable {ty:TypeId}{pos:String}{af:Array Edge}{g:Option (Nat×Bool)}{dst:Option Nat}
theorem kj:type_of% @List.mem_singleton:=@List.mem_singleton
theorem qE:type_of% @Rat.mul_eq_zero:=@Rat.mul_eq_zero
theorem yv (A B C D M N:Rat): -1≤eE A B C D M N∧eE A B C D M N≤1:=by
 unfold eE
 split
 ·decide
 ·exact Kz (gC _ _ _) (jr (gC _ _ _) (dA _ _)) (gC _ _ _)
theorem T5 (a b c:Rat): -1≤s3 a b c∧s3 a b c≤1:=by
 unfold s3
 have h1:=dA a 0
 have h2:=dA b 0
 grind
theorem eJ (p q:Pt): -1≤cx p q∧cx p q≤1:=yv _ _ _ _ _ _
theorem Y6 (p q:Pt): -1≤cP p q∧cP p q≤1:=by
 unfold cP rI
 split
 ·exact yv _ _ _ _ _ _
 ·exact yv _ _ _ _ _ _
theorem aaC {k:Nat}{b:Rat}(h:Rz k b) (hk:1≤k):Rz k (rB b c):=by
 unfold rB
 split
 ·exact eK hk
 ·exact h
theorem Yg {k:Nat}{b:Rat}(h:Rz k c) (hk:1≤k):Rz k (rC b c):=by
 unfold rC
 split
 ·exact eK hk
 ·exact h
theorem qP {x:Int}(h: -1000000000<x) (h':x<1000000000):Sz 1 x:=by
 have e:pw 1=1000000000:=by decide+kernel
 exact⟨by omega,by omega⟩
theorem Ad {n:Int}(h: -1≤n∧n≤1):IntKind.i64.wrap (0-n)= -n:=by rw[Int.zero_sub];exact ii (by omega) (by omega)
theorem aaV (h:(cx p q !=0)=true):cP p q=cx p q:=QX h
theorem abA (h:(cx p q !=0)=false):cP p q=cy p q:=Rv h
theorem Uu (h:decide (qf p k.y>0)=true):j6 k p=true:=by unfold j6;rw[h];rfl
theorem Qv (h:decide (qf p k.y>0)=false) (g:(qf p k.y==0)=false):j6 k p=false:=by unfold j6;rw[h,g];rfl
theorem Im (h:decide (qf p k.y>0)=false) (g:(qf p k.y==0)=true):j6 k p=decide (jm p k.x>0):=by unfold j6;rw[h,g];rfl
theorem Rj (h:(!(j6 k p==j6 k q))=true) (g:j6 k q=true):fh k p q= -1:=by
 unfold fh;rw[show(j6 k p !=j6 k q)=true from h,if_pos rfl,g,if_pos rfl]
theorem M6 (h:(!(j6 k p==j6 k q))=true) (g:j6 k q=false):fh k p q=1:=by
 unfold fh;rw[show(j6 k p !=j6 k q)=true from h,if_pos rfl,g];rfl
theorem QG (h:(!(j6 k p==j6 k q))=false) (g:j6 k p=true):fh k p q= -cx p q:=by
 unfold fh;rw[show(j6 k p !=j6 k q)=false from h,if_neg (by decide),g,if_pos rfl]
theorem Ng (h:(!(j6 k p==j6 k q))=false) (g:j6 k p=false):fh k p q=cx p q:=by
 unfold fh;rw[show(j6 k p !=j6 k q)=false from h,if_neg (by decide),g];rfl
theorem aam {f:Pt}(h:(!(decide (fh k p f<0)==decide (fh k q f<0)))=true) (g:decide (fh k q f<0)=true):ru k f p q= -1:=by
 unfold ru;rw[show(decide (fh k p f<0) !=decide (fh k q f<0))=true from h,if_pos rfl,g,if_pos rfl]
theorem W9 {f:Pt}(h:(!(decide (fh k p f<0)==decide (fh k q f<0)))=true) (g:decide (fh k q f<0)=false):ru k f p q=1:=by
 unfold ru;rw[show(decide (fh k p f<0) !=decide (fh k q f<0))=true from h,if_pos rfl,g];rfl
theorem Zx {f:Pt}(h:(!(decide (fh k p f<0)==decide (fh k q f<0)))=false):ru k f p q=fh k p q:=by
 unfold ru;rw[show(decide (fh k p f<0) !=decide (fh k q f<0))=false from h];rfl
theorem Xz {f t:Pt}(h:decide (cP f t>0)=true):(Cv.seg l f t).ord p q= -cP p q:=by
 show(if _ then _ else _)=_
 grind
theorem W2 {f t:Pt}(h:decide (cP f t>0)=false):(Cv.seg l f t).ord p q=cP p q:=by
 show(if _ then _ else _)=_
 grind
theorem Wt {w:Bool}{f t:Pt}(h:(!w)=true):(Cv.arc k w f t).ord p q=ru k f p q:=by
 show(if _ then _ else _)=_
 grind
theorem XV {w:Bool}{f t:Pt}(h:(!w)=false):(Cv.arc k w f t).ord p q=ru k.mir f.flip p.flip q.flip:=by
 show(if _ then _ else _)=_
 grind
theorem W8 {c:Cv}(h:c.supp p=false):c.on p=false:=by unfold Cv.on;rw[h];rfl
theorem TW {c:Cv}(h:c.supp p=true) (g:decide (c.ord c.p p≤0)=false):c.on p=false:=by unfold Cv.on;rw[h,g];rfl
theorem T1 {c:Cv}(h:c.supp p=true) (g:decide (c.ord c.p p≤0)=true):c.on p=decide (c.ord p c.q≤0):=by unfold Cv.on;rw[h,g];rfl
theorem WR (h:tZ p.b1 p.b2 p.c=true) (hs:iC p.c=true):p.b1=0∧p.b2=0∧p.c=0:=by
 unfold tZ at h
 split at h
 ·grind
 grind
theorem Vj (h:tZ p.b1 p.b2 p.c=true) (hs:iC p.c=true):vA l p+vB l p*rt p.c=vA l p∧0=rB (vB l p) p.c∧0=rC (vB l p) p.c:=by
 obtain⟨h1,h2,h3⟩:=WR h hs
 have hb:vB l p=0:=by unfold vB;rw[h1,h2];grind
 rw[hb]
 exact⟨by grind,(Tg (.inl rfl)).symm,(Sp (.inl rfl)).symm⟩
theorem No (hl:GL l) (hp:GP p):Rz 1000 (vA l p):=(((hl.a.mul hp.a1).add (hl.b.mul hp.a2)).sub hl.c).mono (by decide)
theorem O3 (hl:GL l) (hp:GP p):Rz 1000 (vB l p):=((hl.a.mul hp.b1).add (hl.b.mul hp.b2)).mono (by decide)
theorem Qm (hk:GK k) (hp:GB p):Rz 40002 (p.a1-k.x)∧Rz 40002 (p.a2-k.y):=⟨(hp.a1.sub hk.x).mono (by decide),(hp.a2.sub hk.y).mono (by decide)⟩
theorem N7 (hk:GK k) (hp:GB p):Rz 400000 (zf (p.a1-k.x) (p.a2-k.y) p.b1 p.b2 p.c):=by
 obtain⟨h1,h2⟩:=Qm hk hp
 exact((((h1.mul h1).add (h2.mul h2)).add (((hp.b1.mul hp.b1).add (hp.b2.mul hp.b2)).mul hp.c))).mono (by decide)
theorem PH (hk:GK k) (hp:GB p):Rz 400010 (Ac k p):=((N7 hk hp).add hk.q.neg).mono (by decide)
theorem OL (hk:GK k) (hp:GB p):Rz 400000 (qC k p):=by
 obtain⟨h1,h2⟩:=Qm hk hp
 exact(((h1.mul hp.b1).add (h2.mul hp.b2)).add ((h1.mul hp.b1).add (h2.mul hp.b2))).mono (by decide)
theorem Ri (x:Rat):0≤x*x:=by
 rcases Rat.le_total (a:=0) (b:=x) with h|h
 ·exact f7 h h
 ·have:=f7 (a:= -x) (b:= -x) (by grind) (by grind);grind
theorem TJ {x:Rat}(h:x*x=0):x=0:=by
 by_cases e:x=0
 ·exact e
 ·exact absurd (qE.1 h) (by simp[e])
theorem Yw {x y:Rat}(h:x*x+y*y=0):x=0∧y=0:=by
 have h1:=Ri x
 have h2:=Ri y
 exact⟨TJ (by grind),TJ (by grind)⟩
theorem Bx {x:Rat}:aw x 0=0↔x=0:=by
 unfold aw
 constructor
 ·grind
 grind
theorem jl (x:Rat):aw x x=0:=by unfold aw;rw[if_neg (by grind),if_neg (by grind)]
theorem Oi {x:Rat}(h: ¬aw x 0<0):0≤x:=by
 unfold aw at h
 split at h
 ·grind
 grind
theorem rA {x:Rat}(h: ¬aw x 0<0) (g: ¬aw x 0=0):0<x:=by
 have h1:=Oi h
 have h2:x≠0:=fun e=>g (Bx.2 e)
 grind
theorem Ks {k:Nat}{x:Int}(h:Sz (k+k) x):Sz k (bO x):=by
 have h0:=eg x
 rcases l5 x 0 with hx|hx
 ·rw[uW hx]
  have:=cH k
  exact⟨by omega,by omega⟩
 ·have h1:=qL hx
  have h2:pw (k+k)=pw k*pw k:=pf k k
  have h3:=h.lt
  have h4:=cH k
  refine⟨?_,by omega⟩
  rcases l5 (bO x) (pw k) with g|g
  ·exact g
  ·have h5:pw k*pw k≤bO x*bO x:=pu g g (by omega) h0
   omega
theorem PY {k:Nat}(h:Rz (k+k) c):Rz k (rt c):=Rz.of (Ks h.n) (Ks h.d) (by have:=xP (den_pos c);omega)
theorem we {a1 b1 a2 b2:Rat}(h1:Rz 52 a1) (h2:Rz 21 b1) (h3:Rz 52 a2) (h4:Rz 21 b2) (h5:Rz 78 c) (h0:0<c) (hb: ¬(b1=0∧b2=0)):GP (dU a1 b1 a2 b2 c):=by
 unfold dU
 cases hs:iC c with
 |true=>
  exact GP.rat ((h1.add (h2.mul (PY (k:=39) h5))).mono (by decide)) ((h3.add (h4.mul (PY (k:=39) h5))).mono (by decide))
 |false=>
  refine⟨h1.mono (by decide),h2.mono (by decide),h3.mono (by decide),h4.mono (by decide),h5.mono (by decide),fun _=>⟨h1,h3⟩,?_⟩
  unfold tZ
  grind
section
variable {l m:Ln}{k d:Ci}
theorem yl (hl:GL l) (hk:GK k):Rz 29 (tj l k.x k.y):=(((hl.a.mul hk.x).add (hl.b.mul hk.y)).sub hl.c).mono (by decide)
theorem qH (hl:GL l):Rz 17 (fM l):=((hl.a.mul hl.a).add (hl.b.mul hl.b)).mono (by decide)
theorem TV (hl:GL l) (hk:GK k):Rz 46 (tj l k.x k.y/fM l):=(yl hl hk).div (qH hl) hl.n
theorem mg (hl:GL l) (hk:GK k):Rz 52 (l7 l k):=(hk.x.sub ((TV hl hk).mul hl.a)).mono (by decide)
theorem mh (hl:GL l) (hk:GK k):Rz 52 (ms l k):=(hk.y.sub ((TV hl hk).mul hl.b)).mono (by decide)
theorem FH (hl:GL l) (hk:GK k):Rz 78 (qi l k):=(((qH hl).mul hk.q).sub ((yl hl hk).mul (yl hl hk))).mono (by decide)
theorem TC (hl:GL l):Rz 21 (l.b/fM l):=(hl.b.div (qH hl) hl.n).mono (by decide)
theorem Ut (hl:GL l):Rz 21 (-l.a/fM l):=(hl.a.neg.div (qH hl) hl.n).mono (by decide)
theorem UH (hl:GL l): ¬(l.b/fM l=0∧ -l.a/fM l=0):=by
 rintro⟨h1,h2⟩
 have hn:=hl.n
 refine hn ?_
 unfold fM
 grind
theorem N8 (hl:GL l) (hk:GK k) (h: ¬aw (qi l k) 0<0) (g: ¬aw (qi l k) 0=0):GP (TH l k):=
 we (mg hl hk) (TC hl) (mh hl hk) (Ut hl) (FH hl hk) (rA h g) (UH hl)
theorem OT (hl:GL l) (hk:GK k) (h: ¬aw (qi l k) 0<0) (g: ¬aw (qi l k) 0=0):GP (TA l k):=
 we (mg hl hk) (TC hl).neg (mh hl hk) (Ut hl).neg (FH hl hk) (rA h g) (fun e=>UH hl ⟨by grind,by grind⟩)
theorem MA (hl:GL l) (hk:GK k): ∀p∈ve l k,GP p:=by
 intro p hp
 unfold ve at hp
 split at hp
 ·grind
 ·rename_i h
  split at hp
  ·rw[kj] at hp;subst hp
   exact GP.rat ((mg hl hk).mono (by decide)) ((mh hl hk).mono (by decide))
  ·rename_i g
   split at hp
   ·rcases dM.1 hp with e|e
    ·rw[e];exact N8 hl hk h g
    ·rw[kj] at e;rw[e];exact OT hl hk h g
   ·rcases dM.1 hp with e|e
    ·rw[e];exact OT hl hk h g
    ·rw[kj] at e;rw[e];exact N8 hl hk h g
theorem AW (hk:GK k):Rz 8 (CF k):=(((hk.x.mul hk.x).add (hk.y.mul hk.y)).sub hk.q).mono (by decide)
theorem IQ:Rz 1 (2:Rat):=⟨by rw[show(2:Rat).num=2 from rfl];exact qP (by decide) (by decide),by rw[show((2:Rat).den:Int)=1 from rfl];exact Sz.one (by decide)⟩
theorem vU (hk:GK k) (hd:GK d) (h:wi k d=false):GL (lv k d):=by
 refine⟨(IQ.mul (hd.x.sub hk.x)).mono (by decide),(IQ.mul (hd.y.sub hk.y)).mono (by decide),((AW hd).sub (AW hk)).mono (by decide),fun e=>?_⟩
 have e1:=Yw (show(2*(d.x-k.x))*(2*(d.x-k.x))+(2*(d.y-k.y))*(2*(d.y-k.y))=0 from e)
 have hx:k.x=d.x:=by grind
 have hy:k.y=d.y:=by grind
 unfold wi yV at h
 rw[hx,hy] at h
 simp[jl] at h
theorem yE (hk:GK k) (hd:GK d): ∀p∈BM k d,GP p:=by
 intro p hp
 unfold BM at hp
 split at hp
 ·grind
 ·rename_i h
  exact MA (vU hk hd (by simpa using h)) hk p hp
end
def iQ (k d:Ci):Bool:=yV k.x d.x&&yV k.y d.y&&yV k.q d.q
theorem RdC.clo_eq {g:FuncId}{xs:List CellD}(h:RdC V w v (.k g xs)): ∃cs:Array Value,v=.func (.func g) #[] cs∧RdCs V w cs.toList xs:=by
 cases h with
 |k _ cs _ h1 h2=>exact⟨cs,rfl,by simpa using h1,fun j v u hv hu=>h2 j v u (by simpa using hv) hu⟩
theorem RdC.ptr_eq (h:RdC V w v (.p us)):
 ∃b off,∃vs:List Value,v=.pointer (some ⟨b,off,none⟩)∧b<w.heap.size∧ ¬V b∧RdCs V w vs us∧ ∀(j:Nat) (u:Value),vs[j]? =some u→w.cell? ⟨b,off+j,none⟩=some u:=by
 cases h with
 |p b off _ cv h1 h2 h3 h4=>
  refine⟨b,off,(List.range us.length).map cv,rfl,h1,h2,⟨by simp,fun j v u hv hu=>?_⟩,fun j u hu=>?_⟩
  ·grind
  grind
section
variable {P:Program}{ops:Array Oper}{T:TF}{B:BF}
theorem lp 
 (hU:sw P U=some (true,n)) (hx:cO T x=some (.v (.c (.p cs)))) (hu:cs.take n=us) (hn:us.length=n) (hg:gd ops ⟨dst,.load U x,ty,pos,af,g⟩ T=some true):
 Sem P ops ⟨dst,.load U x,ty,pos,af,g⟩ T B (.r (.v (.a us))):=
 bG hg (qo rfl) (fun V β a w hs=>by
  obtain⟨b,off,vs,hp,_,_,hr,hc⟩:=RdC.ptr_eq (ap hs (by simp[Op.operands]) hx)
  have hr2:=hr.take n
  rw[hu] at hr2
  have hrun:=kV (w:=w) hU (b:=b) (off:=off) (vs:=vs.take n) (by rw[hr2.1,hn]) (fun j v hv=>by
   rw[tL] at hv
   split at hv
   ·exact hc j v hv
   ·cases hv)
  refine⟨_,?_,_,rfl,by simpa using hr2⟩
  simp only[execOp,Instr.loadAt,hp,Instr.sureAddr,eH,fQ,fa,hrun])
theorem xk {u:CellD}
 (hU:sw P U=some (false,n)) (hx:cO T x=some (.v (.c (.p cs)))) (hu:cs[0]? =some u) (hg:gd ops ⟨dst,.load U x,ty,pos,af,g⟩ T=some true):
 Sem P ops ⟨dst,.load U x,ty,pos,af,g⟩ T B (.r (.v (.c u))):=
 bG hg (qo rfl) (fun V β a w hs=>by
  obtain⟨b,off,vs,hp,_,_,hr,hc⟩:=RdC.ptr_eq (ap hs (by simp[Op.operands]) hx)
  have hlt:0<cs.length:=(jH.1 hu).1
  have hv:vs[0]? =some (vs[0]'(by rw[hr.1];exact hlt)):=ip _
  have hrun:=kU (P:=P) (w:=w) hU (b:=b) (off:=off) (by have:=hc 0 _ hv;simpa using this)
  refine⟨_,?_,hr.2 0 _ _ hv hu⟩
  simp only[execOp,Instr.loadAt,hp,Instr.sureAddr,eH,fQ,fa,hrun])
theorem MV {k:IntKind}{m n r:Int}
 (hx:cO T x=some (.v (.c (.i k m)))) (hy:cO T y=some (.v (.c (.i yk n)))) (h0: ¬n<0) (hr:m.fdiv (2^(min n.toNat k.bits))=r) (hg:gd ops ⟨dst,.binOp .shr xt x y yt,ty,pos,af,g⟩ T=some true):
 Sem P ops ⟨dst,.binOp .shr xt x y yt,ty,pos,af,g⟩ T B (.r (.v (.c (.i k r)))):=
 bG hg (qo rfl) (fun V β a w hs=>by
  have e1:a.eval x=.int k m:=fO (ap hs (x:=x) (by simp[Op.operands]) hx)
  have e2:a.eval y=.int yk n:=fO (ap hs (x:=y) (by simp[Op.operands]) hy)
  subst hr
  exact⟨.int k (m.fdiv (2^(min n.toNat k.bits))),by simp[execOp,e1,e2,eqGuard,binOp,Op.shift,h0],.i _ _⟩)
def J4 (T:TF):List Operand→Option (List CellD)
 |[]=>some []
 |x::xs=>match cO T x,J4 T xs with
  |some (.v (.c u)),some us=>some (u::us)
  |_,_=>none
theorem Aa {o:Oper}{V:Nat→Prop}{β:Nat→Nat}{a:Act}{w:World}(hs:Sees V (iK ops o) T B β a w): ∀(xs:List Operand) (us:List CellD),(∀x∈xs,x∈o.op.operands)→J4 T xs=some us→RdCs V w (xs.map a.eval) us
 |[],us,_,h=>by injection h with h;subst h;exact vm
 |x::xs,us,hx,h=>by
  unfold J4 at h
  split at h
  ·rename_i u us' hu hus
   injection h with h
   subst h
   exact qA (ap hs (hx x (by simp)) hu) (Aa hs xs us' (fun y hy=>hx y (by simp[hy])) hus)
  ·cases h
theorem pM 
 (ha:J4 T cap.toList=some us) (hg:gd ops ⟨dst,.makeFunc (.func f) #[] cap,ty,pos,af,g⟩ T=some true):
 Sem P ops ⟨dst,.makeFunc (.func f) #[] cap,ty,pos,af,g⟩ T B (.r (.v (.c (.k f us)))):=
 bG hg (qo rfl) (fun V β a w hs=>by
  have h2:=Aa hs cap.toList us (fun x hx=>by have hx2:=Array.mem_toList_iff.1 hx;simp[Op.operands,hx2]) ha
  refine⟨.func (.func f) #[] (cap.map a.eval),by simp[execOp,Instr.makeFunc],.k f _ us (by have:=h2.1;simpa using this) (fun j v u hv hu=>h2.2 j v u ?_ hu)⟩
  rw[←wV,uj];exact hv)
theorem RdL.append {V:Nat→Prop}{w:World}: ∀ {vs vs':List Value}{ds ds':List D0},RdL V w vs ds→RdL V w vs' ds'→RdL V w (vs++vs') (ds++ds')
 |[],vs',[],ds',_,h'=>h'
 |[],_,_::_,_,h,_=>by have:=h.1;simp at this
 |_::_,_,[],_,h,_=>by have:=h.1;simp at this
 |v::vs,vs',d::ds,ds',h,h'=>by
  obtain⟨h1,h2⟩:=h.uncons
  exact tQ h1 (RdL.append h2 h')
theorem RdCs.toL (h:RdCs V w vs us):RdL V w vs (us.map .c):=by
 refine⟨by simp[h.1],fun j v d hv hd=>?_⟩
 rw[qY] at hd
 cases hu:us[j]? with
 |none=>rw[hu] at hd;cases hd
 |some u=>rw[hu] at hd;injection hd with hd;subst hd;exact h.2 j v u hv hu
theorem oV 
 (hf:cO T fo=some (.v (.c (.k f us)))) (ha:oY T args.toList=some ds) (hok:Ok P f (ds++us.map .c) rs) (hg:gd ops ⟨dst,.call ⟨.value fo,args,at_⟩,ty,pos,af,g⟩ T=some true):
 Sem P ops ⟨dst,.call ⟨.value fo,args,at_⟩,ty,pos,af,g⟩ T B (.r (xd rs)):=by
 refine⟨qo (by unfold xd;split<;>rfl),fun V β a w hs=>⟨d9 hs hg,?_⟩⟩
 obtain⟨cs,h1,h1r⟩:=RdC.clo_eq (ap hs (x:=fo) (by simp[Op.operands,Call.operands]) hf)
 have h2:=iS hs args.toList ds (fun x hx=>by have hx2:=Array.mem_toList_iff.1 hx;simp[Op.operands,Call.operands,hx2]) ha
 have hc:=hok.cal
 unfold fj at hc
 cases hfn:P.funcs[f]? with
 |none=>rw[hfn] at hc;cases hc
 |some fn=>
  rw[hfn] at hc
  simp only[dF,bne_iff_ne,ne_eq,rl] at hc
  have hrun:(execOp a.eval ⟨dst,.call ⟨.value fo,args,at_⟩,ty,pos,af,g⟩).run P w=.ok (.enter f (args.map a.eval++cs)) w:=by
   have hb2:fn.body≠none:=by have:=hc.2;cases hbb:fn.body with
    |none=>rw[hbb] at this;cases this
    |some c=>simp
   simp[execOp,resolve,h1,Deferred.ofValue,invoke,callFunc,program,Sem.run,hfn,hc.1,hb2]
  unfold Gives
  rw[hrun]
  refine(hok.run V (args.map a.eval++cs) w hs.av (by rw[Array.toList_append,wV];exact h2.append h1r.toL)).mono ?_
  rintro e w' ⟨v,rfl,hr,hb⟩
  refine⟨v,rfl,?_,hb⟩
  unfold TR at hr
  split at hr
  ·exact hr
  ·rename_i hne
   have e2:xd rs=.t rs:=by
    unfold xd
    grind
   rw[e2];exact hr
end
section
variable {P:Program}{σ:St}{Q:Exit→St→Prop}
theorem jT {c:Code}{k:Nat}
 (ht:aK t tm=some (.p k 0)) (hb:aK k bx=some (U,cs))
 (h:Dw P c ⟨N,(t,.v (.c (.p cs)))::mr k tm,kI k bx⟩ Q):Dw P c ⟨N,tm,bx⟩ Q:=fun av w0 β a w hr=>by
 obtain⟨v,hv,hx⟩:=hr.sees.tmp t _ trivial ht
 have hx:v=.pointer (some ⟨β k,0,none⟩):=hx
 subst hx
 obtain⟨hvk,vs,ev,hrd⟩:=hr.sees.box k U cs hb
 have hk0:(St.B ⟨N,tm,bx⟩) k≠none:=by rw[show(St.B ⟨N,tm,bx⟩) k=some (U,cs) from hb];simp
 have e:=Es hr hk0
 have hkeep:Keep (fun b=>av b∨ ∃l,(St.B ⟨N,tm,bx⟩) l≠none∧β l=b) (fun b=>(av b∨ ∃l,(St.B ⟨N,tm,bx⟩) l≠none∧β l=b)∧b≠β k) w w:=⟨Nat.le_refl _,fun _ _ _=>rfl,fun _ _ h=>h.1⟩
 have hread:RdC (fun b=>(av b∨ ∃l,(St.B ⟨N,tm,bx⟩) l≠none∧β l=b)∧b≠β k) w (.pointer (some ⟨β k,0,none⟩)) (.p cs):=by
  have hr2:=hrd.keep hkeep
  refine .p (β k) 0 cs (fun j=>vs.getD j undef) (hr.sees.av _ hvk) (fun h=>h.2 rfl) (fun j hj=>?_) (fun j u hj=>?_)
  ·rw[iq,cZ ev]
   have:j<vs.size:=by have:=hrd.1;simp at this;omega
   simp[Array.getD,this]
  ·have hlt:j<cs.length:=(jH.1 hj).1
   refine hr2.2 j _ u ?_ hj
   have:j<vs.size:=by have:=hrd.1;simp at this;omega
   simp[Array.getD,this]
 have h2:=(hr.drop k).upd (t:=t) (x:=.v (.c (.p cs))) hv (by rw[e];exact hread) rfl
 refine h av w0 β a w (h2.congr (fun s=>?_) (fun l=>?_))
 ·show aK s ((t,.v (.c (.p cs)))::mr k tm)=_
  rw[b6]
  split
  ·rfl
  ·rw[mV]
   show _=nE k (fun s=>aK s tm) s
   unfold nE
   grind
 ·exact kZ k l bx
end
structure OkS (P:Program) (f:FuncId) (U:TypeId) (n c:Nat) (cs0 cs1:List CellD) (ds:List D0):Prop where
 cal:fj P f=true
 run: ∀(V:Nat→Prop) (b:Nat) (bs vs:Array Value) (vl:List Value) (w:World),vs.toList=.slice (some ⟨b,0,none⟩) n c::vl→(∀x,V x→x<w.heap.size)→V b→w.heap[b]? =some (.cells bs U (0,0))→RdCs V w bs.toList cs0→RdL V w vl ds→
  Calls P f vs w fun e w'=> ∃bs':Array Value,e=.returned (.tuple #[])∧w'.heap[b]? =some (.cells bs' U (0,0))∧Mid b w w'∧RdCs V w' bs'.toList cs1
section
variable {P:Program}
theorem TD {bs vs:Array Value}(hlen:ds.length+1≤N) (hK:N≤K) (hvs:vs.toList=.slice (some ⟨b,0,none⟩) n m::vl) (hV: ∀x,V x→x<w.heap.size) (hVb:V b)
 (hbl:w.heap[b]? =some (.cells bs U (0,0))) (hcs:RdCs V w bs.toList cs0) (hds:RdL V w vl ds):
 Rel (fun x=>V x∧x≠b) ⟨w,fun x=>x=b,K⟩ (St.n ⟨N,(0,.o K n m)::mp 1 ds,[(K,U,cs0)]⟩) (St.T ⟨N,(0,.o K n m)::mp 1 ds,[(K,U,cs0)]⟩) (St.B ⟨N,(0,.o K n m)::mp 1 ds,[(K,U,cs0)]⟩) (fun _=>b)
  {tmps:=vs++Array.replicate (N-vs.size) undef,defers:=[]} w:=by
 have hvl:vs.size=ds.length+1:=by
  have h1:vs.toList.length=ds.length+1:=by rw[hvs,zz,hds.1]
  simpa using h1
 have hT: ∀(k:Nat) (ds:List D0) (t:Nat) (x:DV),aK t (mp k ds)=some x→ ∃j d,t=k+j∧ds[j]? =some d∧x=.v d:=by
  intro k ds
  induction ds generalizing k with
  |nil=>intro t x h;cases h
  |cons d ds ih=>
   intro t x h
   unfold mp at h
   rw[b6] at h
   split at h
   ·rename_i e;injection h with h;exact⟨0,d,by omega,rfl,h.symm⟩
   ·obtain⟨j,d',e1,e2,e3⟩:=ih (k+1) t x h
    exact⟨j+1,d',by omega,by simpa using e2,e3⟩
 have hT0: ∀t x,aK t ((0,DV.o K n m)::mp 1 ds)=some x→(t=0∧x=.o K n m)∨ ∃j d,t=1+j∧ds[j]? =some d∧x=.v d:=by
  intro t x h
  rw[b6] at h
  split at h
  ·rename_i e;injection h with h;exact .inl ⟨e.symm,h.symm⟩
  ·exact .inr (hT 1 ds t x h)
 have hB: ∀k y,aK k [(K,U,cs0)]=some y→k=K∧y=(U,cs0):=by
  intro k y h
  rw[b6] at h
  split at h
  ·rename_i e;injection h with h;exact⟨e.symm,h.symm⟩
  ·cases h
 have hBn: ∀k,aK k [(K,U,cs0)]≠none→k=K:=by
  intro k hk
  cases e:aK k [(K,U,cs0)] with
  |none=>exact absurd e hk
  |some y=>exact(hB k y e).1
 have hKb:aK K [(K,U,cs0)]=some (U,cs0):=by rw[b6,if_pos rfl]
 have hkeep:Keep V (fun x=>(V x∧x≠b)∨ ∃k,(St.B ⟨N,(0,.o K n m)::mp 1 ds,[(K,U,cs0)]⟩) k≠none∧b=x) w w:=
  ⟨Nat.le_refl _,fun _ _ _=>rfl,fun x _ hx=>by
   rcases hx with hx|⟨k,_,hx⟩
   ·exact hx.1
   ·rw[←hx];exact hVb⟩
 refine⟨rfl,by simp;omega,BelE.refl _,fun x hx=>hV x hx.1,fun x hx e=>hx.2 e,hK,fun x hx _=>hx.symm,fun k l hk hl _=>(hBn k hk).trans (hBn l hl).symm,fun k _=>.inr rfl,?_,?_,?_,?_⟩
 ·intro t x k ht hx
  rcases hT0 t x ht with⟨_,rfl⟩|⟨j,d,_,_,rfl⟩
  ·injection hx with hx
   subst hx
   show aK K [(K,U,cs0)]≠none
   rw[hKb];simp
  ·cases hx
 ·grind
 ·intro k U' cs hk
  obtain⟨rfl,e⟩:=hB k _ hk
  injection e with e1 e2
  subst e1 e2
  exact⟨.inr ⟨k,by show aK k [(k,U',cs)]≠none;rw[hKb];simp,rfl⟩,bs,hbl,hcs.keep hkeep⟩
 ·intro t x _ ht
  rcases hT0 t x ht with⟨rfl,rfl⟩|⟨j,d,e1,e2,rfl⟩
  ·have hv:vs.toList[0]? =some (.slice (some ⟨b,0,none⟩) n m):=by rw[hvs];rfl
   refine⟨.slice (some ⟨b,0,none⟩) n m,?_,rfl⟩
   grind
  ·have hlt:j<vl.length:=by rw[hds.1];exact(jH.1 e2).1
   have hv:vl[j]? =some vl[j]:=by grind
   have hv2:vs.toList[t]? =some vl[j]:=by grind
   refine⟨vl[j],?_,(hds.2 j _ d hv e2).keep hkeep⟩
   grind
theorem Ub {T:TF}{B:BF}(hr:Rel (fun x=>V x∧x≠b) ⟨w,fun x=>x=b,K⟩ N T B β a w') (hbx:B K=some (U,cs1)):
 β K=b∧ ∃bs':Array Value,w'.heap[b]? =some (.cells bs' U (0,0))∧Mid b w w'∧RdCs V w' bs'.toList cs1:=by
 obtain⟨hvv,bs',ebl,hrd⟩:=hr.sees.box K U cs1 hbx
 have hBK:B K≠none:=by grind
 have hfix:β K=b:=hr.fix b rfl hBK
 rw[hfix] at ebl
 have hkeep2:Keep (fun x=>(V x∧x≠b)∨ ∃l,B l≠none∧β l=x) V w' w':=⟨Nat.le_refl _,fun _ _ _=>rfl,fun x _ hx=>by
  by_cases e:x=b
  ·grind
  ·exact .inl ⟨hx,e⟩⟩
 exact⟨hfix,bs',ebl,⟨hr.bel.os,hr.bel.tape,hr.bel.output,hr.bel.size,fun c hc hne=>hr.bel.block c hc hne⟩,hrd.keep hkeep2⟩
theorem OkS.of {fn:Func}{c:Code}(hcal:fj P f=true) (hf:P.funcs[f]? =some fn) (hb:fn.body=some c) (hlen:Nat.ble (ds.length+1) fn.ntmps=true) (hK:Nat.ble fn.ntmps K=true) (hres:fn.results= #[])
 (h:Dw P c ⟨fn.ntmps,(0,.o K n m)::mp 1 ds,[(K,U,cs0)]⟩ fun e σ=>(e=.normal∨e=.ret)∧aK K σ.bx=some (U,cs1)):OkS P f U n m cs0 cs1 ds:=by
 refine⟨hcal,fun V b bs vs vl w hvs hV hVb hbl hcs hds=>calls_of_wp hf hb ?_⟩
 refine tc ?_ (h _ _ (fun _=>b) _ w (TD (dO hlen) (dO hK) hvs hV hVb hbl hcs hds))
 rintro e a' w' ⟨σ',β',hn,⟨he,hbx⟩,hr⟩
 have hresults:(results fn a'.tmps).run P w'=.ok (.tuple #[]) w':=by
  unfold results
  rw[hres]
  simp[Array.mapM_eq_mapM_toList]
 obtain⟨_,bs',ebl,hm,hrd⟩:=Ub hr hbx
 rcases he with rfl|rfl
 ·exact⟨hr.dfr,_,hresults,bs',rfl,ebl,hm,hrd⟩
 ·exact⟨hr.dfr,_,hresults,bs',rfl,ebl,hm,hrd⟩
variable {ops:Array Oper}{T:TF}{B:BF}
theorem jO {xs:List Operand}{k c:Nat}
 (hf:cO T fo=some (.v (.c (.f f)))) (hargs:args.toList=x::xs) (hx:cO T x=some (.o k n c)) (ha:oY T xs=some ds) (hb:B k=some (U,cs0)) (hok:OkS P f U n c cs0 cs1 ds) (hg:gd ops ⟨dst,.call ⟨.value fo,args,at_⟩,ty,pos,af,g⟩ T=some true):
 Sem P ops ⟨dst,.call ⟨.value fo,args,at_⟩,ty,pos,af,g⟩ T B (.rs k U cs1 (.t [])):=by
 refine⟨rfl,⟨_,hb⟩,fun V β a w hs=>⟨d9 hs hg,?_⟩⟩
 have hin: ∀y∈x::xs,y∈(⟨dst,.call ⟨.value fo,args,at_⟩,ty,pos,af,g⟩:Oper).op.operands:=fun y hy=>by
  have hx2:y∈args:=by grind
  simp[Op.operands,Call.operands,hx2]
 have h1:=RdC.func_eq (ap hs (x:=fo) (by simp[Op.operands,Call.operands]) hf)
 have h2:=iS hs xs ds (fun y hy=>hin y (gN _ hy)) ha
 have h3:a.eval x=.slice (some ⟨β k,0,none⟩) n c:=ap hs (hin x (gT ..)) hx
 obtain⟨hV,bs,e,hr⟩:=hs.box k U cs0 hb
 have hc:=hok.cal
 unfold fj at hc
 cases hfn:P.funcs[f]? with
 |none=>rw[hfn] at hc;cases hc
 |some fn=>
  rw[hfn] at hc
  simp only[dF,bne_iff_ne,ne_eq,rl] at hc
  have hrun:(execOp a.eval ⟨dst,.call ⟨.value fo,args,at_⟩,ty,pos,af,g⟩).run P w=.ok (.enter f (args.map a.eval)) w:=by
   have hb2:fn.body≠none:=by have:=hc.2;cases hbb:fn.body with
    |none=>rw[hbb] at this;cases this
    |some c=>simp
   simp[execOp,resolve,h1,Deferred.ofValue,invoke,callFunc,program,Sem.run,hfn,hc.1,hb2]
  unfold Gives
  rw[hrun]
  refine(hok.run V (β k) bs (args.map a.eval) (xs.map a.eval) w (by rw[wV,hargs,si,h3]) hs.av hV e hr h2).mono ?_
  rintro e w' ⟨bs',rfl,hbl,hm,hr1⟩
  exact⟨.tuple #[],rfl,bs',hbl,hm,hr1,_,rfl,RdL.nil⟩
end
section
variable {P:Program}{ops:Array Oper}{T:TF}{B:BF}
theorem Ai {k c q:Nat}
 (hU:wW P U=some m) (hx:cO T x=some (.o k n c)) (hh:cO T h=some (.v (.c (.i ki q)))) (hq:q≤n) (hnc:n≤c) (hg:gd ops ⟨dst,.slice U x (some h) none none,ty,pos,af,g⟩ T=some true):
 Sem P ops ⟨dst,.slice U x (some h) none none,ty,pos,af,g⟩ T B (.r (.w k (if q<c then q*m else 0) (n-q) (c-q))):=
 bG hg (fun k' e=>by
  obtain rfl:k=k':=by injection e
  exact m9 (ops:=ops) (o:=⟨dst,.slice U x (some h) none none,ty,pos,af,g⟩) (by simp[Op.operands]) hx rfl) (fun V β a w hs=>by
  have e:a.eval x=.slice (some ⟨β k,0,none⟩) n c:=ap hs (x:=x) (by simp[Op.operands]) hx
  have h2:=fO (ap hs (x:=h) (by simp[Op.operands]) hh)
  unfold wW at hU
  split at hU
  case h_2=>cases hU
  rename_i el hul
  cases hinf:P.info? el with
  |none=>rw[hinf] at hU;cases hU
  |some inf=>
   rw[hinf] at hU
   simp at hU
   have hso: ∀w,(sizeOf el).run P w=.ok m w:=fun w=>by unfold sizeOf typeInfo;simp[program,Sem.run,hinf,hU]
   refine⟨.slice (some ⟨β k,if q<c then q*m else 0,none⟩) (n-q) (c-q),?_,rfl⟩
   by_cases hqc:q<c
   ·simp[execOp,Instr.sliceAt,Instr.slice,run_underlying hul,e,h2,Instr.sliceBounds,Instr.sliceBound,asIntOf,hq,hso,Addr.add,hqc,Nat.ne_of_gt hqc]
    exact fun h=>h.symm
   ·have hce:c=q:=by omega
    simp[execOp,Instr.sliceAt,Instr.slice,run_underlying hul,e,h2,Instr.sliceBounds,Instr.sliceBound,asIntOf,hq,hso,Addr.add,hce])
theorem QZ {k off q c:Nat}(hs:Sees V L T B β a w) (hb:B k=some (U,cs)) (hys:(cs.drop off).take (q*m)=ys)
 (hoff:0<q→off+q*m≤cs.length) (hqc:q≤c) (hc:c≤9223372036854775807):RdC (fun x=>V x∧x≠β k) w (.slice (some ⟨β k,off,none⟩) q c) (.s q ys):=by
 obtain⟨hV,bs,e,hr⟩:=hs.box k U cs hb
 rcases jd q with h0|h0
 ·subst h0
  rw[←hys];simp
  exact .s0 _ _ hc
 ·have hoff:=hoff h0
  have hkeep:Keep V (fun x=>V x∧x≠β k) w w:=⟨Nat.le_refl _,fun _ _ _=>rfl,fun _ _ h=>h.1⟩
  have hbl:bs.size=cs.length:=by have:=hr.1;simpa using this
  have hr2:=((hr.drop off).take (q*m)).keep hkeep
  rw[hys] at hr2
  refine .s (β k) off c m q ys (fun j=>bs.getD (off+j) undef) h0 hqc hc ?_ (hs.av _ hV) (fun h=>h.2 rfl) (fun j hj=>?_) (fun j u hj=>?_)
  ·grind
  ·rw[cZ e]
   have:off+j<bs.size:=by omega
   simp[Array.getD,this]
  ·have hlt:j<ys.length:=(jH.1 hj).1
   have hlt2:j<q*m:=by grind
   refine hr2.2 j _ u ?_ hj
   rw[tL,if_pos hlt2,List.getElem?_drop,uj]
   have:off+j<bs.size:=by omega
   simp[Array.getD,this]
end
section
variable {P:Program}{ops:Array Oper}{os:List Oper}{K:St→Prop}{N:Nat}{tm:List (Nat×DV)}{bx:List (Nat×TypeId×List CellD)}
theorem G0 {c q k N':Nat}{rest:List CellD}
 (hU:xG P U=some (e,m,by_,zs)) (hx:cO (fun s=>aK s tm) x=some (.o k n c)) (hy:cO (fun s=>aK s tm) y=some (.v (.c (.s q ys)))) (hb:aK k bx=some (e,cs)) (hcs:cs=us++rest) (hus:us.length=n*m) (hr:rest.length=(c-n)*m)
 (hys:ys.length=q*m) (hm:0<m) (hnc:n≤c) (hcm:c≤maxLen) (hbytes:(n+q)*by_≤140737488355328) (h63:n+q≤maxLen) (hd:t=k∨aK t bx=none) (hN:n+q=N') (hz:us++ys=zs')
 (hg:gd ops ⟨some t,.call ⟨.builtin .append,#[x,y],#[U,U]⟩,ty,pos,af,g⟩ (fun s=>aK s tm)=some true)
 (hk: ∀c' rest',N'≤c'→c'≤maxLen→rest'.length=(c'-N')*m→dl P ops os ⟨N,(t,.o t N' c')::mr k tm,(t,e,zs'++rest')::kI k bx⟩ K):
 dl P ops (⟨some t,.call ⟨.builtin .append,#[x,y],#[U,U]⟩,ty,pos,af,g⟩::os) ⟨N,tm,bx⟩ K:=by
 subst hcs hN hz
 exact vt hU hx hy hb hus hr hys hm hnc hcm hbytes h63 hd hg hk
theorem DJ {q:Nat}
 (hU:xG P U=some (e,m,by_,zs)) (hx:cO (fun s=>aK s tm) x=some .z) (hy:cO (fun s=>aK s tm) y=some (.v (.c (.s q ys)))) (hys:ys.length=q*m) (hq:0<q)
 (hbytes:q*by_≤140737488355328) (h63:q≤maxLen) (hd:aK t bx=none) (hz:ys=zs')
 (hg:gd ops ⟨some t,.call ⟨.builtin .append,#[x,y],#[U,U]⟩,ty,pos,af,g⟩ (fun s=>aK s tm)=some true)
 (hk: ∀c' rest',q≤c'→c'≤maxLen→rest'.length=(c'-q)*m→dl P ops os ⟨N,(t,.o t q c')::tm,(t,e,zs'++rest')::bx⟩ K):
 dl P ops (⟨some t,.call ⟨.builtin .append,#[x,y],#[U,U]⟩,ty,pos,af,g⟩::os) ⟨N,tm,bx⟩ K:=by
 subst hz
 exact rJ hU hx hy hys hq hbytes h63 hd hg hk
end
section
variable {P:Program}{ops:Array Oper}
theorem Jb {q:Nat}
 (hU:xG P U=some (e,m,by_,zs)) (hx:cO (fun s=>aK s tm) x=some (.f 0 us)) (hy:cO (fun s=>aK s tm) y=some (.v (.c (.s q ys)))) (hys:ys.length=q*m) (hq:0<q)
 (hbytes:q*by_≤140737488355328) (h63:q≤maxLen) (hd:aK t bx=none)
 (hg:gd ops ⟨some t,.call ⟨.builtin .append,#[x,y],#[U,U]⟩,ty,pos,af,g⟩ (fun s=>aK s tm)=some true):
 Iv P ops ⟨some t,.call ⟨.builtin .append,#[x,y],#[U,U]⟩,ty,pos,af,g⟩ ⟨N,tm,bx⟩ (fun σ'=> ∃c' rest,q≤c'∧c'≤maxLen∧rest.length=(c'-q)*m∧σ'=⟨N,(t,.o t q c')::tm,(t,e,ys++rest)::bx⟩):=by
 intro av w0 β a w hrel htn
 have hs:=Sees.of hrel.sees (L:=iK ops ⟨some t,.call ⟨.builtin .append,#[x,y],#[U,U]⟩,ty,pos,af,g⟩) (fun _ _=>trivial) (fun _ _ _ h=>h) (fun _ _ h=>h)
 refine⟨d9 hs hg,?_⟩
 obtain⟨⟨A,e1⟩,_⟩:(∃A,a.eval x=.slice A 0 0)∧_:=ap hs (x:=x) (by simp[Op.operands,Call.operands]) hx
 have h2:=ap hs (x:=y) (by simp[Op.operands,Call.operands]) hy
 obtain⟨news,hsrc,hrn⟩:=zI hU h2 hys
 obtain⟨hu,i,z,hi,hz,hsz,hby,hzl,hzr⟩:=jj hU
 subst hsz
 have ht:t<N:=htn t rfl
 unfold Gives
 have hold:(Builtin.firstCells i.size 0 (.slice A 0 0)).run P w.drew=.ok ([]:List Value).toArray w.drew:=by
  cases A with
  |none=>rfl
  |some b=>
   have h9:=run_loadCells_list (P:=P) w.drew b ([]:List Value) (fun j u h=>by simp at h)
   rw[show([]:List Value).length=0*i.size by simp] at h9
   exact h9
 have hgrow:0<0+q:=by omega
 have hrun:=run_append_grow_src (P:=P) (w:=w) U U ty e i z hu hi hz A 0 0 _ hold (a.eval y) q news hsrc hgrow (by have:maxLen=9223372036854775807:=rfl;omega) (growslice_fits hgrow (by rw[hby,iq];exact hbytes))
 rw[iq] at hrun
 generalize hcap:grownCap w q 0 e=c' at hrun
 have hc1:q≤c':=by rw[←hcap];exact grownCap_ge _ _ _ _
 have hc2:c'≤maxLen:=by rw[←hcap];exact grownCap_le_maxLen _ _ _ _ h63
 have hexec:(execOp a.eval ⟨some t,.call ⟨.builtin .append,#[x,y],#[U,U]⟩,ty,pos,af,g⟩).run P w=.ok (.value (.slice (some ⟨w.heap.size,0,none⟩) q c'))
  (w.drew.alloc (.cells (([]++news).toArray++Builtin.zeroCells z.cells (c'-q)) e)):=by
  simp only[execOp,resolve,invoke,builtin,eH,fQ,fa,tk,si,sV,e1]
  rw[hrun]
  rfl
 rw[hexec]
 obtain⟨rest,hrl,hrz⟩:=QN hzl hzr (c'-q)
 have hrd:RdCs (fun b=>av b∨ ∃k,aK k bx≠none∧β k=b) w.drew (([]++news).toArray++Builtin.zeroCells z.cells (c'-q)).toList (ys++rest):=by
  have h1:RdCs (fun b=>av b∨ ∃k,aK k bx≠none∧β k=b) w.drew (news++(Builtin.zeroCells z.cells (c'-q)).toList) (ys++rest):=vn (RdCs.keep (Keep.below (cU _ w).drew) hrn) (hrz (fun b=>av b∨ ∃k,aK k bx≠none∧β k=b) w.drew)
  grind
 have hbox:=hrel.drew.box (d:=t) ht hd (U:=e) (sl:=some c') hrd
 refine⟨⟨N,(t,.o t q c')::tm,(t,e,ys++rest)::bx⟩,fun l=>if l=t then w.drew.heap.size else β l,⟨c',_,hc1,hc2,hrl,rfl⟩,rfl,?_⟩
 have hval:=hbox.value (d:=some t) (x:=.o t q c') (v:=.slice (some ⟨w.heap.size,0,none⟩) q c') (by intro s hs;injection hs with hs;subst hs;exact ht) (cU _ _) (by show _=Value.slice (some ⟨if t=t then w.drew.heap.size else β t,0,none⟩) _ _;rw[if_pos rfl];rfl) (by intro l hl;injection hl with hl;subst hl;rw[if_pos rfl];simp)
 rw[AK] at hval
 refine hval.congr (fun s=>?_) (fun l=>?_)
 ·show aK s ((t,DV.o t q c')::tm)=(if some t=some s then _ else if some t=some s then _ else aK s tm)
  rw[b6]
  grind
 ·show aK l ((t,e,ys++rest)::bx)=(if some t=some l then _ else aK l bx)
  rw[b6]
  grind
end
end Go.Proofs.YtegpmhlfjkhjmaaGreat
