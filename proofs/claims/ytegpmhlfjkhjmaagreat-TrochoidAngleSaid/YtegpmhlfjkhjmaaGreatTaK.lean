/-Plain:points,lines,circles and curves as values;lists of them as cells;what the reference computes of them. -/
import Derived.Test.YtegpmhlfjkhjmaaGreatTaJ
namespace Go.Proofs.YtegpmhlfjkhjmaaGreat
open Go Go.RowKit
variable {a:Act}{args cap:Array Operand}{at_:Array TypeId}{c:Code}{f:FuncId}{ki kk yk:IntKind}{tm:List (Nat×DV)}{bx:List (Nat×TypeId×List CellD)}{cs cs0 cs1 r us xs ys z zs zs':List CellD}{ds rs:List D0}{vl vs:List Value}{K N b by_ j k m n t:Nat}{β:Nat→Nat}{L V:Nat→Prop}{fo h x y:Operand}{b1 b2:Rat}{U e xt yt:TypeId}{v:Value}{w w':World}
variable {ty:TypeId}{pos:String}{af:Array Edge}{g:Option (Nat×Bool)}{dst:Option Nat}
theorem dW:type_of% @Rz.zero:=@Rz.zero
theorem nC:type_of% @List.mem_singleton:=@List.mem_singleton
theorem AZ:type_of% @Rat.mul_eq_zero:=@Rat.mul_eq_zero
structure Pt where
 a1:Rat
 b1:Rat
 a2:Rat
 b2:Rat
 c:Rat
structure Ln where
 a:Rat
 b:Rat
 c:Rat
structure Ci where
 x:Rat
 y:Rat
 q:Rat
inductive Cv where
 |seg (l:Ln) (p q:Pt)
 |arc (k:Ci) (w:Bool) (p q:Pt)
def N4:List CellD:=[.b false,.s 0 [],.b false,.s 0 []]
def w9:List CellD:=N4++N4++N4
def xR4:List CellD:=[.x,.x,.x,.x]
def rx:List CellD:=xR4++xR4++xR4
def aw (p:Pt):List CellD:=cR p.a1++cR p.b1++cR p.a2++cR p.b2++cR p.c
def oW (l:Ln):List CellD:=cR l.a++cR l.b++cR l.c
def bT (k:Ci):List CellD:=cR k.x++cR k.y++cR k.q
def aZ:Cv→List CellD
 | .seg l p q=>[.b false]++oW l++w9++[.b false]++aw p++aw q
 | .arc k w p q=>[.b true]++rx++bT k++[.b w]++aw p++aw q
def Xp (z:List CellD):Cv→List CellD
 | .seg l p q=>[.b false]++oW l++z++[.b false]++aw p++aw q
 | .arc k w p q=>[.b true]++z++bT k++[.b w]++aw p++aw q
theorem acV (h:z.length=12):Wk z rx:=by
 match z,h with
 |[a,b,c,d,e,f,g,h,i,j,k,l],_=>exact .any _ (.any _ (.any _ (.any _ (.any _ (.any _ (.any _ (.any _ (.any _ (.any _ (.any _ (.any _ .nil)))))))))))
theorem wkA (h:z.length=12) (k:Ci) (w:Bool) (p q:Pt):Wk (Xp z (.arc k w p q)) (aZ (.arc k w p q)):=(((((Wk.refl _).app (acV h)).app (Wk.refl _)).app (Wk.refl _)).app (Wk.refl _)).app (Wk.refl _)
theorem bi (p:Pt):(aw p).length=20:=rfl
theorem ao (c:Cv):(aZ c).length=66:=by cases c<;>rfl
section
variable {α:Type}
def aW (enc:α→List CellD):List α→List CellD
 |[]=>[]
 |x::l=>enc x++aW enc l
variable {enc:α→List CellD}{m:Nat}
theorem a7 (h: ∀x,(enc x).length=m): ∀l:List α,(aW enc l).length=l.length*m
 |[]=>by simp[aW]
 |x::l=>by
  show(enc x++aW enc l).length=(l.length+1)*m
  rw[d6,h,a7 h l,tY];omega
theorem ii: ∀l r:List α,aW enc (l++r)=aW enc l++aW enc r
 |[],r=>rfl
 |x::l,r=>by
  show enc x++aW enc (l++r)=enc x++aW enc l++aW enc r
  rw[ii l r,wx]
theorem iH (x:α):aW enc [x]=enc x:=m9 _
theorem EW (h: ∀x,(enc x).length=m) (l:List α) (j:Nat):(aW enc l).drop (j*m)=aW enc (l.drop j):=by
 by_cases hj:j≤l.length
 ·have e:aW enc l=aW enc (l.take j)++aW enc (l.drop j):=by rw[←ii,Cq]
  have hl:(aW enc (l.take j)).length=j*m:=by rw[a7 h,gX,q5 hj]
  grind
 ·rw[qI (by rw[a7 h];exact rI _ (by omega)),qI (by omega)];rfl
theorem Ff (h: ∀x,(enc x).length=m) (l:List α) (j:Nat):(aW enc l).take (j*m)=aW enc (l.take j):=by
 by_cases hj:j≤l.length
 ·have e:aW enc l=aW enc (l.take j)++aW enc (l.drop j):=by rw[←ii,Cq]
  have hl:(aW enc (l.take j)).length=j*m:=by rw[a7 h,gX,q5 hj]
  grind
 ·rw[kZ (by rw[a7 h];exact rI _ (by omega)),kZ (by omega)]
theorem wD (h: ∀x,(enc x).length=m) {l:List α}{x:α}(hj:l[j]? =some x):(aW enc l).drop (j*m)=enc x++aW enc (l.drop (j+1)):=by
 obtain⟨h1,h2⟩:=j9.1 hj
 rw[EW h,nI h1,h2];rfl
theorem kV {l:List α}{d:α}(h:j<l.length):l[j]? =some (l.getD j d):=by grind
section
variable {P:Program}{ops:Array Oper}{T:TF}{B:BF}{dst:Option Nat}{x y:Operand}{ty U:TypeId}{pos:String}{af:Array Edge}{g:Option (Nat×Bool)}
theorem vf {l:List α}(d:α) (h: ∀x,(enc x).length=m) (hj:j<l.length) (hU:xU P U=some m) (e:(cO T x,cO T y,gd ops ⟨dst,.indexAddr U x y,ty,pos,af,g⟩ T)=(some (.v (.c (.s l.length (aW enc l)))),some (.v (.c (.i kk (j:Int)))),some true)):
 Sem P ops ⟨dst,.indexAddr U x y,ty,pos,af,g⟩ T B (.r (.q (enc (l.getD j d)++aW enc (l.drop (j+1))))):=
 bc (j:=(j:Int)) hU (congrArg Prod.fst e) (congrArg (fun q=>q.2.1) e) (by omega) (a7 h _) (wD h (kV hj)) (congrArg (fun q=>q.2.2) e)
theorem ve {a:α}(h: ∀x,(enc x).length=m) (hU:sG P U=some (true,m)) (e:(cO T x,gd ops ⟨dst,.load U x,ty,pos,af,g⟩ T)=(some (.q (enc a++r)),some true)):Sem P ops ⟨dst,.load U x,ty,pos,af,g⟩ T B (.r (.v (.a (enc a)))):=
 dM hU (congrArg Prod.fst e) (by rw[←h a];exact List.take_left) (h a) (congrArg Prod.snd e)
end
theorem sT {l:List α}{d:α}(h:j<l.length):l.take (j+1)=l.take j++[l.getD j d]:=by simp_all
theorem bX {l:List α}{d:α}(h:j<l.length):l.getD j d∈l:=by grind
end
def dPt:Pt:=⟨0,0,0,0,0⟩
def bY:Cv:=.seg ⟨0,0,0⟩ dPt dPt
def Cv.p:Cv→Pt
 | .seg _ p _=>p
 | .arc _ _ p _=>p
def Cv.q:Cv→Pt
 | .seg _ _ q=>q
 | .arc _ _ _ q=>q
def Cv.isArc:Cv→Bool
 | .seg ..=>false
 | .arc ..=>true
def Cv.cw:Cv→Bool
 | .seg ..=>false
 | .arc _ w _ _=>w
def Cv.ends:Cv→Pt→Pt→Cv
 | .seg l _ _,p,q=>.seg l p q
 | .arc k w _ _,p,q=>.arc k w p q
def Cv.rev:Cv→Cv
 | .seg l p q=>.seg l q p
 | .arc k w p q=>.arc k (!w) q p
def vA (l:Ln) (p:Pt):Rat:=l.a*p.a1+l.b*p.a2-l.c
def vB (l:Ln) (p:Pt):Rat:=l.a*p.b1+l.b*p.b2
def Bp (l:Ln) (p:Pt):Int:=s3 (vA l p) (rB (vB l p) p.c) (rC (vB l p) p.c)
def PE (k:Ci) (p:Pt):Rat:=TV (p.a1-k.x) (p.a2-k.y) p.b1 p.b2 p.c+ -k.q
def NZ (k:Ci) (p:Pt):Rat:=TO (p.a1-k.x) (p.a2-k.y) p.b1 p.b2
def dE (k:Ci) (p:Pt):Int:= -s3 (PE k p) (NZ k p) (zc (NZ k p) p.c)
def Cv.supp:Cv→Pt→Bool
 | .seg l _ _,p=>Bp l p==0
 | .arc k _ _ _,p=>dE k p==0
def lu (p:Pt) (v:Rat):Int:=bD (p.a1-v) p.b1 (zc p.b1 p.c)
def s8 (p:Pt) (v:Rat):Int:=bD (p.a2-v) p.b2 (zc p.b2 p.c)
def qp (k:Ci) (p:Pt):Bool:=decide (s8 p k.y>0)||(s8 p k.y==0&&decide (lu p k.x>0))
def cx (p q:Pt):Int:=Ee p.a1 p.b1 p.c q.a1 q.b1 q.c
def cy (p q:Pt):Int:=Ee p.a2 p.b2 p.c q.a2 q.b2 q.c
def cP (p q:Pt):Int:=uQ p.a1 p.b1 p.a2 p.b2 p.c q.a1 q.b1 q.a2 q.b2 q.c
def s9 (k:Ci) (p q:Pt):Int:=if qp k p !=qp k q then(if qp k q then-1 else 1) else if qp k p then-cx p q else cx p q
def xI (k:Ci) (f p q:Pt):Int:=if decide (s9 k p f<0) !=decide (s9 k q f<0) then(if decide (s9 k q f<0) then-1 else 1) else s9 k p q
def Pt.flip (p:Pt):Pt:=⟨-p.a1,-p.b1,p.a2,p.b2,p.c⟩
def Ci.mir (k:Ci):Ci:=⟨-k.x,k.y,k.q⟩
def Cv.ord:Cv→Pt→Pt→Int
 | .seg _ f t,p,q=>if decide (cP f t>0) then-cP p q else cP p q
 | .arc k w f _,p,q=>if !w then xI k f p q else xI k.mir f.flip p.flip q.flip
def Cv.on (c:Cv) (p:Pt):Bool:=c.supp p&&decide (c.ord c.p p≤0)&&decide (c.ord p c.q≤0)
def xR (c:Cv) (x:Pt):List Pt→Nat
 |[]=>0
 |o::l=>if c.ord o x<0 then xR c x l+1 else 0
def mO (c:Cv) (out:List Pt) (x:Pt):List Pt:=
 if xR c x out<out.length∧cP (out.getD (xR c x out) dPt) x=0 then out else out.take (xR c x out)++x::out.drop (xR c x out)
def qR (c:Cv) (l:List Pt):List Pt:=l.foldl (mO c) []
def kH (c:Cv):List Pt→List Cv
 |p::q::l=>c.ends p q::kH c (q::l)
 |_=>[]
def nh (c:Cv) (l:List Pt):List Cv:=kH c (qR c ([c.p,c.q]++l))
def Cx (x y:Rat):Bool:=aX x y==0
def WY:Cv→Cv→Bool
 | .seg l _ _,.seg m _ _=>Cx (l.a*m.b) (l.b*m.a)&&Cx (l.a*m.c) (l.c*m.a)&&Cx (l.b*m.c) (l.c*m.b)
 | .arc k _ _ _,.arc d _ _ _=>Cx k.x d.x&&Cx k.y d.y&&Cx k.q d.q
 |_,_=>false
def gg (a1 b1 a2 b2 c:Rat):Pt:=if kg c then⟨a1+b1*rt c,0,a2+b2*rt c,0,0⟩ else⟨a1,b1,a2,b2,c⟩
def cZ (l:Ln):Rat:=l.a*l.a+l.b*l.b
def iU (l:Ln) (x y:Rat):Rat:=l.a*x+l.b*y-l.c
def cV (l:Ln) (k:Ci):Rat:=cZ l*k.q-iU l k.x k.y*iU l k.x k.y
def l7 (l:Ln) (k:Ci):Rat:=k.x-iU l k.x k.y/cZ l*l.a
def lF (l:Ln) (k:Ci):Rat:=k.y-iU l k.x k.y/cZ l*l.b
def N6 (l:Ln) (k:Ci):Pt:=gg (l7 l k) (-(l.b/cZ l)) (lF l k) (-(-l.a/cZ l)) (cV l k)
def J1 (l:Ln) (k:Ci):Pt:=gg (l7 l k) (l.b/cZ l) (lF l k) (-l.a/cZ l) (cV l k)
def nP (l:Ln) (k:Ci):List Pt:=
 if aX (cV l k) 0<0 then[] else if aX (cV l k) 0=0 then[⟨l7 l k,0,lF l k,0,0⟩]
 else if cP (N6 l k) (J1 l k)>0 then[J1 l k,N6 l k] else[N6 l k,J1 l k]
def tx (k d:Ci):Bool:=Cx k.x d.x&&Cx k.y d.y
def CQ (k:Ci):Rat:=k.x*k.x+k.y*k.y-k.q
def ca (k d:Ci):Ln:=⟨2*(d.x-k.x),2*(d.y-k.y),CQ d-CQ k⟩
def wh (k d:Ci):List Pt:=if tx k d then[] else nP (ca k d) k
theorem sj (c:Cv):((aZ c).drop 26).take 20=aw c.p:=by cases c<;>rfl
theorem wj (c:Cv):((aZ c).drop 46).take 20=aw c.q:=by cases c<;>rfl
theorem Fm (hz:zs.length=m) (hx:xs.length=m):vm (fun i=>some (i*m,m)) (List.replicate 1 zs).flatten [(0,.a xs)]=some xs:=by
 subst hz
 simp[vm,D0.cells,hx]
theorem jH (hx:xs.length=m):xs.length=1*m:=by omega
def Cv.setp:Cv→Pt→Cv
 | .seg l _ q,p=>.seg l p q
 | .arc k w _ q,p=>.arc k w p q
theorem EU (c:Cv) (p:Pt):(aZ c).take 26++aw p++(aZ c).drop 46=aZ (c.setp p):=by cases c<;>rfl
theorem NB (c:Cv) (p q:Pt):(aZ (c.setp p)).take 46++aw q++(aZ (c.setp p)).drop 66=aZ (c.ends p q):=by cases c<;>rfl
structure GP (p:Pt):Prop where
 a1:Rz 226 p.a1
 b1:Rz 42 p.b1
 a2:Rz 226 p.a2
 b2:Rz 42 p.b2
 c:Rz 156 p.c
 ir:p.c≠0→Rz 104 p.a1∧Rz 104 p.a2
 v:BE p.b1 p.b2 p.c=true
structure GB (p:Pt):Prop where
 a1:Rz 40000 p.a1
 b1:Rz 40000 p.b1
 a2:Rz 40000 p.a2
 b2:Rz 40000 p.b2
 c:Rz 40000 p.c
 v:BE p.b1 p.b2 p.c=true
theorem GP.gb {p:Pt}(h:GP p):GB p:=⟨h.a1.mono (by decide),h.b1.mono (by decide),h.a2.mono (by decide),h.b2.mono (by decide),h.c.mono (by decide),h.v⟩
structure GL (l:Ln):Prop where
 a:Rz 8 l.a
 b:Rz 8 l.b
 c:Rz 34 l.c
 n:cZ l≠0
structure GK (k:Ci):Prop where
 x:Rz 2 k.x
 y:Rz 2 k.y
 q:Rz 4 k.q
def Cv.good:Cv→Prop
 | .seg l p q=>GL l∧GP p∧GP q
 | .arc k _ p q=>GK k∧GP p∧GP q
theorem UO {c:Rat}(h:BE b1 b2 c=true):BE (-b1) b2 c=true:=by
 unfold BE at*
 by_cases h1:b1=0
 ·grind
 grind
theorem GP.flip {p:Pt}(h:GP p):GP p.flip:=⟨h.a1.neg,h.b1.neg,h.a2,h.b2,h.c,fun e=>⟨(h.ir e).1.neg,(h.ir e).2⟩,UO h.v⟩
theorem GP.rat {v w:Rat}(h:Rz 226 v) (g:Rz 226 w):GP ⟨v,0,w,0,0⟩:=⟨h,dW (by decide),g,dW (by decide),dW (by decide),fun e=>absurd rfl e,by unfold BE;rw[if_pos ⟨rfl,rfl⟩];exact decide_eq_true rfl⟩
theorem GP.dPt:GP dPt:=GP.rat (dW (by decide)) (dW (by decide))
theorem GP.getD {l:List Pt}(h: ∀p∈l,GP p) (j:Nat):GP (l.getD j Go.Proofs.YtegpmhlfjkhjmaaGreat.dPt):=by
 by_cases hj:j<l.length
 ·exact h _ (bX hj)
 ·rw[List.getD,rT (by omega)];exact GP.dPt
section
variable {c:Cv}{x:Pt}
theorem sU {out:List Pt}{y:Pt}(h:y∈mO c out x):y∈out∨y=x:=by
 unfold mO at h
 split at h
 ·grind
 grind
end
theorem Im {c:Cv}: ∀(l out:List Pt) {y:Pt},y∈l.foldl (mO c) out→y∈out∨y∈l
 |[],out,y,h=>.inl h
 |x::l,out,y,h=>by
  rcases Im l (mO c out x) h with h|h
  ·exact(sU h).imp id fun e=>by rw[e];exact io
  ·exact .inr (jd _ h)
theorem nS {c:Cv}{l:List Pt}{y:Pt}(h:y∈qR c l):y∈l:=(Im l [] h).elim (fun e=>by cases e) id
theorem tJ (c:Cv): ∀l:List Pt,(kH c l).length=l.length-1
 |[]=>rfl
 |[_]=>rfl
 |p::q::l=>by
  show(kH c (q::l)).length+1=l.length+1+1-1
  rw[tJ c (q::l)]
  show l.length+1-1+1=_
  omega
theorem kO {c:Cv}(h:c.good):GP c.p:=by cases c<;>exact h.2.1
theorem tK {c:Cv}(h:c.good):GP c.q:=by cases c<;>exact h.2.2
theorem NW {c:Cv}(h:c.good) {p q:Pt}(hp:GP p) (hq:GP q):(c.ends p q).good:=by cases c<;>exact⟨h.1,hp,hq⟩
theorem Jn {c:Cv}(h:c.good):c.rev.good:=by cases c<;>exact⟨h.1,h.2.2,h.2.1⟩
theorem Jg (A B C D M N:Rat): -1≤fN A B C D M N∧fN A B C D M N≤1:=by
 unfold fN
 split
 ·decide
 ·exact K5 (gY _ _ _) (jP (gY _ _ _) (dU _ _)) (gY _ _ _)
theorem abt (a b c:Rat): -1≤s3 a b c∧s3 a b c≤1:=by
 unfold s3
 have h1:=dU a 0
 have h2:=dU b 0
 grind
theorem fh (p q:Pt): -1≤cx p q∧cx p q≤1:=Jg _ _ _ _ _ _
theorem LV {x:Int}(h: -1000000000<x) (h':x<1000000000):Sz 1 x:=by
 have e:pw 1=1000000000:=by decide+kernel
 exact⟨by omega,by omega⟩
theorem IH {n:Int}(h: -1≤n∧n≤1):IntKind.i64.wrap (0-n)= -n:=by rw[Int.zero_sub];exact qO (by omega) (by omega)
theorem adI {p q:Pt}(h:(cx p q !=0)=true):cP p q=cx p q:=V5 h
theorem adT {p q:Pt}(h:(cx p q !=0)=false):cP p q=cy p q:=UM h
theorem aa2 {k:Ci}{p:Pt}(h:decide (s8 p k.y>0)=true):qp k p=true:=by unfold qp;rw[h];rfl
theorem ZA {k:Ci}{p:Pt}(h:decide (s8 p k.y>0)=false) (g:(s8 p k.y==0)=false):qp k p=false:=by unfold qp;rw[h,g];rfl
theorem Ss {k:Ci}{p:Pt}(h:decide (s8 p k.y>0)=false) (g:(s8 p k.y==0)=true):qp k p=decide (lu p k.x>0):=by unfold qp;rw[h,g];rfl
theorem ad0 {c:Cv}{p:Pt}(h:c.supp p=false):c.on p=false:=by unfold Cv.on;rw[h];rfl
theorem O0 {k:Ci}{p:Pt}(hk:GK k) (hp:GB p):Rz 40004 (p.a1-k.x)∧Rz 40004 (p.a2-k.y):=⟨(hp.a1.sub hk.x).mono (by decide),(hp.a2.sub hk.y).mono (by decide)⟩
theorem YA {k:Ci}{p:Pt}(hk:GK k) (hp:GB p):Rz 400000 (TV (p.a1-k.x) (p.a2-k.y) p.b1 p.b2 p.c):=by
 obtain⟨h1,h2⟩:=O0 hk hp
 exact((((h1.mul h1).add (h2.mul h2)).add (((hp.b1.mul hp.b1).add (hp.b2.mul hp.b2)).mul hp.c))).mono (by decide)
theorem X1 {k:Ci}{p:Pt}(hk:GK k) (hp:GB p):Rz 400010 (PE k p):=((YA hk hp).add hk.q.neg).mono (by decide)
theorem aaw {k:Ci}{p:Pt}(hk:GK k) (hp:GB p):Rz 400000 (NZ k p):=by
 obtain⟨h1,h2⟩:=O0 hk hp
 exact(((h1.mul hp.b1).add (h2.mul hp.b2)).add ((h1.mul hp.b1).add (h2.mul hp.b2))).mono (by decide)
theorem C9 (x:Rat):0≤x*x:=by
 rcases Rat.le_total (a:=0) (b:=x) with h|h
 ·exact fl h h
 ·have:=fl (a:= -x) (b:= -x) (by grind) (by grind);grind
theorem XN {x:Rat}(h:x*x=0):x=0:=by
 by_cases e:x=0
 ·exact e
 ·exact absurd (AZ.1 h) (by simp[e])
theorem acc {x y:Rat}(h:x*x+y*y=0):x=0∧y=0:=by
 have h1:=C9 x
 have h2:=C9 y
 exact⟨XN (by grind),XN (by grind)⟩
theorem uN {x:Rat}:aX x 0=0↔x=0:=by
 unfold aX
 constructor
 ·grind
 grind
theorem pP (x:Rat):aX x x=0:=by unfold aX;rw[if_neg (by grind),if_neg (by grind)]
theorem OW {x:Rat}(h: ¬aX x 0<0):0≤x:=by
 unfold aX at h
 split at h
 ·grind
 grind
theorem s5 {x:Rat}(h: ¬aX x 0<0) (g: ¬aX x 0=0):0<x:=by
 have h1:=OW h
 have h2:x≠0:=fun e=>g (uN.2 e)
 grind
theorem L3 {x:Int}(h:Sz (k+k) x):Sz k (bZ x):=by
 have h0:=fg x
 rcases nj x 0 with hx|hx
 ·rw[wi hx]
  have:=cU k
  exact⟨by omega,by omega⟩
 ·have h1:=ry hx
  have h2:pw (k+k)=pw k*pw k:=qv k k
  have h3:=h.lt
  have h4:=cU k
  refine⟨?_,by omega⟩
  rcases nj (bZ x) (pw k) with g|g
  ·exact g
  ·have h5:pw k*pw k≤bZ x*bZ x:=qS g g (by omega) h0
   omega
theorem SL {c:Rat}(h:Rz (k+k) c):Rz k (rt c):=Rz.of (L3 h.n) (L3 h.d) (by have:=zl (den_pos c);omega)
theorem wZ {a1 a2 c:Rat}(h1:Rz 104 a1) (h2:Rz 42 b1) (h3:Rz 104 a2) (h4:Rz 42 b2) (h5:Rz 156 c) (h0:0<c) (hb: ¬(b1=0∧b2=0)):GP (gg a1 b1 a2 b2 c):=by
 unfold gg
 cases hs:kg c with
 |true=>
  exact GP.rat ((h1.add (h2.mul (SL (k:=78) h5))).mono (by decide)) ((h3.add (h4.mul (SL (k:=78) h5))).mono (by decide))
 |false=>
  refine⟨h1.mono (by decide),h2.mono (by decide),h3.mono (by decide),h4.mono (by decide),h5.mono (by decide),fun _=>⟨h1,h3⟩,?_⟩
  unfold BE
  grind
section
variable {l m:Ln}{k d:Ci}
theorem zT (hl:GL l) (hk:GK k):Rz 58 (iU l k.x k.y):=(((hl.a.mul hk.x).add (hl.b.mul hk.y)).sub hl.c).mono (by decide)
theorem qV (hl:GL l):Rz 34 (cZ l):=((hl.a.mul hl.a).add (hl.b.mul hl.b)).mono (by decide)
theorem WE (hl:GL l) (hk:GK k):Rz 92 (iU l k.x k.y/cZ l):=(zT hl hk).div (qV hl) hl.n
theorem nl (hl:GL l) (hk:GK k):Rz 104 (l7 l k):=(hk.x.sub ((WE hl hk).mul hl.a)).mono (by decide)
theorem no (hl:GL l) (hk:GK k):Rz 104 (lF l k):=(hk.y.sub ((WE hl hk).mul hl.b)).mono (by decide)
theorem GX (hl:GL l) (hk:GK k):Rz 156 (cV l k):=(((qV hl).mul hk.q).sub ((zT hl hk).mul (zT hl hk))).mono (by decide)
theorem XL (hl:GL l):Rz 42 (l.b/cZ l):=(hl.b.div (qV hl) hl.n).mono (by decide)
theorem XH (hl:GL l):Rz 42 (-l.a/cZ l):=(hl.a.neg.div (qV hl) hl.n).mono (by decide)
theorem Wu (hl:GL l): ¬(l.b/cZ l=0∧ -l.a/cZ l=0):=by
 rintro⟨h1,h2⟩
 have hn:=hl.n
 refine hn ?_
 unfold cZ
 grind
theorem Sy (hl:GL l) (hk:GK k) (h: ¬aX (cV l k) 0<0) (g: ¬aX (cV l k) 0=0):GP (J1 l k):=
 wZ (nl hl hk) (XL hl) (no hl hk) (XH hl) (GX hl hk) (s5 h g) (Wu hl)
theorem QV (hl:GL l) (hk:GK k) (h: ¬aX (cV l k) 0<0) (g: ¬aX (cV l k) 0=0):GP (N6 l k):=
 wZ (nl hl hk) (XL hl).neg (no hl hk) (XH hl).neg (GX hl hk) (s5 h g) (fun e=>Wu hl ⟨by grind,by grind⟩)
theorem Na (hl:GL l) (hk:GK k): ∀p∈nP l k,GP p:=by
 intro p hp
 unfold nP at hp
 split at hp
 ·grind
 ·rename_i h
  split at hp
  ·rw[nC] at hp;subst hp
   exact GP.rat ((nl hl hk).mono (by decide)) ((no hl hk).mono (by decide))
  ·rename_i g
   split at hp
   ·rcases d8.1 hp with e|e
    ·rw[e];exact Sy hl hk h g
    ·rw[nC] at e;rw[e];exact QV hl hk h g
   ·rcases d8.1 hp with e|e
    ·rw[e];exact QV hl hk h g
    ·rw[nC] at e;rw[e];exact Sy hl hk h g
theorem Ca (hk:GK k):Rz 16 (CQ k):=(((hk.x.mul hk.x).add (hk.y.mul hk.y)).sub hk.q).mono (by decide)
theorem KT:Rz 1 (2:Rat):=⟨by rw[show(2:Rat).num=2 from rfl];exact LV (by decide) (by decide),by rw[show((2:Rat).den:Int)=1 from rfl];exact Sz.one (by decide)⟩
theorem rD (hk:GK k) (hd:GK d) (h:tx k d=false):GL (ca k d):=by
 refine⟨(KT.mul (hd.x.sub hk.x)).mono (by decide),(KT.mul (hd.y.sub hk.y)).mono (by decide),((Ca hd).sub (Ca hk)).mono (by decide),fun e=>?_⟩
 have e1:=acc (show(2*(d.x-k.x))*(2*(d.x-k.x))+(2*(d.y-k.y))*(2*(d.y-k.y))=0 from e)
 have hx:k.x=d.x:=by grind
 have hy:k.y=d.y:=by grind
 unfold tx Cx at h
 rw[hx,hy] at h
 simp[pP] at h
theorem te (hk:GK k) (hd:GK d): ∀p∈wh k d,GP p:=by
 intro p hp
 unfold wh at hp
 split at hp
 ·grind
 ·rename_i h
  exact Na (rD hk hd (by simpa using h)) hk p hp
end
def qD (k d:Ci):Bool:=Cx k.x d.x&&Cx k.y d.y&&Cx k.q d.q
theorem RdC.clo_eq {g:FuncId}(h:RdC V w v (.k g xs)): ∃cs:Array Value,v=.func (.func g) #[] cs∧RdCs V w cs.toList xs:=by
 cases h with
 |k _ cs _ h1 h2=>exact⟨cs,rfl,by simpa using h1,fun j v u hv hu=>h2 j v u (by simpa using hv) hu⟩
theorem RdC.ptr_eq (h:RdC V w v (.p us)):
 ∃b off,∃vs:List Value,v=.pointer (some ⟨b,off,none⟩)∧b<w.heap.size∧ ¬V b∧RdCs V w vs us∧ ∀(j:Nat) (u:Value),vs[j]? =some u→w.cell? ⟨b,off+j,none⟩=some u:=by
 cases h with
 |p b off _ cv h1 h2 h3 h4=>
  refine⟨b,off,(List.range us.length).map cv,rfl,h1,h2,⟨by simp,fun j v u hv hu=>?_⟩,fun j u hu=>?_⟩
  ·grind
  grind
section
variable {P:Program}{ops:Array Oper}{T:TF}{B:BF}
theorem mH 
 (hU:sG P U=some (true,n)) (hx:cO T x=some (.v (.c (.p cs)))) (hu:cs.take n=us) (hn:us.length=n) (hg:gd ops ⟨dst,.load U x,ty,pos,af,g⟩ T=some true):
 Sem P ops ⟨dst,.load U x,ty,pos,af,g⟩ T B (.r (.v (.a us))):=
 bI hg (pF rfl) (fun V β a w hs=>by
  obtain⟨b,off,vs,hp,_,_,hr,hc⟩:=RdC.ptr_eq (aC hs (by simp[Op.operands]) hx)
  have hr2:=hr.take n
  rw[hu] at hr2
  have hrun:=l8 (w:=w) hU (b:=b) (off:=off) (vs:=vs.take n) (by rw[hr2.1,hn]) (fun j v hv=>by
   rw[tH] at hv
   split at hv
   ·exact hc j v hv
   ·cases hv)
  refine⟨_,?_,_,rfl,by simpa using hr2⟩
  simp only[execOp,Instr.loadAt,hp,Instr.sureAddr,eM,gK,fi,hrun])
theorem yf {u:CellD}
 (hU:sG P U=some (false,n)) (hx:cO T x=some (.v (.c (.p cs)))) (hu:cs[0]? =some u) (hg:gd ops ⟨dst,.load U x,ty,pos,af,g⟩ T=some true):
 Sem P ops ⟨dst,.load U x,ty,pos,af,g⟩ T B (.r (.v (.c u))):=
 bI hg (pF rfl) (fun V β a w hs=>by
  obtain⟨b,off,vs,hp,_,_,hr,hc⟩:=RdC.ptr_eq (aC hs (by simp[Op.operands]) hx)
  have hlt:0<cs.length:=(j9.1 hu).1
  have hv:vs[0]? =some (vs[0]'(by rw[hr.1];exact hlt)):=gE _
  have hrun:=mg (P:=P) (w:=w) hU (b:=b) (off:=off) (by have:=hc 0 _ hv;simpa using this)
  refine⟨_,?_,hr.2 0 _ _ hv hu⟩
  simp only[execOp,Instr.loadAt,hp,Instr.sureAddr,eM,gK,fi,hrun])
theorem S0 {k:IntKind}{m n r:Int}
 (hx:cO T x=some (.v (.c (.i k m)))) (hy:cO T y=some (.v (.c (.i yk n)))) (h0: ¬n<0) (hr:m.fdiv (2^(min n.toNat k.bits))=r) (hg:gd ops ⟨dst,.binOp .shr xt x y yt,ty,pos,af,g⟩ T=some true):
 Sem P ops ⟨dst,.binOp .shr xt x y yt,ty,pos,af,g⟩ T B (.r (.v (.c (.i k r)))):=
 bI hg (pF rfl) (fun V β a w hs=>by
  have e1:a.eval x=.int k m:=fO (aC hs (x:=x) (by simp[Op.operands]) hx)
  have e2:a.eval y=.int yk n:=fO (aC hs (x:=y) (by simp[Op.operands]) hy)
  subst hr
  exact⟨.int k (m.fdiv (2^(min n.toNat k.bits))),by simp[execOp,e1,e2,eqGuard,binOp,Op.shift,h0],.i _ _⟩)
def Mv (T:TF):List Operand→Option (List CellD)
 |[]=>some []
 |x::xs=>match cO T x,Mv T xs with
  |some (.v (.c u)),some us=>some (u::us)
  |_,_=>none
theorem Br {o:Oper}{V:Nat→Prop}{β:Nat→Nat}{a:Act}{w:World}(hs:Sees V (iY ops o) T B β a w): ∀(xs:List Operand) (us:List CellD),(∀x∈xs,x∈o.op.operands)→Mv T xs=some us→RdCs V w (xs.map a.eval) us
 |[],us,_,h=>by injection h with h;subst h;exact ro
 |x::xs,us,hx,h=>by
  unfold Mv at h
  split at h
  ·rename_i u us' hu hus
   injection h with h
   subst h
   exact nE (aC hs (hx x (by simp)) hu) (Br hs xs us' (fun y hy=>hx y (by simp[hy])) hus)
  ·cases h
theorem pT 
 (ha:Mv T cap.toList=some us) (hg:gd ops ⟨dst,.makeFunc (.func f) #[] cap,ty,pos,af,g⟩ T=some true):
 Sem P ops ⟨dst,.makeFunc (.func f) #[] cap,ty,pos,af,g⟩ T B (.r (.v (.c (.k f us)))):=
 bI hg (pF rfl) (fun V β a w hs=>by
  have h2:=Br hs cap.toList us (fun x hx=>by have hx2:=Array.mem_toList_iff.1 hx;simp[Op.operands,hx2]) ha
  refine⟨.func (.func f) #[] (cap.map a.eval),by simp[execOp,Instr.makeFunc],.k f _ us (by have:=h2.1;simpa using this) (fun j v u hv hu=>h2.2 j v u ?_ hu)⟩
  rw[←yH,vE];exact hv)
theorem RdL.append {V:Nat→Prop}{w:World}: ∀ {vs vs':List Value}{ds ds':List D0},RdL V w vs ds→RdL V w vs' ds'→RdL V w (vs++vs') (ds++ds')
 |[],vs',[],ds',_,h'=>h'
 |[],_,_::_,_,h,_=>by have:=h.1;simp at this
 |_::_,_,[],_,h,_=>by have:=h.1;simp at this
 |v::vs,vs',d::ds,ds',h,h'=>by
  obtain⟨h1,h2⟩:=h.uncons
  exact tw h1 (RdL.append h2 h')
theorem RdCs.toL (h:RdCs V w vs us):RdL V w vs (us.map .c):=by
 refine⟨by simp[h.1],fun j v d hv hd=>?_⟩
 rw[r8] at hd
 cases hu:us[j]? with
 |none=>rw[hu] at hd;cases hd
 |some u=>rw[hu] at hd;injection hd with hd;subst hd;exact h.2 j v u hv hu
theorem pN 
 (hf:cO T fo=some (.v (.c (.k f us)))) (ha:qK T args.toList=some ds) (hok:Ok P f (ds++us.map .c) rs) (hg:gd ops ⟨dst,.call ⟨.value fo,args,at_⟩,ty,pos,af,g⟩ T=some true):
 Sem P ops ⟨dst,.call ⟨.value fo,args,at_⟩,ty,pos,af,g⟩ T B (.r (xV rs)):=by
 refine⟨pF (by unfold xV;split<;>rfl),fun V β a w hs=>⟨eL hs hg,?_⟩⟩
 obtain⟨cs,h1,h1r⟩:=RdC.clo_eq (aC hs (x:=fo) (by simp[Op.operands,Call.operands]) hf)
 have h2:=jr hs args.toList ds (fun x hx=>by have hx2:=Array.mem_toList_iff.1 hx;simp[Op.operands,Call.operands,hx2]) ha
 have hc:=hok.cal
 unfold fT at hc
 cases hfn:P.funcs[f]? with
 |none=>rw[hfn] at hc;cases hc
 |some fn=>
  rw[hfn] at hc
  simp only[di,bne_iff_ne,ne_eq,qg] at hc
  have hrun:(execOp a.eval ⟨dst,.call ⟨.value fo,args,at_⟩,ty,pos,af,g⟩).run P w=.ok (.enter f (args.map a.eval++cs)) w:=by
   have hb2:fn.body≠none:=by have:=hc.2;cases hbb:fn.body with
    |none=>rw[hbb] at this;cases this
    |some c=>simp
   simp[execOp,resolve,h1,Deferred.ofValue,invoke,callFunc,program,Sem.run,hfn,hc.1,hb2]
  unfold Gives
  rw[hrun]
  refine(hok.run V (args.map a.eval++cs) w hs.av (by rw[Array.toList_append,yH];exact h2.append h1r.toL)).mono ?_
  rintro e w' ⟨v,rfl,hr,hb⟩
  refine⟨v,rfl,?_,hb⟩
  unfold Xk at hr
  split at hr
  ·exact hr
  ·rename_i hne
   have e2:xV rs=.t rs:=by
    unfold xV
    grind
   rw[e2];exact hr
end
section
variable {P:Program}{σ:St}{Q:Exit→St→Prop}
theorem kW 
 (ht:aQ t tm=some (.p k 0)) (hb:aQ k bx=some (U,cs))
 (h:Dw P c ⟨N,(t,.v (.c (.p cs)))::kX k tm,jT k bx⟩ Q):Dw P c ⟨N,tm,bx⟩ Q:=fun av w0 β a w hr=>by
 obtain⟨v,hv,hx⟩:=hr.sees.tmp t _ trivial ht
 have hx:v=.pointer (some ⟨β k,0,none⟩):=hx
 subst hx
 obtain⟨hvk,vs,ev,hrd⟩:=hr.sees.box k U cs hb
 have hk0:(St.B ⟨N,tm,bx⟩) k≠none:=by rw[show(St.B ⟨N,tm,bx⟩) k=some (U,cs) from hb];simp
 have e:=FK hr hk0
 have hkeep:Keep (fun b=>av b∨ ∃l,(St.B ⟨N,tm,bx⟩) l≠none∧β l=b) (fun b=>(av b∨ ∃l,(St.B ⟨N,tm,bx⟩) l≠none∧β l=b)∧b≠β k) w w:=⟨Nat.le_refl _,fun _ _ _=>rfl,fun _ _ h=>h.1⟩
 have hread:RdC (fun b=>(av b∨ ∃l,(St.B ⟨N,tm,bx⟩) l≠none∧β l=b)∧b≠β k) w (.pointer (some ⟨β k,0,none⟩)) (.p cs):=by
  have hr2:=hrd.keep hkeep
  refine .p (β k) 0 cs (fun j=>vs.getD j undef) (hr.sees.av _ hvk) (fun h=>h.2 rfl) (fun j hj=>?_) (fun j u hj=>?_)
  ·rw[iV,dr ev]
   have:j<vs.size:=by have:=hrd.1;simp at this;omega
   simp[Array.getD,this]
  ·have hlt:j<cs.length:=(j9.1 hj).1
   refine hr2.2 j _ u ?_ hj
   have:j<vs.size:=by have:=hrd.1;simp at this;omega
   simp[Array.getD,this]
 have h2:=(hr.drop k).upd (t:=t) (x:=.v (.c (.p cs))) hv (by rw[e];exact hread) rfl
 refine h av w0 β a w (h2.congr (fun s=>?_) (fun l=>?_))
 ·show aQ s ((t,.v (.c (.p cs)))::kX k tm)=_
  rw[b7]
  split
  ·rfl
  ·rw[nW]
   show _=ol k (fun s=>aQ s tm) s
   unfold ol
   grind
 ·exact mp k l bx
end
structure OkS (P:Program) (f:FuncId) (U:TypeId) (n c:Nat) (cs0 cs1:List CellD) (ds:List D0):Prop where
 cal:fT P f=true
 run: ∀(V:Nat→Prop) (b:Nat) (bs vs:Array Value) (vl:List Value) (w:World),vs.toList=.slice (some ⟨b,0,none⟩) n c::vl→(∀x,V x→x<w.heap.size)→V b→w.heap[b]? =some (.cells bs U (0,0))→RdCs V w bs.toList cs0→RdL V w vl ds→
  Calls P f vs w fun e w'=> ∃bs':Array Value,e=.returned (.tuple #[])∧w'.heap[b]? =some (.cells bs' U (0,0))∧Mid b w w'∧RdCs V w' bs'.toList cs1
section
variable {P:Program}
theorem Xu {bs vs:Array Value}(hlen:ds.length+1≤N) (hK:N≤K) (hvs:vs.toList=.slice (some ⟨b,0,none⟩) n m::vl) (hV: ∀x,V x→x<w.heap.size) (hVb:V b)
 (hbl:w.heap[b]? =some (.cells bs U (0,0))) (hcs:RdCs V w bs.toList cs0) (hds:RdL V w vl ds):
 Rel (fun x=>V x∧x≠b) ⟨w,fun x=>x=b,K⟩ (St.n ⟨N,(0,.o K n m)::mU 1 ds,[(K,U,cs0)]⟩) (St.T ⟨N,(0,.o K n m)::mU 1 ds,[(K,U,cs0)]⟩) (St.B ⟨N,(0,.o K n m)::mU 1 ds,[(K,U,cs0)]⟩) (fun _=>b)
  {tmps:=vs++Array.replicate (N-vs.size) undef,defers:=[]} w:=by
 have hvl:vs.size=ds.length+1:=by
  have h1:vs.toList.length=ds.length+1:=by rw[hvs,A9,hds.1]
  simpa using h1
 have hT: ∀(k:Nat) (ds:List D0) (t:Nat) (x:DV),aQ t (mU k ds)=some x→ ∃j d,t=k+j∧ds[j]? =some d∧x=.v d:=by
  intro k ds
  induction ds generalizing k with
  |nil=>intro t x h;cases h
  |cons d ds ih=>
   intro t x h
   unfold mU at h
   rw[b7] at h
   split at h
   ·rename_i e;injection h with h;exact⟨0,d,by omega,rfl,h.symm⟩
   ·obtain⟨j,d',e1,e2,e3⟩:=ih (k+1) t x h
    exact⟨j+1,d',by omega,by simpa using e2,e3⟩
 have hT0: ∀t x,aQ t ((0,DV.o K n m)::mU 1 ds)=some x→(t=0∧x=.o K n m)∨ ∃j d,t=1+j∧ds[j]? =some d∧x=.v d:=by
  intro t x h
  rw[b7] at h
  split at h
  ·rename_i e;injection h with h;exact .inl ⟨e.symm,h.symm⟩
  ·exact .inr (hT 1 ds t x h)
 have hB: ∀k y,aQ k [(K,U,cs0)]=some y→k=K∧y=(U,cs0):=by
  intro k y h
  rw[b7] at h
  split at h
  ·rename_i e;injection h with h;exact⟨e.symm,h.symm⟩
  ·cases h
 have hBn: ∀k,aQ k [(K,U,cs0)]≠none→k=K:=by
  intro k hk
  cases e:aQ k [(K,U,cs0)] with
  |none=>exact absurd e hk
  |some y=>exact(hB k y e).1
 have hKb:aQ K [(K,U,cs0)]=some (U,cs0):=by rw[b7,if_pos rfl]
 have hkeep:Keep V (fun x=>(V x∧x≠b)∨ ∃k,(St.B ⟨N,(0,.o K n m)::mU 1 ds,[(K,U,cs0)]⟩) k≠none∧b=x) w w:=
  ⟨Nat.le_refl _,fun _ _ _=>rfl,fun x _ hx=>by
   rcases hx with hx|⟨k,_,hx⟩
   ·exact hx.1
   ·rw[←hx];exact hVb⟩
 refine⟨rfl,by simp;omega,BelE.refl _,fun x hx=>hV x hx.1,fun x hx e=>hx.2 e,hK,fun x hx _=>hx.symm,fun k l hk hl _=>(hBn k hk).trans (hBn l hl).symm,fun k _=>.inr rfl,?_,?_,?_,?_⟩
 ·intro t x k ht hx
  rcases hT0 t x ht with⟨_,rfl⟩|⟨j,d,_,_,rfl⟩
  ·injection hx with hx
   subst hx
   show aQ K [(K,U,cs0)]≠none
   rw[hKb];simp
  ·cases hx
 ·grind
 ·intro k U' cs hk
  obtain⟨rfl,e⟩:=hB k _ hk
  injection e with e1 e2
  subst e1 e2
  exact⟨.inr ⟨k,by show aQ k [(k,U',cs)]≠none;rw[hKb];simp,rfl⟩,bs,hbl,hcs.keep hkeep⟩
 ·intro t x _ ht
  rcases hT0 t x ht with⟨rfl,rfl⟩|⟨j,d,e1,e2,rfl⟩
  ·have hv:vs.toList[0]? =some (.slice (some ⟨b,0,none⟩) n m):=by rw[hvs];rfl
   refine⟨.slice (some ⟨b,0,none⟩) n m,?_,rfl⟩
   grind
  ·have hlt:j<vl.length:=by rw[hds.1];exact(j9.1 e2).1
   have hv:vl[j]? =some vl[j]:=by grind
   have hv2:vs.toList[t]? =some vl[j]:=by grind
   refine⟨vl[j],?_,(hds.2 j _ d hv e2).keep hkeep⟩
   grind
theorem Wv {T:TF}{B:BF}(hr:Rel (fun x=>V x∧x≠b) ⟨w,fun x=>x=b,K⟩ N T B β a w') (hbx:B K=some (U,cs1)):
 β K=b∧ ∃bs':Array Value,w'.heap[b]? =some (.cells bs' U (0,0))∧Mid b w w'∧RdCs V w' bs'.toList cs1:=by
 obtain⟨hvv,bs',ebl,hrd⟩:=hr.sees.box K U cs1 hbx
 have hBK:B K≠none:=by grind
 have hfix:β K=b:=hr.fix b rfl hBK
 rw[hfix] at ebl
 have hkeep2:Keep (fun x=>(V x∧x≠b)∨ ∃l,B l≠none∧β l=x) V w' w':=⟨Nat.le_refl _,fun _ _ _=>rfl,fun x _ hx=>by
  by_cases e:x=b
  ·grind
  ·exact .inl ⟨hx,e⟩⟩
 exact⟨hfix,bs',ebl,⟨hr.bel.os,hr.bel.tape,hr.bel.output,hr.bel.size,fun c hc hne=>hr.bel.block c hc hne⟩,hrd.keep hkeep2⟩
theorem OkS.of {fn:Func}(hcal:fT P f=true) (hf:P.funcs[f]? =some fn) (hb:fn.body=some c) (hlen:Nat.ble (ds.length+1) fn.ntmps=true) (hK:Nat.ble fn.ntmps K=true) (hres:fn.results= #[])
 (h:Dw P c ⟨fn.ntmps,(0,.o K n m)::mU 1 ds,[(K,U,cs0)]⟩ fun e σ=>(e=.normal∨e=.ret)∧aQ K σ.bx=some (U,cs1)):OkS P f U n m cs0 cs1 ds:=by
 refine⟨hcal,fun V b bs vs vl w hvs hV hVb hbl hcs hds=>calls_of_wp hf hb ?_⟩
 refine uO ?_ (h _ _ (fun _=>b) _ w (Xu (gj hlen) (gj hK) hvs hV hVb hbl hcs hds))
 rintro e a' w' ⟨σ',β',hn,⟨he,hbx⟩,hr⟩
 have hresults:(results fn a'.tmps).run P w'=.ok (.tuple #[]) w':=by
  unfold results
  rw[hres]
  simp[Array.mapM_eq_mapM_toList]
 obtain⟨_,bs',ebl,hm,hrd⟩:=Wv hr hbx
 rcases he with rfl|rfl
 ·exact⟨hr.dfr,_,hresults,bs',rfl,ebl,hm,hrd⟩
 ·exact⟨hr.dfr,_,hresults,bs',rfl,ebl,hm,hrd⟩
variable {ops:Array Oper}{T:TF}{B:BF}
theorem kU {xs:List Operand}{c:Nat}
 (hf:cO T fo=some (.v (.c (.f f)))) (hargs:args.toList=x::xs) (hx:cO T x=some (.o k n c)) (ha:qK T xs=some ds) (hb:B k=some (U,cs0)) (hok:OkS P f U n c cs0 cs1 ds) (hg:gd ops ⟨dst,.call ⟨.value fo,args,at_⟩,ty,pos,af,g⟩ T=some true):
 Sem P ops ⟨dst,.call ⟨.value fo,args,at_⟩,ty,pos,af,g⟩ T B (.rs k U cs1 (.t [])):=by
 refine⟨rfl,⟨_,hb⟩,fun V β a w hs=>⟨eL hs hg,?_⟩⟩
 have hin: ∀y∈x::xs,y∈(⟨dst,.call ⟨.value fo,args,at_⟩,ty,pos,af,g⟩:Oper).op.operands:=fun y hy=>by
  have hx2:y∈args:=by grind
  simp[Op.operands,Call.operands,hx2]
 have h1:=RdC.func_eq (aC hs (x:=fo) (by simp[Op.operands,Call.operands]) hf)
 have h2:=jr hs xs ds (fun y hy=>hin y (jd _ hy)) ha
 have h3:a.eval x=.slice (some ⟨β k,0,none⟩) n c:=aC hs (hin x (io ..)) hx
 obtain⟨hV,bs,e,hr⟩:=hs.box k U cs0 hb
 have hc:=hok.cal
 unfold fT at hc
 cases hfn:P.funcs[f]? with
 |none=>rw[hfn] at hc;cases hc
 |some fn=>
  rw[hfn] at hc
  simp only[di,bne_iff_ne,ne_eq,qg] at hc
  have hrun:(execOp a.eval ⟨dst,.call ⟨.value fo,args,at_⟩,ty,pos,af,g⟩).run P w=.ok (.enter f (args.map a.eval)) w:=by
   have hb2:fn.body≠none:=by have:=hc.2;cases hbb:fn.body with
    |none=>rw[hbb] at this;cases this
    |some c=>simp
   simp[execOp,resolve,h1,Deferred.ofValue,invoke,callFunc,program,Sem.run,hfn,hc.1,hb2]
  unfold Gives
  rw[hrun]
  refine(hok.run V (β k) bs (args.map a.eval) (xs.map a.eval) w (by rw[yH,hargs,ru,h3]) hs.av hV e hr h2).mono ?_
  rintro e w' ⟨bs',rfl,hbl,hm,hr1⟩
  exact⟨.tuple #[],rfl,bs',hbl,hm,hr1,_,rfl,RdL.nil⟩
end
section
variable {P:Program}{ops:Array Oper}{T:TF}{B:BF}
theorem Bw {c q:Nat}
 (hU:xU P U=some m) (hx:cO T x=some (.o k n c)) (hh:cO T h=some (.v (.c (.i ki q)))) (hq:q≤n) (hnc:n≤c) (hg:gd ops ⟨dst,.slice U x (some h) none none,ty,pos,af,g⟩ T=some true):
 Sem P ops ⟨dst,.slice U x (some h) none none,ty,pos,af,g⟩ T B (.r (.w k (if q<c then q*m else 0) (n-q) (c-q))):=
 bI hg (fun k' e=>by
  obtain rfl:k=k':=by injection e
  exact oi (ops:=ops) (o:=⟨dst,.slice U x (some h) none none,ty,pos,af,g⟩) (by simp[Op.operands]) hx rfl) (fun V β a w hs=>by
  have e:a.eval x=.slice (some ⟨β k,0,none⟩) n c:=aC hs (x:=x) (by simp[Op.operands]) hx
  have h2:=fO (aC hs (x:=h) (by simp[Op.operands]) hh)
  unfold xU at hU
  split at hU
  case h_2=>cases hU
  rename_i el hul
  cases hinf:P.info? el with
  |none=>rw[hinf] at hU;cases hU
  |some inf=>
   rw[hinf] at hU
   simp at hU
   have hso: ∀w,(sizeOf el).run P w=.ok m w:=fun w=>by unfold sizeOf typeInfo;simp[program,Sem.run,hinf,hU]
   refine⟨.slice (some ⟨β k,if q<c then q*m else 0,none⟩) (n-q) (c-q),?_,rfl⟩
   by_cases hqc:q<c
   ·simp[execOp,Instr.sliceAt,Instr.slice,run_underlying hul,e,h2,Instr.sliceBounds,Instr.sliceBound,asIntOf,hq,hso,Addr.add,hqc,Nat.ne_of_gt hqc]
    exact fun h=>h.symm
   ·have hce:c=q:=by omega
    simp[execOp,Instr.sliceAt,Instr.slice,run_underlying hul,e,h2,Instr.sliceBounds,Instr.sliceBound,asIntOf,hq,hso,Addr.add,hce])
theorem VO {off q c:Nat}(hs:Sees V L T B β a w) (hb:B k=some (U,cs)) (hys:(cs.drop off).take (q*m)=ys)
 (hoff:0<q→off+q*m≤cs.length) (hqc:q≤c) (hc:c≤9223372036854775807):RdC (fun x=>V x∧x≠β k) w (.slice (some ⟨β k,off,none⟩) q c) (.s q ys):=by
 obtain⟨hV,bs,e,hr⟩:=hs.box k U cs hb
 rcases li q with h0|h0
 ·subst h0
  rw[←hys];simp
  exact .s0 _ _ hc
 ·have hoff:=hoff h0
  have hkeep:Keep V (fun x=>V x∧x≠β k) w w:=⟨Nat.le_refl _,fun _ _ _=>rfl,fun _ _ h=>h.1⟩
  have hbl:bs.size=cs.length:=by have:=hr.1;simpa using this
  have hr2:=((hr.drop off).take (q*m)).keep hkeep
  rw[hys] at hr2
  refine .s (β k) off c m q ys (fun j=>bs.getD (off+j) undef) h0 hqc hc ?_ (hs.av _ hV) (fun h=>h.2 rfl) (fun j hj=>?_) (fun j u hj=>?_)
  ·grind
  ·rw[dr e]
   have:off+j<bs.size:=by omega
   simp[Array.getD,this]
  ·have hlt:j<ys.length:=(j9.1 hj).1
   have hlt2:j<q*m:=by grind
   refine hr2.2 j _ u ?_ hj
   rw[tH,if_pos hlt2,List.getElem?_drop,vE]
   have:off+j<bs.size:=by omega
   simp[Array.getD,this]
end
section
variable {P:Program}{ops:Array Oper}{os:List Oper}{K:St→Prop}{N:Nat}{tm:List (Nat×DV)}{bx:List (Nat×TypeId×List CellD)}
theorem Hr {c q N':Nat}{rest:List CellD}
 (hU:xF P U=some (e,m,by_,zs)) (hx:cO (fun s=>aQ s tm) x=some (.o k n c)) (hy:cO (fun s=>aQ s tm) y=some (.v (.c (.s q ys)))) (hb:aQ k bx=some (e,cs)) (hcs:cs=us++rest) (hus:us.length=n*m) (hr:rest.length=(c-n)*m)
 (hys:ys.length=q*m) (hm:0<m) (hnc:n≤c) (hcm:c≤maxLen) (hbytes:(n+q)*by_≤140737488355328) (h63:n+q≤maxLen) (hd:t=k∨aQ t bx=none) (hN:n+q=N') (hz:us++ys=zs')
 (hg:gd ops ⟨some t,.call ⟨.builtin .append,#[x,y],#[U,U]⟩,ty,pos,af,g⟩ (fun s=>aQ s tm)=some true)
 (hk: ∀c' rest',N'≤c'→c'≤maxLen→rest'.length=(c'-N')*m→dl P ops os ⟨N,(t,.o t N' c')::kX k tm,(t,e,zs'++rest')::jT k bx⟩ K):
 dl P ops (⟨some t,.call ⟨.builtin .append,#[x,y],#[U,U]⟩,ty,pos,af,g⟩::os) ⟨N,tm,bx⟩ K:=by
 subst hcs hN hz
 exact kQ hU hx hy hb hus hr hys hm hnc hcm hbytes h63 hd hg hk
theorem EP {q:Nat}
 (hU:xF P U=some (e,m,by_,zs)) (hx:cO (fun s=>aQ s tm) x=some .z) (hy:cO (fun s=>aQ s tm) y=some (.v (.c (.s q ys)))) (hys:ys.length=q*m) (hq:0<q)
 (hbytes:q*by_≤140737488355328) (h63:q≤maxLen) (hd:aQ t bx=none) (hz:ys=zs')
 (hg:gd ops ⟨some t,.call ⟨.builtin .append,#[x,y],#[U,U]⟩,ty,pos,af,g⟩ (fun s=>aQ s tm)=some true)
 (hk: ∀c' rest',q≤c'→c'≤maxLen→rest'.length=(c'-q)*m→dl P ops os ⟨N,(t,.o t q c')::tm,(t,e,zs'++rest')::bx⟩ K):
 dl P ops (⟨some t,.call ⟨.builtin .append,#[x,y],#[U,U]⟩,ty,pos,af,g⟩::os) ⟨N,tm,bx⟩ K:=by
 subst hz
 exact lv hU hx hy hys hq hbytes h63 hd hg hk
end
section
variable {P:Program}{ops:Array Oper}
theorem KF {q:Nat}
 (hU:xF P U=some (e,m,by_,zs)) (hx:cO (fun s=>aQ s tm) x=some (.f 0 us)) (hy:cO (fun s=>aQ s tm) y=some (.v (.c (.s q ys)))) (hys:ys.length=q*m) (hq:0<q)
 (hbytes:q*by_≤140737488355328) (h63:q≤maxLen) (hd:aQ t bx=none)
 (hg:gd ops ⟨some t,.call ⟨.builtin .append,#[x,y],#[U,U]⟩,ty,pos,af,g⟩ (fun s=>aQ s tm)=some true):
 H9 P ops ⟨some t,.call ⟨.builtin .append,#[x,y],#[U,U]⟩,ty,pos,af,g⟩ ⟨N,tm,bx⟩ (fun σ'=> ∃c' rest,q≤c'∧c'≤maxLen∧rest.length=(c'-q)*m∧σ'=⟨N,(t,.o t q c')::tm,(t,e,ys++rest)::bx⟩):=by
 intro av w0 β a w hrel htn
 have hs:=Sees.of hrel.sees (L:=iY ops ⟨some t,.call ⟨.builtin .append,#[x,y],#[U,U]⟩,ty,pos,af,g⟩) (fun _ _=>trivial) (fun _ _ _ h=>h) (fun _ _ h=>h)
 refine⟨eL hs hg,?_⟩
 obtain⟨⟨A,e1⟩,_⟩:(∃A,a.eval x=.slice A 0 0)∧_:=aC hs (x:=x) (by simp[Op.operands,Call.operands]) hx
 have h2:=aC hs (x:=y) (by simp[Op.operands,Call.operands]) hy
 obtain⟨news,hsrc,hrn⟩:=Aw hU h2 hys
 obtain⟨hu,i,z,hi,hz,hsz,hby,hzl,hzr⟩:=jB hU
 subst hsz
 have ht:t<N:=htn t rfl
 unfold Gives
 have hold:(Builtin.firstCells i.size 0 (.slice A 0 0)).run P w.drew=.ok ([]:List Value).toArray w.drew:=by
  cases A with
  |none=>rfl
  |some b=>
   have h9:=run_loadCells_list (P:=P) w.drew b ([]:List Value) (fun j u h=>by simp at h)
   rw[show([]:List Value).length=0*i.size by simp] at h9
   exact h9
 have hgrow:0<0+q:=by omega
 have hrun:=run_append_grow_src (P:=P) (w:=w) U U ty e i z hu hi hz A 0 0 _ hold (a.eval y) q news hsrc hgrow (by have:maxLen=9223372036854775807:=rfl;omega) (growslice_fits hgrow (by rw[hby,iV];exact hbytes))
 rw[iV] at hrun
 generalize hcap:grownCap w q 0 e=c' at hrun
 have hc1:q≤c':=by rw[←hcap];exact grownCap_ge _ _ _ _
 have hc2:c'≤maxLen:=by rw[←hcap];exact grownCap_le_maxLen _ _ _ _ h63
 have hexec:(execOp a.eval ⟨some t,.call ⟨.builtin .append,#[x,y],#[U,U]⟩,ty,pos,af,g⟩).run P w=.ok (.value (.slice (some ⟨w.heap.size,0,none⟩) q c'))
  (w.drew.alloc (.cells (([]++news).toArray++Builtin.zeroCells z.cells (c'-q)) e)):=by
  simp only[execOp,resolve,invoke,builtin,eM,gK,fi,uw,ru,uk,e1]
  rw[hrun]
  rfl
 rw[hexec]
 obtain⟨rest,hrl,hrz⟩:=OD hzl hzr (c'-q)
 have hrd:RdCs (fun b=>av b∨ ∃k,aQ k bx≠none∧β k=b) w.drew (([]++news).toArray++Builtin.zeroCells z.cells (c'-q)).toList (ys++rest):=by
  have h1:RdCs (fun b=>av b∨ ∃k,aQ k bx≠none∧β k=b) w.drew (news++(Builtin.zeroCells z.cells (c'-q)).toList) (ys++rest):=o8 (RdCs.keep (Keep.below (fJ _ w).drew) hrn) (hrz (fun b=>av b∨ ∃k,aQ k bx≠none∧β k=b) w.drew)
  grind
 have hbox:=hrel.drew.box (d:=t) ht hd (U:=e) (sl:=some c') hrd
 refine⟨⟨N,(t,.o t q c')::tm,(t,e,ys++rest)::bx⟩,fun l=>if l=t then w.drew.heap.size else β l,⟨c',_,hc1,hc2,hrl,rfl⟩,rfl,?_⟩
 have hval:=hbox.value (d:=some t) (x:=.o t q c') (v:=.slice (some ⟨w.heap.size,0,none⟩) q c') (by intro s hs;injection hs with hs;subst hs;exact ht) (fJ _ _) (by show _=Value.slice (some ⟨if t=t then w.drew.heap.size else β t,0,none⟩) _ _;rw[if_pos rfl];rfl) (by intro l hl;injection hl with hl;subst hl;rw[if_pos rfl];simp)
 rw[BQ] at hval
 refine hval.congr (fun s=>?_) (fun l=>?_)
 ·show aQ s ((t,DV.o t q c')::tm)=(if some t=some s then _ else if some t=some s then _ else aQ s tm)
  rw[b7]
  grind
 ·show aQ l ((t,e,ys++rest)::bx)=(if some t=some l then _ else aQ l bx)
  rw[b7]
  grind
end
end Go.Proofs.YtegpmhlfjkhjmaaGreat
