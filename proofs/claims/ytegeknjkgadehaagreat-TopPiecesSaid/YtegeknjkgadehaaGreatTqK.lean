/-Plain:points,lines,circles and curves as values;lists of them as cells;what the reference computes of them. -/
import Derived.Test.YtegeknjkgadehaaGreatTqJ
namespace Go.Proofs.YtegeknjkgadehaaGreat
open Go Go.RowKit
variable {a:Act}{args cap:Array Operand}{at_:Array TypeId}{f:FuncId}{ki kk:IntKind}{tm:List (Nat×DV)}{K:List (Nat×DV)->Prop}{bx:List (Nat×TypeId×List CellD)}{cs cs0 cs1 r us xs ys z zs zs':List CellD}{ds rs:List D0}{C:List Nat}{os:List Oper}{vl vs:List Value}{N b by_ i j k m n t:Nat}{β:Nat->Nat}{V:Nat->Prop}{fo h x y:Operand}{b1 b2 c:Rat}{U e:TypeId}{v:Value}{w w':World}
variable {ty:TypeId}{pos:String}{af:Array Edge}{g:Option (Nat×Bool)}{dst:Option Nat}
theorem gZ:type_of% @List.mem_singleton:=@List.mem_singleton
theorem qr:type_of% @Option.none_or:=@Option.none_or
theorem rD:type_of% @List.not_mem_nil:=@List.not_mem_nil
theorem uo:type_of% @List.length_filter_le:=@List.length_filter_le
theorem zT:type_of% @Rat.mul_eq_zero:=@Rat.mul_eq_zero
structure Pt where
 a1:Rat
 b1:Rat
 a2:Rat
 b2:Rat
 c:Rat
structure Ln where
 a:Rat
 b:Rat
 c:Rat
structure Ci where
 x:Rat
 y:Rat
 q:Rat
inductive Cv where
 |seg (l:Ln) (p q:Pt)
 |arc (k:Ci) (w:Bool) (p q:Pt)
def H6:List CellD:=[.b false,.s 0 [],.b false,.s 0 []]
def g9:List CellD:=H6++H6++H6
def xR4:List CellD:=[.x,.x,.x,.x]
def lp:List CellD:=xR4++xR4++xR4
def ah (p:Pt):List CellD:=cR p.a1++cR p.b1++cR p.a2++cR p.b2++cR p.c
def dh (l:Ln):List CellD:=cR l.a++cR l.b++cR l.c
def bG (k:Ci):List CellD:=cR k.x++cR k.y++cR k.q
def aC:Cv->List CellD
 | .seg l p q=>[.b false]++dh l++g9++[.b false]++ah p++ah q
 | .arc k w p q=>[.b true]++lp++bG k++[.b w]++ah p++ah q
def Zf (z:List CellD):Cv->List CellD
 | .seg l p q=>[.b false]++dh l++z++[.b false]++ah p++ah q
 | .arc k w p q=>[.b true]++z++bG k++[.b w]++ah p++ah q
theorem agY (h:z.length=12):Wk z lp:=by
 match z,h with
 |[a,b,c,d,e,f,g,h,i,j,k,l],_=>exact .any _ (.any _ (.any _ (.any _ (.any _ (.any _ (.any _ (.any _ (.any _ (.any _ (.any _ (.any _ .nil)))))))))))
theorem wkA (h:z.length=12) (k:Ci) (w:Bool) (p q:Pt):Wk (Zf z (.arc k w p q)) (aC (.arc k w p q)):=(((((Wk.refl _).app (agY h)).app (Wk.refl _)).app (Wk.refl _)).app (Wk.refl _)).app (Wk.refl _)
theorem ao (p:Pt):(ah p).length=20:=rfl
theorem ai (c:Cv):(aC c).length=66:=by cases c<;>rfl
section
variable {α:Type}
def aD (enc:α->List CellD):List α->List CellD
 |[]=>[]
 |x::l=>enc x++aD enc l
variable {enc:α->List CellD}{m:Nat}
theorem aK (h: ∀x,(enc x).length=m): ∀l:List α,(aD enc l).length=l.length*m
 |[]=>by simp[aD]
 |x::l=>by show(enc x++aD enc l).length=(l.length+1)*m;rw[dB,h,aK h l,mS];omega
theorem iZ: ∀l r:List α,aD enc (l++r)=aD enc l++aD enc r
 |[],r=>rfl
 |x::l,r=>by show enc x++aD enc (l++r)=enc x++aD enc l++aD enc r;rw[iZ l r,oE]
theorem nU (x:α):aD enc [x]=enc x:=ws _
theorem o4 (h: ∀x,(enc x).length=m) (l:List α) (j:Nat):(aD enc l).drop (j*m)=aD enc (l.drop j):=by
 by_cases A:j<=l.length
 .have e:aD enc l=aD enc (l.take j)++aD enc (l.drop j):=by rw[<-iZ,zE]
  have hl:(aD enc (l.take j)).length=j*m:=by rw[aK h,fF,jh A]
  grind
 .rw[qM (by rw[aK h];exact nD _ (by omega)),qM (by omega)];rfl
theorem nh (h: ∀x,(enc x).length=m) (l:List α) (j:Nat):(aD enc l).take (j*m)=aD enc (l.take j):=by
 by_cases A:j<=l.length
 .have e:aD enc l=aD enc (l.take j)++aD enc (l.drop j):=by rw[<-iZ,zE]
  have hl:(aD enc (l.take j)).length=j*m:=by rw[aK h,fF,jh A]
  grind
 .rw[dS (by rw[aK h];exact nD _ (by omega)),dS (by omega)]
theorem nE (h: ∀x,(enc x).length=m) {l:List α}{x:α}(D:l[j]? =some x):(aD enc l).drop (j*m)=enc x++aD enc (l.drop (j+1)):=by obtain⟨h1,A⟩:=fM.1 D;rw[o4 h,ov h1,A];rfl
theorem kg {l:List α}{d:α}(h:j<l.length):l[j]? =some (l.getD j d):=by grind
section
variable {P:Program}{eO:Array Oper}{T:TF}{B:BF}{dst:Option Nat}{x y:Operand}{ty U:TypeId}{pos:String}{af:Array Edge}{g:Option (Nat×Bool)}
theorem mP {l:List α}(d:α) (h: ∀x,(enc x).length=m) (A:j<l.length) (hU:pT P U=some m) (e:(cE T x,cE T y,gd eO ⟨dst,.indexAddr U x y,ty,pos,af,g⟩ T)=(some (.v (.c (.s l.length (aD enc l)))),some (.v (.c (.i kk (j:Int)))),some true)):Sem P eO ⟨dst,.indexAddr U x y,ty,pos,af,g⟩ T B (.r (.q (enc (l.getD j d)++aD enc (l.drop (j+1))))):=
 cg (j:=(j:Int)) hU (congrArg Prod.fst e) (congrArg (fun q=>q.2.1) e) (by omega) (aK h _) (nE h (kg A)) (congrArg (fun q=>q.2.2) e)
theorem zu {a:α}(h: ∀x,(enc x).length=m) (hU:mT P U=some (true,m)) (e:(cE T x,gd eO ⟨dst,.load U x,ty,pos,af,g⟩ T)=(some (.q (enc a++r)),some true)):Sem P eO ⟨dst,.load U x,ty,pos,af,g⟩ T B (.r (.v (.a (enc a)))):=
 cJ hU (congrArg Prod.fst e) (by rw[<-h a];exact List.take_left) (h a) (congrArg Prod.snd e)
end
theorem i7 {l:List α}{d:α}(h:j<l.length):l.take (j+1)=l.take j++[l.getD j d]:=by simp_all
theorem dG {l:List α}{d:α}(h:j<l.length):l.getD j d∈l:=by grind
end
def dPt:Pt:=⟨0,0,0,0,0⟩
def db:Cv:=.seg ⟨0,0,0⟩ dPt dPt
def Cv.p:Cv->Pt
 | .seg _ p _=>p
 | .arc _ _ p _=>p
def Cv.q:Cv->Pt
 | .seg _ _ q=>q
 | .arc _ _ _ q=>q
def Cv.isArc:Cv->Bool
 | .seg ..=>false
 | .arc ..=>true
def Cv.cw:Cv->Bool
 | .seg ..=>false
 | .arc _ w _ _=>w
def Cv.ends:Cv->Pt->Pt->Cv
 | .seg l _ _,p,q=>.seg l p q
 | .arc k w _ _,p,q=>.arc k w p q
def Cv.rev:Cv->Cv
 | .seg l p q=>.seg l q p
 | .arc k w p q=>.arc k (!w) q p
def vA (l:Ln) (p:Pt):Rat:=l.a*p.a1+l.b*p.a2-l.c
def vB (l:Ln) (p:Pt):Rat:=l.a*p.b1+l.b*p.b2
def gf (l:Ln) (p:Pt):Int:=s3 (vA l p) (rB (vB l p) p.c) (rC (vB l p) p.c)
def PU (k:Ci) (p:Pt):Rat:=MB (p.a1-k.x) (p.a2-k.y) p.b1 p.b2 p.c+ -k.q
def HC (k:Ci) (p:Pt):Rat:=Pw (p.a1-k.x) (p.a2-k.y) p.b1 p.b2
def kq (k:Ci) (p:Pt):Int:= -s3 (PU k p) (HC k p) (zc (HC k p) p.c)
def Cv.supp:Cv->Pt->Bool
 | .seg l _ _,p=>gf l p==0
 | .arc k _ _ _,p=>kq k p==0
def zX (p:Pt) (v:Rat):Int:=b8 (p.a1-v) p.b1 (zc p.b1 p.c)
def mh (p:Pt) (v:Rat):Int:=b8 (p.a2-v) p.b2 (zc p.b2 p.c)
def kv (k:Ci) (p:Pt):Bool:=decide (mh p k.y>0)||(mh p k.y==0&&decide (zX p k.x>0))
def cx (p q:Pt):Int:=Bh p.a1 p.b1 p.c q.a1 q.b1 q.c
def cy (p q:Pt):Int:=Bh p.a2 p.b2 p.c q.a2 q.b2 q.c
def cP (p q:Pt):Int:=nR p.a1 p.b1 p.a2 p.b2 p.c q.a1 q.b1 q.a2 q.b2 q.c
def gE (k:Ci) (p q:Pt):Int:=if kv k p !=kv k q then(if kv k q then-1 else 1) else if kv k p then-cx p q else cx p q
def tG (k:Ci) (f p q:Pt):Int:=if decide (gE k p f<0) !=decide (gE k q f<0) then(if decide (gE k q f<0) then-1 else 1) else gE k p q
def Pt.flip (p:Pt):Pt:=⟨-p.a1,-p.b1,p.a2,p.b2,p.c⟩
def Ci.mir (k:Ci):Ci:=⟨-k.x,k.y,k.q⟩
def Cv.ord:Cv->Pt->Pt->Int
 | .seg _ f t,p,q=>if decide (cP f t>0) then-cP p q else cP p q
 | .arc k w f _,p,q=>if !w then tG k f p q else tG k.mir f.flip p.flip q.flip
def Cv.on (c:Cv) (p:Pt):Bool:=c.supp p&&decide (c.ord c.p p<=0)&&decide (c.ord p c.q<=0)
def od (c:Cv) (x:Pt):List Pt->Nat
 |[]=>0
 |o::l=>if c.ord o x<0 then od c x l+1 else 0
def iO (c:Cv) (out:List Pt) (x:Pt):List Pt:=
 if od c x out<out.length/\cP (out.getD (od c x out) dPt) x=0 then out else out.take (od c x out)++x::out.drop (od c x out)
def cj (c:Cv) (l:List Pt):List Pt:=l.foldl (iO c) []
def ia (c:Cv):List Pt->List Cv
 |p::q::l=>c.ends p q::ia c (q::l)
 |_=>[]
def um (c:Cv) (l:List Pt):List Cv:=ia c (cj c ([c.p,c.q]++l))
def ue (x y:Rat):Bool:=aG x y==0
def lF:Cv->Cv->Bool
 | .seg l _ _,.seg m _ _=>ue (l.a*m.b) (l.b*m.a)&&ue (l.a*m.c) (l.c*m.a)&&ue (l.b*m.c) (l.c*m.b)
 | .arc k _ _ _,.arc d _ _ _=>ue k.x d.x&&ue k.y d.y&&ue k.q d.q
 |_,_=>false
def iP (a1 b1 a2 b2 c:Rat):Pt:=if jy c then⟨a1+b1*rt c,0,a2+b2*rt c,0,0⟩ else⟨a1,b1,a2,b2,c⟩
def kK (l m:Ln):Rat:=l.a*m.b-m.a*l.b
def NK (l m:Ln):Rat:=l.c*m.b-m.c*l.b
def Nu (l m:Ln):Rat:=l.a*m.c-m.a*l.c
def fP (l m:Ln):List Pt:=if aG (kK l m) 0≠0 then[⟨NK l m/kK l m,0,Nu l m/kK l m,0,0⟩] else[]
def rd (l m:Ln):Int:=if aG (kK l m) 0≠0 then 0 else if aG (NK l m) 0=0/\aG (Nu l m) 0=0 then 10 else 0
def iI (l:Ln):Rat:=l.a*l.a+l.b*l.b
def pt (l:Ln) (x y:Rat):Rat:=l.a*x+l.b*y-l.c
def p5 (l:Ln) (k:Ci):Rat:=iI l*k.q-pt l k.x k.y*pt l k.x k.y
def oC (l:Ln) (k:Ci):Rat:=k.x-pt l k.x k.y/iI l*l.a
def oh (l:Ln) (k:Ci):Rat:=k.y-pt l k.x k.y/iI l*l.b
def Vu (l:Ln) (k:Ci):Pt:=iP (oC l k) (-(l.b/iI l)) (oh l k) (-(-l.a/iI l)) (p5 l k)
def Vs (l:Ln) (k:Ci):Pt:=iP (oC l k) (l.b/iI l) (oh l k) (-l.a/iI l) (p5 l k)
def jw (l:Ln) (k:Ci):List Pt:=
 if aG (p5 l k) 0<0 then[] else if aG (p5 l k) 0=0 then[⟨oC l k,0,oh l k,0,0⟩]
 else if cP (Vu l k) (Vs l k)>0 then[Vs l k,Vu l k] else[Vu l k,Vs l k]
def pF (k d:Ci):Bool:=ue k.x d.x&&ue k.y d.y
def DZ (k:Ci):Rat:=k.x*k.x+k.y*k.y-k.q
def KW (k d:Ci):Ln:=⟨2*(d.x-k.x),2*(d.y-k.y),DZ d-DZ k⟩
def qO (k d:Ci):List Pt:=if pF k d then[] else jw (KW k d) k
def AR (k d:Ci):Int:=if pF k d then(if aG k.q d.q=0 then 10 else 0) else 0
def oD:Cv->Cv->List Pt
 | .arc k _ _ _,.arc d _ _ _=>qO k d
 | .arc k _ _ _,.seg l _ _=>jw l k
 | .seg l _ _,.arc k _ _ _=>jw l k
 | .seg l _ _,.seg m _ _=>fP l m
def Kb:Cv->Cv->Int
 | .arc k _ _ _,.arc d _ _ _=>AR k d
 | .seg l _ _,.seg m _ _=>rd l m
 |_,_=>0
theorem mr (c:Cv):(aC c)[0]? =some (.b c.isArc):=by cases c<;>rfl
theorem yl (c:Cv):(aC c)[25]? =some (.b c.cw):=by cases c<;>rfl
theorem gz (c:Cv):((aC c).drop 26).take 20=ah c.p:=by cases c<;>rfl
theorem ju (c:Cv):((aC c).drop 46).take 20=ah c.q:=by cases c<;>rfl
theorem Pu (c:Cv):List.take 66 (List.drop 0 (aC c))=aC c:=by rw[mU,<-ai c];exact pP
def Cv.qc:Cv->List CellD
 | .seg _ _ _=>H6
 | .arc k _ _ _=>cR k.q
theorem G5 (c:Cv):c.qc.length=4:=by cases c<;>rfl
theorem Bz (c:Cv):((aC c).drop 21).take 4=c.qc:=by cases c<;>rfl
theorem E6 (D:zs.length=m) (A:xs.length=m):vu (fun i=>some (i*m,m)) (List.replicate 1 zs).flatten [(0,.a xs)]=some xs:=by subst D;simp[vu,D0.cells,A]
theorem jA (A:xs.length=m):xs.length=1*m:=by omega
def Cv.setp:Cv->Pt->Cv
 | .seg l _ q,p=>.seg l p q
 | .arc k w _ q,p=>.arc k w p q
theorem vH (c:Cv) (p:Pt):(aC c).take 26++ah p++(aC c).drop 46=aC (c.setp p):=by cases c<;>rfl
theorem EH (c:Cv) (p q:Pt):(aC (c.setp p)).take 46++ah q++(aC (c.setp p)).drop 66=aC (c.ends p q):=by cases c<;>rfl
def eG (c d:Cv) (p:Pt):Bool:=c.on p&&d.on p
def aX (c d:Cv):List Pt:=if lF c d then[c.p,c.q,d.p,d.q] else oD c d
def en (c d:Cv):List Pt:=cj c ((aX c d).filter (eG c d))
def jg (c d:Cv):Cv:=if (c.isArc&&d.isArc&&(c.cw !=d.cw))||(!c.isArc&&(cP c.p c.q !=cP d.p d.q)) then d.rev else d
def Pz (d:Cv) (l:List Pt):Nat->Bool
 |0=>false
 |i+1=>Pz d l i||decide (d.ord (l.getD i dPt) (l.getD (i+1) dPt)<0)
def CV (c d:Cv):Bool:=if lF c d then Pz (jg c d) (en c d) ((en c d).length-1) else false
section
variable {c d:Cv}
theorem ahn (h:c.isArc=false) (g:(cP c.p c.q !=cP d.p d.q)=true):jg c d=d.rev:=by unfold jg;rw[h,g];rfl
theorem aij (h:c.isArc=false) (g:(cP c.p c.q !=cP d.p d.q)=false):jg c d=d:=by unfold jg;rw[h,g];rfl
theorem aiB (h:c.isArc=true) (g:d.isArc=false):jg c d=d:=by unfold jg;rw[h,g];rfl
theorem aiK (h:c.isArc=true) (g:d.isArc=true) (e:(!(c.cw==d.cw))=true):jg c d=d.rev:=by unfold jg;rw[h,g,show(c.cw !=d.cw)=true from e];rfl
theorem ah6 (h:c.isArc=true) (g:d.isArc=true) (e:(!(c.cw==d.cw))=false):jg c d=d:=by unfold jg;rw[h,g,show(c.cw !=d.cw)=false from e];rfl
end
structure GP (p:Pt):Prop where
 a1:Rz 113 p.a1
 b1:Rz 21 p.b1
 a2:Rz 113 p.a2
 b2:Rz 21 p.b2
 c:Rz 112 p.c
 ir:p.c≠0->Rz 52 p.a1/\Rz 52 p.a2
 v:xm p.b1 p.b2 p.c=true
structure GB (p:Pt):Prop where
 a1:Rz 40000 p.a1
 b1:Rz 40000 p.b1
 a2:Rz 40000 p.a2
 b2:Rz 40000 p.b2
 c:Rz 40000 p.c
 v:xm p.b1 p.b2 p.c=true
theorem GP.gb {p:Pt}(h:GP p):GB p:=⟨h.a1.mono (by decide),h.b1.mono (by decide),h.a2.mono (by decide),h.b2.mono (by decide),h.c.mono (by decide),h.v⟩
structure GL (l:Ln):Prop where
 a:Rz 4 l.a
 b:Rz 4 l.b
 c:Rz 17 l.c
 n:iI l≠0
structure GK (k:Ci):Prop where
 x:Rz 1 k.x
 y:Rz 1 k.y
 q:Rz 2 k.q
def Cv.good:Cv->Prop
 | .seg l p q=>GL l/\GP p/\GP q
 | .arc k _ p q=>GK k/\GP p/\GP q
theorem WX (h:xm b1 b2 c=true):xm (-b1) b2 c=true:=by
 unfold xm at*;by_cases h1:b1=0;·grind
 grind
theorem GP.flip {p:Pt}(h:GP p):GP p.flip:=⟨h.a1.neg,h.b1.neg,h.a2,h.b2,h.c,fun e=>⟨(h.ir e).1.neg,(h.ir e).2⟩,WX h.v⟩
theorem GK.mir {k:Ci}(h:GK k):GK k.mir:=⟨h.x.neg,h.y,h.q⟩
theorem GP.rat {v w:Rat}(h:Rz 113 v) (g:Rz 113 w):GP ⟨v,0,w,0,0⟩:=⟨h,iH (by decide),g,iH (by decide),iH (by decide),fun e=>absurd rfl e,by unfold xm;rw[if_pos ⟨rfl,rfl⟩];exact decide_eq_true rfl⟩
theorem GP.dPt:GP dPt:=GP.rat (iH (by decide)) (iH (by decide))
theorem GP.getD {l:List Pt}(h: ∀p∈l,GP p) (j:Nat):GP (l.getD j Go.Proofs.YtegeknjkgadehaaGreat.dPt):=by
 by_cases A:j<l.length;·exact h _ (dG A)
 .rw[List.getD,uS (by omega)];exact GP.dPt
section
variable {c:Cv}{x:Pt}
theorem Ge: ∀ {l:List Pt}{k:Nat},k<=l.length->(∀j,j<k->c.ord (l.getD j dPt) x<0)->(k=l.length\/ ¬c.ord (l.getD k dPt) x<0)->od c x l=k
 |[],k,h,_,_=>by
  have:k=0:=by simpa using h
  subst this;rfl
 |o::l,k,h,h1,A=>by
  show(if c.ord o x<0 then od c x l+1 else 0)=k;match k with
  |0=>
   rcases A with A|A;·simp at A
   .exact if_neg (show ¬c.ord o x<0 from A)
  |k+1=>rw[if_pos (show c.ord o x<0 from h1 0 (by omega)),Ge (by simpa using h) (fun j D=>h1 (j+1) (by omega)) (A.imp (fun e=>by simpa using e) id)]
theorem xH {out:List Pt}{y:Pt}(h:y∈iO c out x):y∈out\/y=x:=by
 unfold iO at h;split at h;·grind
 grind
theorem Rc {out:List Pt}:out.length<=(iO c out x).length/\(iO c out x).length<=out.length+1:=by
 unfold iO;split;·omega
 grind
end
theorem IN {c:Cv}: ∀(l out:List Pt) {y:Pt},y∈l.foldl (iO c) out->y∈out\/y∈l
 |[],out,y,h=>.inl h
 |x::l,out,y,h=>by
  rcases IN l (iO c out x) h with h|h;·exact(xH h).imp id fun e=>by rw[e];exact fC
  .exact .inr (fv _ h)
theorem nk {c:Cv}{l:List Pt}{y:Pt}(h:y∈cj c l):y∈l:=(IN l [] h).elim (fun e=>by cases e) id
theorem Do {c:Cv}: ∀(l out:List Pt),out.length<=(l.foldl (iO c) out).length/\(l.foldl (iO c) out).length<=out.length+l.length
 |[],out=>⟨Nat.le_refl _,bk _⟩
 |x::l,out=>by have h1:=Rc (c:=c) (x:=x) (out:=out);have A:=Do (c:=c) l (iO c out x);show out.length<=(l.foldl (iO c) (iO c out x)).length/\(l.foldl (iO c) (iO c out x)).length<=out.length+(l.length+1);omega
theorem Ao {c:Cv}{l:List Pt}:(cj c l).length<=l.length:=by have:=(Do (c:=c) l []).2;rw[List.length_nil,dN] at this;exact this
theorem sm {c:Cv}{l:List Pt}(h:i<l.length):cj c (l.take (i+1))=iO c (cj c (l.take i)) (l.getD i dPt):=by unfold cj;rw[i7 h,List.foldl_append];rfl
theorem PH {c:Cv}{l:List Pt}(h:l.length<=i):cj c (l.take i)=cj c l:=by rw[dS h]
theorem X1 {c:Cv}{out:List Pt}{x:Pt}(hs:od c x out=k) (h:k<out.length) (A:cP (out.getD k dPt) x=0):iO c out x=out:=by unfold iO;rw[hs,if_pos ⟨h,A⟩]
theorem yA {c:Cv}{out:List Pt}{x:Pt}(hs:od c x out=k) (h: ¬(k<out.length/\cP (out.getD k dPt) x=0)):iO c out x=out.take k++x::out.drop k:=by unfold iO;rw[hs,if_neg h]
theorem yH {out:List Pt}{x:Pt}:aD ah (out.take k++x::out.drop k)=aD ah (out.take k)++ah x++aD ah (out.drop k):=by rw[iZ];show _++(ah x++aD ah (out.drop k))=_;grind
theorem lm {out:List Pt}{x:Pt}(h:k<=out.length):(out.take k++x::out.drop k).length=out.length+1:=by grind
theorem lN (c:Cv): ∀l:List Pt,(ia c l).length=l.length-1
 |[]=>rfl
 |[_]=>rfl
 |p::q::l=>by show(ia c (q::l)).length+1=l.length+1+1-1;rw[lN c (q::l)];show l.length+1-1+1=_;omega
theorem zJ (c:Cv): ∀ {l:List Pt}{i:Nat},i+1<l.length->ia c (l.take (i+2))=ia c (l.take (i+1))++[c.ends (l.getD i dPt) (l.getD (i+1) dPt)]
 |p::q::l,0,_=>rfl
 |p::q::l,i+1,h=>by show c.ends p q::ia c ((q::l).take (i+2))=c.ends p q::ia c ((q::l).take (i+1))++_;rw[zJ c (by simpa using h)];rfl
 |[_],i,h=>by simp at h
 |[],i,h=>by simp at h
theorem PF (c:Cv) {l:List Pt}:ia c (l.take 1)=[]:=by
 match l with
 |[]=>rfl
 |p::l=>rfl
theorem ew {c:Cv}(h:c.good):GP c.p:=by cases c<;>exact h.2.1
theorem f5 {c:Cv}(h:c.good):GP c.q:=by cases c<;>exact h.2.2
theorem zF {c:Cv}(h:c.good) {p q:Pt}(A:GP p) (D:GP q):(c.ends p q).good:=by cases c<;>exact⟨h.1,A,D⟩
theorem C9 {c:Cv}(h:c.good):c.rev.good:=by cases c<;>exact⟨h.1,h.2.2,h.2.1⟩
theorem yP (A B C D M N:Rat): -1<=mY A B C D M N/\mY A B C D M N<=1:=by
 unfold mY;split;·decide
 .exact Oi (il _ _ _) (go (il _ _ _) (dH _ _)) (il _ _ _)
theorem U8 (a b c:Rat): -1<=s3 a b c/\s3 a b c<=1:=by unfold s3;have h1:=dH a 0;have A:=dH b 0;grind
theorem dO (p q:Pt): -1<=cx p q/\cx p q<=1:=yP _ _ _ _ _ _
theorem Ex (p q:Pt): -1<=cP p q/\cP p q<=1:=by
 unfold cP nR;split;·exact yP _ _ _ _ _ _
 .exact yP _ _ _ _ _ _
theorem af5 {b:Rat}(h:Rz k b) (A:1<=k):Rz k (rB b c):=by
 unfold rB;split;·exact iH A
 .exact h
theorem af1 {b:Rat}(h:Rz k c) (A:1<=k):Rz k (rC b c):=by
 unfold rC;split;·exact iH A
 .exact h
theorem qP {x:Int}(h: -1000000000<x) (A:x<1000000000):Sz 1 x:=by
 have e:pw 1=1000000000:=by decide+kernel
 exact⟨by omega,by omega⟩
theorem AU {n:Int}(h: -1<=n/\n<=1):IntKind.i64.wrap (0-n)= -n:=by rw[Int.zero_sub];exact lq (by omega) (by omega)
theorem aiG {p q:Pt}(h:(cx p q !=0)=true):cP p q=cx p q:=Wn h
theorem ahH {p q:Pt}(h:(cx p q !=0)=false):cP p q=cy p q:=Wc h
theorem ZY {k:Ci}{p:Pt}(h:decide (mh p k.y>0)=true):kv k p=true:=by unfold kv;rw[h];rfl
theorem QC {k:Ci}{p:Pt}(h:decide (mh p k.y>0)=false) (g:(mh p k.y==0)=false):kv k p=false:=by unfold kv;rw[h,g];rfl
theorem K9 {k:Ci}{p:Pt}(h:decide (mh p k.y>0)=false) (g:(mh p k.y==0)=true):kv k p=decide (zX p k.x>0):=by unfold kv;rw[h,g];rfl
theorem YE {k:Ci}{p q:Pt}(h:(!(kv k p==kv k q))=true) (g:kv k q=true):gE k p q= -1:=by unfold gE;rw[show(kv k p !=kv k q)=true from h,if_pos rfl,g,if_pos rfl]
theorem QF {k:Ci}{p q:Pt}(h:(!(kv k p==kv k q))=true) (g:kv k q=false):gE k p q=1:=by unfold gE;rw[show(kv k p !=kv k q)=true from h,if_pos rfl,g];rfl
theorem Ta {k:Ci}{p q:Pt}(h:(!(kv k p==kv k q))=false) (g:kv k p=true):gE k p q= -cx p q:=by unfold gE;rw[show(kv k p !=kv k q)=false from h,if_neg (by decide),g,if_pos rfl]
theorem S2 {k:Ci}{p q:Pt}(h:(!(kv k p==kv k q))=false) (g:kv k p=false):gE k p q=cx p q:=by unfold gE;rw[show(kv k p !=kv k q)=false from h,if_neg (by decide),g];rfl
theorem afh {k:Ci}{f p q:Pt}(h:(!(decide (gE k p f<0)==decide (gE k q f<0)))=true) (g:decide (gE k q f<0)=true):tG k f p q= -1:=by unfold tG;rw[show(decide (gE k p f<0) !=decide (gE k q f<0))=true from h,if_pos rfl,g,if_pos rfl]
theorem ac1 {k:Ci}{f p q:Pt}(h:(!(decide (gE k p f<0)==decide (gE k q f<0)))=true) (g:decide (gE k q f<0)=false):tG k f p q=1:=by unfold tG;rw[show(decide (gE k p f<0) !=decide (gE k q f<0))=true from h,if_pos rfl,g];rfl
theorem afz {k:Ci}{f p q:Pt}(h:(!(decide (gE k p f<0)==decide (gE k q f<0)))=false):tG k f p q=gE k p q:=by unfold tG;rw[show(decide (gE k p f<0) !=decide (gE k q f<0))=false from h];rfl
theorem adO {l:Ln}{f t p q:Pt}(h:decide (cP f t>0)=true):(Cv.seg l f t).ord p q= -cP p q:=by show(if _ then _ else _)=_;grind
theorem adm {l:Ln}{f t p q:Pt}(h:decide (cP f t>0)=false):(Cv.seg l f t).ord p q=cP p q:=by show(if _ then _ else _)=_;grind
theorem adN {k:Ci}{w:Bool}{f t p q:Pt}(h:(!w)=true):(Cv.arc k w f t).ord p q=tG k f p q:=by show(if _ then _ else _)=_;grind
theorem adG {k:Ci}{w:Bool}{f t p q:Pt}(h:(!w)=false):(Cv.arc k w f t).ord p q=tG k.mir f.flip p.flip q.flip:=by show(if _ then _ else _)=_;grind
theorem aev {c:Cv}{p:Pt}(h:c.supp p=false):c.on p=false:=by unfold Cv.on;rw[h];rfl
theorem Zl {c:Cv}{p:Pt}(h:c.supp p=true) (g:decide (c.ord c.p p<=0)=false):c.on p=false:=by unfold Cv.on;rw[h,g];rfl
theorem aaN {c:Cv}{p:Pt}(h:c.supp p=true) (g:decide (c.ord c.p p<=0)=true):c.on p=decide (c.ord p c.q<=0):=by unfold Cv.on;rw[h,g];rfl
theorem ab4 {p:Pt}(h:xm p.b1 p.b2 p.c=true) (hs:jy p.c=true):p.b1=0/\p.b2=0/\p.c=0:=by
 unfold xm at h;split at h;·grind
 grind
theorem acs {l:Ln}{p:Pt}(h:xm p.b1 p.b2 p.c=true) (hs:jy p.c=true):vA l p+vB l p*rt p.c=vA l p/\0=rB (vB l p) p.c/\0=rC (vB l p) p.c:=by
 obtain⟨h1,A,I⟩:=ab4 h hs;have D:vB l p=0:=by unfold vB;rw[h1,A];grind
 rw[D];exact⟨by grind,(XU (.inl rfl)).symm,(V1 (.inl rfl)).symm⟩
theorem NZ {l:Ln}{p:Pt}(hl:GL l) (A:GP p):Rz 1000 (vA l p):=(((hl.a.mul A.a1).add (hl.b.mul A.a2)).sub hl.c).mono (by decide)
theorem Nr {l:Ln}{p:Pt}(hl:GL l) (A:GP p):Rz 1000 (vB l p):=((hl.a.mul A.b1).add (hl.b.mul A.b2)).mono (by decide)
theorem Qo {k:Ci}{p:Pt}(D:GK k) (A:GB p):Rz 40002 (p.a1-k.x)/\Rz 40002 (p.a2-k.y):=⟨(A.a1.sub D.x).mono (by decide),(A.a2.sub D.y).mono (by decide)⟩
theorem QV {k:Ci}{p:Pt}(I:GK k) (A:GB p):Rz 400000 (MB (p.a1-k.x) (p.a2-k.y) p.b1 p.b2 p.c):=by obtain⟨h1,D⟩:=Qo I A;exact((((h1.mul h1).add (D.mul D)).add (((A.b1.mul A.b1).add (A.b2.mul A.b2)).mul A.c))).mono (by decide)
theorem T5 {k:Ci}{p:Pt}(A:GK k) (D:GB p):Rz 400010 (PU k p):=((QV A D).add A.q.neg).mono (by decide)
theorem Q2 {k:Ci}{p:Pt}(I:GK k) (A:GB p):Rz 400000 (HC k p):=by obtain⟨h1,D⟩:=Qo I A;exact(((h1.mul A.b1).add (D.mul A.b2)).add ((h1.mul A.b1).add (D.mul A.b2))).mono (by decide)
theorem Wp (x:Rat):0<=x*x:=by
 rcases Rat.le_total with h|h;·exact og h h
 .have:=og (a:= -x) (b:= -x) (by grind) (by grind);grind
theorem ZC {x:Rat}(h:x*x=0):x=0:=by
 by_cases e:x=0;·exact e
 .exact absurd (zT.1 h) (by simp[e])
theorem Na {x y:Rat}(h:x*x+y*y=0):x=0/\y=0:=by have h1:=Wp x;have A:=Wp y;exact⟨ZC (by grind),ZC (by grind)⟩
theorem fY {x:Rat}:aG x 0=0↔x=0:=by
 unfold aG;constructor;·grind
 grind
theorem jI (x:Rat):aG x x=0:=by unfold aG;rw[if_neg (by grind),if_neg (by grind)]
theorem QU {x:Rat}(h: ¬aG x 0<0):0<=x:=by
 unfold aG at h;split at h;·grind
 grind
theorem uI {x:Rat}(h: ¬aG x 0<0) (g: ¬aG x 0=0):0<x:=by have h1:=QU h;have A:x≠0:=fun e=>g (fY.2 e);grind
theorem NS {x:Int}(h:Sz (k+k) x):Sz k (bm x):=by
 have h0:=fB x;rcases kI x 0 with A|A
 .rw[u5 A];have:=eX k;exact⟨by omega,by omega⟩
 .have h1:=tI A;have D:pw (k+k)=pw k*pw k:=wJ k k;have R:=h.lt;have J:=eX k;refine⟨?_,by omega⟩;rcases kI (bm x) (pw k) with g|g;·exact g
  .have I:pw k*pw k<=bm x*bm x:=qJ g g (by omega) h0;omega
theorem Gw (h:Rz (k+k) c):Rz k (rt c):=Rz.of (NS h.n) (NS h.d) (by have:=yv (den_pos c);omega)
theorem Bv {a1 a2:Rat}(h1:Rz 52 a1) (I:Rz 21 b1) (D:Rz 52 a2) (J:Rz 21 b2) (A:Rz 78 c) (h0:0<c) (R: ¬(b1=0/\b2=0)):GP (iP a1 b1 a2 b2 c):=by
 unfold iP;cases hs:jy c with
 |true=>exact GP.rat ((h1.add (I.mul (Gw (k:=39) A))).mono (by decide)) ((D.add (J.mul (Gw (k:=39) A))).mono (by decide))
 |false=>refine⟨h1.mono (by decide),I.mono (by decide),D.mono (by decide),J.mono (by decide),A.mono (by decide),fun _=>⟨h1,D⟩,?_⟩;unfold xm;grind
section
variable {l m:Ln}{k d:Ci}
theorem oP (hl:GL l) (A:GK k):Rz 29 (pt l k.x k.y):=(((hl.a.mul A.x).add (hl.b.mul A.y)).sub hl.c).mono (by decide)
theorem j9 (hl:GL l):Rz 17 (iI l):=((hl.a.mul hl.a).add (hl.b.mul hl.b)).mono (by decide)
theorem Jx (hl:GL l) (A:GK k):Rz 46 (pt l k.x k.y/iI l):=(oP hl A).div (j9 hl) hl.n
theorem jW (hl:GL l) (A:GK k):Rz 52 (oC l k):=(A.x.sub ((Jx hl A).mul hl.a)).mono (by decide)
theorem jT (hl:GL l) (A:GK k):Rz 52 (oh l k):=(A.y.sub ((Jx hl A).mul hl.b)).mono (by decide)
theorem v8 (hl:GL l) (A:GK k):Rz 78 (p5 l k):=(((j9 hl).mul A.q).sub ((oP hl A).mul (oP hl A))).mono (by decide)
theorem Ie (hl:GL l):Rz 21 (l.b/iI l):=(hl.b.div (j9 hl) hl.n).mono (by decide)
theorem Im (hl:GL l):Rz 21 (-l.a/iI l):=(hl.a.neg.div (j9 hl) hl.n).mono (by decide)
theorem ZH (hl:GL l): ¬(l.b/iI l=0/\ -l.a/iI l=0):=by rintro⟨h1,D⟩;have A:=hl.n;apply A;unfold iI;grind
theorem Lu (hl:GL l) (A:GK k) (h: ¬aG (p5 l k) 0<0) (g: ¬aG (p5 l k) 0=0):GP (Vs l k):=
 Bv (jW hl A) (Ie hl) (jT hl A) (Im hl) (v8 hl A) (uI h g) (ZH hl)
theorem LV (hl:GL l) (A:GK k) (h: ¬aG (p5 l k) 0<0) (g: ¬aG (p5 l k) 0=0):GP (Vu l k):=
 Bv (jW hl A) (Ie hl).neg (jT hl A) (Im hl).neg (v8 hl A) (uI h g) (fun e=>ZH hl ⟨by grind,by grind⟩)
theorem Al (hl:GL l) (D:GK k): ∀p∈jw l k,GP p:=by
 intro p A;unfold jw at A;split at A;·grind
 .rename_i h;split at A
  .rw[gZ] at A;subst A;exact GP.rat ((jW hl D).mono (by decide)) ((jT hl D).mono (by decide))
  .rename_i g;split at A
   .rcases dt.1 A with e|e;·rw[e];exact Lu hl D h g
    .rw[gZ] at e;rw[e];exact LV hl D h g
   .rcases dt.1 A with e|e;·rw[e];exact LV hl D h g
    .rw[gZ] at e;rw[e];exact Lu hl D h g
theorem BD (hl:GL l) (hm:GL m):Rz 17 (kK l m):=((hl.a.mul hm.b).sub (hm.a.mul hl.b)).mono (by decide)
theorem KT (hl:GL l) (hm:GL m):Rz 43 (NK l m):=((hl.c.mul hm.b).sub (hm.c.mul hl.b)).mono (by decide)
theorem KH (hl:GL l) (hm:GL m):Rz 43 (Nu l m):=((hl.a.mul hm.c).sub (hm.a.mul hl.c)).mono (by decide)
theorem Eu (hl:GL l) (hm:GL m): ∀p∈fP l m,GP p:=by
 intro p A;unfold fP at A;split at A
 .rename_i h;have h0:kK l m≠0:=fun e=>h (fY.2 e);rw[gZ] at A;subst A;exact GP.rat (((KT hl hm).div (BD hl hm) h0).mono (by decide)) (((KH hl hm).div (BD hl hm) h0).mono (by decide))
 grind
theorem vF (A:GK k):Rz 8 (DZ k):=(((A.x.mul A.x).add (A.y.mul A.y)).sub A.q).mono (by decide)
theorem GE:Rz 1 (2:Rat):=⟨by rw[show(2:Rat).num=2 from rfl];exact qP (by decide) (by decide),by rw[show((2:Rat).den:Int)=1 from rfl];exact Sz.one (by decide)⟩
theorem Bp (D:GK k) (A:GK d) (h:pF k d=false):GL (KW k d):=by
 refine⟨(GE.mul (A.x.sub D.x)).mono (by decide),(GE.mul (A.y.sub D.y)).mono (by decide),((vF A).sub (vF D)).mono (by decide),fun e=>?_⟩;have e1:=Na (show(2*(d.x-k.x))*(2*(d.x-k.x))+(2*(d.y-k.y))*(2*(d.y-k.y))=0 from e);have I:k.x=d.x:=by grind
 have J:k.y=d.y:=by grind
 unfold pF ue at h;rw[I,J] at h;simp[jI] at h
theorem TB (D:GK k) (I:GK d): ∀p∈qO k d,GP p:=by
 intro p A;unfold qO at A;split at A;·grind
 .rename_i h;exact Al (Bp D I (by simpa using h)) D p A
theorem SI {a c:Cv}(D:a.good) (I:c.good): ∀p∈oD a c,GP p:=by
 intro p A;cases a<;>cases c;·exact Eu D.1 I.1 p A
 .exact Al D.1 I.1 p A
 .exact Al I.1 D.1 p A
 .exact TB D.1 I.1 p A
theorem Fb {a c:Cv}(D:a.good) (I:c.good): ∀p∈aX a c,GP p:=by
 intro p A;unfold aX at A;split at A
 .simp only[dt,rD,or_false] at A;rcases A with e|e|e|e;·rw[e];exact ew D
  .rw[e];exact f5 D
  .rw[e];exact ew I
  .rw[e];exact f5 I
 .exact SI D I p A
theorem Jv {a c:Cv}(D:a.good) (I:c.good): ∀p∈en a c,GP p:=fun p A=>Fb D I p (u6.1 (nk A)).1
theorem xh:(jw l k).length<=2:=by
 unfold jw;repeat' split
 all_goals simp
theorem OU {a c:Cv}:(oD a c).length<=2:=by
 cases a<;>cases c
 .show(fP _ _).length<=2;unfold fP;split<;>simp
 .exact xh
 .exact xh
 .show(qO _ _).length<=2;unfold qO;split;·simp
  .exact xh
theorem DG {a c:Cv}:(aX a c).length<=4:=by
 unfold aX;split;·simp
 .have:=OU (a:=a) (c:=c);omega
theorem rM {a c:Cv}:(en a c).length<=4:=by have h1:=Ao (c:=a) (l:=(aX a c).filter (eG a c));have A:=uo (eG a c) (aX a c);have D:=DG (a:=a) (c:=c);unfold en;omega
end
def kr (k d:Ci):Bool:=ue k.x d.x&&ue k.y d.y&&ue k.q d.q
def Cz (l m:Ln):Bool:=ue (l.a*m.b) (l.b*m.a)&&ue (l.a*m.c) (l.c*m.a)&&ue (l.b*m.c) (l.c*m.b)
section
variable {l m:Ln}{k d:Ci}
theorem Vi (h:decide (aG (p5 l k) 0<0)=true):jw l k=[]:=by unfold jw;rw[if_pos (of_decide_eq_true h)]
theorem Rr (h:decide (aG (p5 l k) 0<0)=false) (g:(aG (p5 l k) 0==0)=true):jw l k=[⟨oC l k,0,oh l k,0,0⟩]:=by unfold jw;rw[if_neg (of_decide_eq_false h),if_pos (by simpa using g)]
theorem Q5 (h:decide (aG (p5 l k) 0<0)=false) (g:(aG (p5 l k) 0==0)=false) (q:decide (cP (Vu l k) (Vs l k)>0)=true):jw l k=[Vs l k,Vu l k]:=by unfold jw;rw[if_neg (of_decide_eq_false h),if_neg (by simpa using g),if_pos (of_decide_eq_true q)]
theorem QP (h:decide (aG (p5 l k) 0<0)=false) (g:(aG (p5 l k) 0==0)=false) (q:decide (cP (Vu l k) (Vs l k)>0)=false):jw l k=[Vu l k,Vs l k]:=by unfold jw;rw[if_neg (of_decide_eq_false h),if_neg (by simpa using g),if_neg (of_decide_eq_false q)]
theorem J1 (h:(aG (kK l m) 0 !=0)=true):fP l m=[⟨NK l m/kK l m,0,Nu l m/kK l m,0,0⟩]/\rd l m=0:=by unfold fP rd;rw[if_pos (by simpa using h),if_pos (by simpa using h)];exact⟨rfl,rfl⟩
theorem EJ (h:(aG (kK l m) 0 !=0)=false) (g:(aG (NK l m) 0==0)=true) (q:(aG (Nu l m) 0==0)=true):fP l m=[]/\rd l m=10:=by unfold fP rd;rw[if_neg (by simpa using h),if_neg (by simpa using h),if_pos ⟨by simpa using g,by simpa using q⟩];exact⟨rfl,rfl⟩
theorem EZ (h:(aG (kK l m) 0 !=0)=false) (g:(aG (NK l m) 0==0)=false):fP l m=[]/\rd l m=0:=by unfold fP rd;rw[if_neg (by simpa using h),if_neg (by simpa using h),if_neg (fun e=>by simp[e.1] at g)];exact⟨rfl,rfl⟩
theorem Fj (h:(aG (kK l m) 0 !=0)=false) (q:(aG (Nu l m) 0==0)=false):fP l m=[]/\rd l m=0:=by unfold fP rd;rw[if_neg (by simpa using h),if_neg (by simpa using h),if_neg (fun e=>by simp[e.2] at q)];exact⟨rfl,rfl⟩
theorem Tm (h:pF k d=true) (g:(aG k.q d.q==0)=true):qO k d=[]/\AR k d=10:=by unfold qO AR;rw[if_pos h,if_pos h,if_pos (by simpa using g)];exact⟨rfl,rfl⟩
theorem SN (h:pF k d=true) (g:(aG k.q d.q==0)=false):qO k d=[]/\AR k d=0:=by unfold qO AR;rw[if_pos h,if_pos h,if_neg (by simpa using g)];exact⟨rfl,rfl⟩
theorem Rx (h:pF k d=false):qO k d=jw (KW k d) k/\AR k d=0:=by unfold qO AR;rw[if_neg (by rw[h];decide),if_neg (by rw[h];decide)];exact⟨rfl,rfl⟩
end
theorem RdC.clo_eq {g:FuncId}(h:RdC V w v (.k g xs)): ∃cs:Array Value,v=.func (.func g) #[] cs/\RdCs V w cs.toList xs:=by
 cases h with
 |k _ cs _ h1 A=>exact⟨cs,rfl,by simpa using h1,fun j v u I D=>A j v u (by simpa using I) D⟩
theorem RdC.ptr_eq (h:RdC V w v (.p us)):∃b off,∃vs:List Value,v=.pointer (some ⟨b,off,none⟩)/\b<w.heap.size/\ ¬V b/\RdCs V w vs us/\ ∀(j:Nat) (u:Value),vs[j]? =some u->w.cell? ⟨b,off+j,none⟩=some u:=by
 cases h with
 |p b off _ I h1 A W J=>
  refine⟨b,off,(List.range us.length).map I,rfl,h1,A,⟨by simp,fun j v u R D=>?_⟩,fun j u D=>?_⟩
  .grind
  grind
section
variable {P:Program}{eO:Array Oper}{T:TF}{B:BF}
theorem fg  (hU:mT P U=some (true,n)) (J:cE T x=some (.v (.c (.p cs)))) (R:cs.take n=us) (hn:us.length=n) (hg:gd eO ⟨dst,.load U x,ty,pos,af,g⟩ T=some true):Sem P eO ⟨dst,.load U x,ty,pos,af,g⟩ T B (.r (.v (.a us))):=
 bv hg (qV rfl) (fun V β a w hs=>by
  obtain⟨b,off,vs,hp,_,_,W,hc⟩:=RdC.ptr_eq (ap hs (by simp[Op.operands]) J);have A:=W.take n;rw[R] at A;have D:=iv hU (by rw[A.1,hn]) (fun j v I=>by
   rw[kS] at I;split at I;·exact hc j v I
   .cases I)
  refine⟨_,?_,_,rfl,by simpa using A⟩;simp only[execOp,Instr.loadAt,hp,Instr.sureAddr,fh,dA,ft,D])
theorem Dk {u:CellD} (hU:mT P U=some (false,n)) (R:cE T x=some (.v (.c (.p cs)))) (D:cs[0]? =some u) (hg:gd eO ⟨dst,.load U x,ty,pos,af,g⟩ T=some true):Sem P eO ⟨dst,.load U x,ty,pos,af,g⟩ T B (.r (.v (.c u))):=
 bv hg (qV rfl) (fun V β a w hs=>by obtain⟨b,off,vs,W,_,_,I,hc⟩:=RdC.ptr_eq (ap hs (by simp[Op.operands]) R);have hlt:0<cs.length:=(fM.1 D).1;have J:vs[0]? =some (vs[0]'(by rw[I.1];exact hlt)):=gI _;refine⟨_,?_,I.2 0 _ _ J D⟩;simp only[execOp,Instr.loadAt,W,Instr.sureAddr,fh,dA,ft,ip hU (by have:=hc 0 _ J;simpa using this)])
def MU (T:TF):List Operand->Option (List CellD)
 |[]=>some []
 |x::xs=>match cE T x,MU T xs with
  |some (.v (.c u)),some us=>some (u::us)
  |_,_=>none
theorem AG {o:Oper}{V:Nat->Prop}{β:Nat->Nat}{a:Act}{w:World}(hs:Sees V (ek eO o) T B β a w): ∀(xs:List Operand) (us:List CellD),(∀x∈xs,x∈o.op.operands)->MU T xs=some us->RdCs V w (xs.map a.eval) us
 |[],us,_,h=>by injection h with h;subst h;exact qB
 |x::xs,us,hx,h=>by
  unfold MU at h;split at h
  .rename_i u us' D A;injection h with h;subst h;exact lG (ap hs (hx x (by simp)) D) (AG hs xs us' (fun y I=>hx y (by simp[I])) A)
  .cases h
theorem nH  (R:MU T cap.toList=some us) (W:gd eO ⟨dst,.makeFunc (.func f) #[] cap,ty,pos,af,g⟩ T=some true):Sem P eO ⟨dst,.makeFunc (.func f) #[] cap,ty,pos,af,g⟩ T B (.r (.v (.c (.k f us)))):=
 bv W (qV rfl) (fun V β a w hs=>by have D:=AG hs cap.toList us (fun x I=>by have A:=tz.1 I;simp[Op.operands,A]) R;refine⟨.func (.func f) #[] (cap.map a.eval),by simp[execOp,Instr.makeFunc],.k f _ us (by have:=D.1;simpa using this) (fun j v u hv J=>D.2 j v u ?_ J)⟩;rw[<-q9,mW];exact hv)
theorem RdL.append {V:Nat->Prop}{w:World}: ∀ {vs D:List Value}{ds A:List D0},RdL V w vs ds->RdL V w D A->RdL V w (vs++D) (ds++A)
 |[],D,[],A,_,h'=>h'
 |[],_,_::_,_,h,_=>by have:=h.1;simp at this
 |_::_,_,[],_,h,_=>by have:=h.1;simp at this
 |v::vs,D,d::ds,A,h,h'=>by obtain⟨h1,I⟩:=h.uncons;exact qF h1 (RdL.append I h')
theorem RdCs.toL (h:RdCs V w vs us):RdL V w vs (us.map .c):=by
 refine⟨by simp[h.1],fun j v d I A=>?_⟩;rw[pU] at A;cases D:us[j]? with
 |none=>rw[D] at A;cases A
 |some u=>rw[D] at A;injection A with A;subst A;exact h.2 j v u I D
theorem oX  (hf:cE T fo=some (.v (.c (.k f us)))) (ha:pE T args.toList=some ds) (hok:Ok P f (ds++us.map .c) rs) (hg:gd eO ⟨dst,.call ⟨.value fo,args,at_⟩,ty,pos,af,g⟩ T=some true):Sem P eO ⟨dst,.call ⟨.value fo,args,at_⟩,ty,pos,af,g⟩ T B (.r (wL rs)):=by
 refine⟨qV (by unfold wL;split<;>rfl),fun V β a w hs=>⟨eK hs hg,?_⟩⟩
 obtain⟨cs,h1,R⟩:=RdC.clo_eq (ap hs (by simp[Op.operands,Call.operands]) hf)
 have D:=hok.cal
 unfold dk at D
 cases A:P.funcs[f]? with
 |none=>rw[A] at D;cases D
 |some fn=>
  rw[A] at D
  simp only[di,bne_iff_ne,ne_eq,uP] at D
  have I:(execOp a.eval ⟨dst,.call ⟨.value fo,args,at_⟩,ty,pos,af,g⟩).run P w=.ok (.enter f (args.map a.eval++cs)) w:=by
   have a4:fn.body≠none:=by have:=D.2;cases W:fn.body with
    |none=>rw[W] at this;cases this
    |some c=>simp
   simp[execOp,resolve,h1,Deferred.ofValue,invoke,callFunc,program,Sem.run,A,D.1,a4]
  unfold Gives
  rw[I]
  refine(hok.run V (args.map a.eval++cs) w hs.av (by rw[Array.toList_append,q9];exact (ji hs args.toList ds (fun x hx=>by have a3:=tz.1 hx;simp[Op.operands,Call.operands,a3]) ha).append R.toL)).mono ?_
  rintro e w' ⟨v,rfl,J,hb⟩
  refine⟨v,rfl,?_,hb⟩
  unfold Wz at J
  split at J
  .exact J
  .rename_i a5
   have e2:wL rs=.t rs:=by unfold wL;grind
   rw[e2];exact J
end
section
variable {P:Program}{σ:St}{Q:Exit->St->Prop}
theorem jH {c:Code} (ht:look t tm=some (.p k 0)) (hb:look k bx=some (U,cs)) (h:Dw P c ⟨N,(t,.v (.c (.p cs)))::jQ k tm,jf k bx⟩ Q):Dw P c ⟨N,tm,bx⟩ Q:=fun av w0 β a w J=>by
 obtain⟨v,hv,R⟩:=J.sees.tmp t _ trivial ht
 have R:v=.pointer (some ⟨β k,0,none⟩):=R
 subst R
 obtain⟨W,vs,ev,I⟩:=J.sees.box k U cs hb
 have a4:(St.B ⟨N,tm,bx⟩) k≠none:=by rw[show(St.B ⟨N,tm,bx⟩) k=some (U,cs) from hb];simp
 have A:Keep (fun b=>av b\/ ∃l,(St.B ⟨N,tm,bx⟩) l≠none/\β l=b) (fun b=>(av b\/ ∃l,(St.B ⟨N,tm,bx⟩) l≠none/\β l=b)/\b≠β k) w w:=⟨Nat.le_refl _,fun _ _ _=>rfl,fun _ _ h=>h.1⟩
 have D:RdC (fun b=>(av b\/ ∃l,(St.B ⟨N,tm,bx⟩) l≠none/\β l=b)/\b≠β k) w (.pointer (some ⟨β k,0,none⟩)) (.p cs):=by
  refine .p (β k) 0 cs (fun j=>vs.getD j undef) (J.sees.av _ W) (fun h=>h.2 rfl) (fun j hj=>?_) (fun j u hj=>?_)
  .rw[dN,bR ev];have:j<vs.size:=by have:=I.1;simp at this;omega
   simp[Array.getD,this]
  .have hlt:j<cs.length:=(fM.1 hj).1;refine (I.keep A).2 j _ u ?_ hj;have:j<vs.size:=by have:=I.1;simp at this;omega
   simp[Array.getD,this]
 refine h av w0 β a w (((J.drop k).upd (x:=.v (.c (.p cs))) hv (by rw[Gx J a4];exact D) rfl).congr (fun s=>?_) (fun l=>?_))
 .show look s ((t,.v (.c (.p cs)))::jQ k tm)=_
  rw[aW]
  split
  .rfl
  .rw[lv]
   show _=nN k (fun s=>look s tm) s
   unfold nN
   grind
 .exact j5 k l bx
end
structure OkS (P:Program) (f:FuncId) (U:TypeId) (n c:Nat) (cs0 cs1:List CellD) (ds:List D0):Prop where
 cal:dk P f=true
 run: ∀(V:Nat->Prop) (b:Nat) (bs vs:Array Value) (vl:List Value) (w:World),vs.toList=.slice (some ⟨b,0,none⟩) n c::vl->(∀x,V x->x<w.heap.size)->V b->w.heap[b]? =some (.cells bs U (0,0))->RdCs V w bs.toList cs0->RdL V w vl ds->
  Calls P f vs w fun e w'=> ∃bs':Array Value,e=.returned (.tuple #[])/\w'.heap[b]? =some (.cells bs' U (0,0))/\Mid b w w'/\RdCs V w' bs'.toList cs1
section
variable {P:Program}
theorem Z3 {bs vs:Array Value}{K:Nat}(b3:ds.length+1<=N) (hK:N<=K) (W:vs.toList=.slice (some ⟨b,0,none⟩) n m::vl) (hV: ∀x,V x->x<w.heap.size) (a9:V b) (a6:w.heap[b]? =some (.cells bs U (0,0))) (a5:RdCs V w bs.toList cs0) (I:RdL V w vl ds):Rel (fun x=>V x/\x≠b) ⟨w,fun x=>x=b,K⟩ (St.n ⟨N,(0,.o K n m)::mG 1 ds,[(K,U,cs0)]⟩) (St.T ⟨N,(0,.o K n m)::mG 1 ds,[(K,U,cs0)]⟩) (St.B ⟨N,(0,.o K n m)::mG 1 ds,[(K,U,cs0)]⟩) (fun _=>b) {tmps:=vs++Array.replicate (N-vs.size) undef,defers:=[]} w:=by
 have b4:vs.size=ds.length+1:=by
  have h1:vs.toList.length=ds.length+1:=by rw[W,uh,I.1]
  simpa using h1
 have hT: ∀(k:Nat) (ds:List D0) (t:Nat) (x:DV),look t (mG k ds)=some x-> ∃j d,t=k+j/\ds[j]? =some d/\x=.v d:=by
  intro k ds;induction ds generalizing k with
  |nil=>intro t x h;cases h
  |cons d ds ih=>
   intro t x h;unfold mG at h;rw[aW] at h;split at h;·rename_i e;injection h with h;exact⟨0,d,by omega,rfl,h.symm⟩
   .obtain⟨j,d',e1,J,e3⟩:=ih (k+1) t x h;exact⟨j+1,d',by omega,by simpa using J,e3⟩
 have a4: ∀t x,look t ((0,DV.o K n m)::mG 1 ds)=some x->(t=0/\x=.o K n m)\/ ∃j d,t=1+j/\ds[j]? =some d/\x=.v d:=by
  intro t x h;rw[aW] at h;split at h;·rename_i e;injection h with h;exact .inl ⟨e.symm,h.symm⟩
  .exact .inr (hT 1 ds t x h)
 have hB: ∀k y,look k [(K,U,cs0)]=some y->k=K/\y=(U,cs0):=by
  intro k y h;rw[aW] at h;split at h;·rename_i e;injection h with h;exact⟨e.symm,h.symm⟩
  .cases h
 have a3: ∀k,look k [(K,U,cs0)]≠none->k=K:=by
  intro k hk;cases e:look k [(K,U,cs0)] with
  |none=>exact absurd e hk
  |some y=>exact(hB k y e).1
 have R:look K [(K,U,cs0)]=some (U,cs0):=by rw[aW,if_pos rfl]
 have D:Keep V (fun x=>(V x/\x≠b)\/ ∃k,(St.B ⟨N,(0,.o K n m)::mG 1 ds,[(K,U,cs0)]⟩) k≠none/\b=x) w w:=
  ⟨Nat.le_refl _,fun _ _ _=>rfl,fun x _ A=>by
   rcases A with A|⟨k,_,A⟩;·exact A.1
   .rw[<-A];exact a9⟩
 refine⟨rfl,by simp;omega,BelE.refl _,fun x A=>hV x A.1,fun x A e=>A.2 e,hK,fun x A _=>A.symm,fun k l hk hl _=>(a3 k hk).trans (a3 l hl).symm,fun k _=>.inr rfl,?_,?_,?_,?_⟩
 .intro t x k ht A
  rcases a4 t x ht with⟨_,rfl⟩|⟨j,d,_,_,rfl⟩
  .injection A with A
   subst A
   show look K [(K,U,cs0)]≠none
   rw[R];simp
  .cases A
 .grind
 .intro k U' cs hk
  obtain⟨rfl,e⟩:=hB k _ hk
  injection e with e1 J
  subst e1 J
  exact⟨.inr ⟨k,by show look k [(k,U',cs)]≠none;rw[R];simp,rfl⟩,bs,a6,a5.keep D⟩
 .intro t x _ ht
  rcases a4 t x ht with⟨rfl,rfl⟩|⟨j,d,e1,J,rfl⟩
  .have hv:vs.toList[0]? =some (.slice (some ⟨b,0,none⟩) n m):=by rw[W];rfl
   refine⟨.slice (some ⟨b,0,none⟩) n m,?_,rfl⟩
   grind
  .have hlt:j<vl.length:=by rw[I.1];exact(fM.1 J).1
   have hv:vl[j]? =some vl[j]:=by grind
   have b5:vs.toList[t]? =some vl[j]:=by grind
   refine⟨vl[j],?_,(I.2 j _ d hv J).keep D⟩
   grind
theorem Zh {K:Nat}{T:TF}{B:BF}(J:Rel (fun x=>V x/\x≠b) ⟨w,fun x=>x=b,K⟩ N T B β a w') (a3:B K=some (U,cs1)):β K=b/\ ∃D:Array Value,w'.heap[b]? =some (.cells D U (0,0))/\Mid b w w'/\RdCs V w' D.toList cs1:=by
 obtain⟨a6,D,R,a5⟩:=J.sees.box K U cs1 a3
 have a4:B K≠none:=by grind
 have I:β K=b:=J.fix b rfl a4
 rw[I] at R
 have A:Keep (fun x=>(V x/\x≠b)\/ ∃l,B l≠none/\β l=x) V w' w':=⟨Nat.le_refl _,fun _ _ _=>rfl,fun x _ hx=>by
  by_cases e:x=b;·grind
  .exact .inl ⟨hx,e⟩⟩
 exact⟨I,D,R,⟨J.bel.os,J.bel.tape,J.bel.output,J.bel.size,fun c hc W=>J.bel.block c hc W⟩,a5.keep A⟩
theorem OkS.of {fn:Func}{c:Code}{K:Nat}(J:dk P f=true) (hf:P.funcs[f]? =some fn) (hb:fn.body=some c) (R:Nat.ble (ds.length+1) fn.ntmps=true) (hK:Nat.ble fn.ntmps K=true) (D:fn.results= #[]) (h:Dw P c ⟨fn.ntmps,(0,.o K n m)::mG 1 ds,[(K,U,cs0)]⟩ fun e σ=>(e=.normal\/e=.ret)/\look K σ.bx=some (U,cs1)):OkS P f U n m cs0 cs1 ds:=by
 refine⟨J,fun V b bs vs vl w a4 hV b3 a9 a6 a5=>calls_of_wp hf hb ?_⟩
 refine tK ?_ (h _ _ (fun _=>b) _ w (Z3 (fU R) (fU hK) a4 hV b3 a9 a6 a5))
 rintro e a' w' ⟨σ',b5,hn,⟨he,b4⟩,hr⟩
 have A:(results fn a'.tmps).run P w'=.ok (.tuple #[]) w':=by unfold results;rw[D];simp[Array.mapM_eq_mapM_toList]
 obtain⟨_,I,W,hm,a3⟩:=Zh hr b4
 rcases he with rfl|rfl
 .exact⟨hr.dfr,_,A,I,rfl,W,hm,a3⟩
 .exact⟨hr.dfr,_,A,I,rfl,W,hm,a3⟩
variable {eO:Array Oper}{T:TF}{B:BF}
theorem nj {xs:List Operand}{c:Nat} (hf:cE T fo=some (.v (.c (.f f)))) (A:args.toList=x::xs) (hx:cE T x=some (.o k n c)) (ha:pE T xs=some ds) (hb:B k=some (U,cs0)) (hok:OkS P f U n c cs0 cs1 ds) (hg:gd eO ⟨dst,.call ⟨.value fo,args,at_⟩,ty,pos,af,g⟩ T=some true):Sem P eO ⟨dst,.call ⟨.value fo,args,at_⟩,ty,pos,af,g⟩ T B (.rs k U cs1 (.t [])):=by
 refine⟨rfl,⟨_,hb⟩,fun V β a w hs=>⟨eK hs hg,?_⟩⟩
 have J: ∀y∈x::xs,y∈(⟨dst,.call ⟨.value fo,args,at_⟩,ty,pos,af,g⟩:Oper).op.operands:=fun y hy=>by
  have a5:y∈args:=by grind
  simp[Op.operands,Call.operands,a5]
 have h3:a.eval x=.slice (some ⟨β k,0,none⟩) n c:=ap hs (J x (fC ..)) hx
 obtain⟨hV,bs,e,hr⟩:=hs.box k U cs0 hb
 have I:=hok.cal
 unfold dk at I
 cases D:P.funcs[f]? with
 |none=>rw[D] at I;cases I
 |some fn=>
  rw[D] at I
  simp only[di,bne_iff_ne,ne_eq,uP] at I
  have R:(execOp a.eval ⟨dst,.call ⟨.value fo,args,at_⟩,ty,pos,af,g⟩).run P w=.ok (.enter f (args.map a.eval)) w:=by
   have a6:fn.body≠none:=by have:=I.2;cases a3:fn.body with
    |none=>rw[a3] at this;cases this
    |some c=>simp
   simp[execOp,resolve,RdC.func_eq (ap hs (by simp[Op.operands,Call.operands]) hf),Deferred.ofValue,invoke,callFunc,program,Sem.run,D,I.1,a6]
  unfold Gives
  rw[R]
  refine(hok.run V (β k) bs (args.map a.eval) (xs.map a.eval) w (by rw[q9,A,lQ,h3]) hs.av hV e hr (ji hs xs ds (fun y hy=>J y (fv _ hy)) ha)).mono ?_
  rintro e w' ⟨a4,rfl,a9,hm,W⟩
  exact⟨.tuple #[],rfl,a4,a9,hm,W,_,rfl,RdL.nil⟩
end
section
variable {P:Program}{eO:Array Oper}{T:TF}{B:BF}
theorem Kr {c q:Nat} (hU:pT P U=some m) (hx:cE T x=some (.o k n c)) (hh:cE T h=some (.v (.c (.i ki q)))) (hq:q<=n) (a3:n<=c) (hg:gd eO ⟨dst,.slice U x (some h) none none,ty,pos,af,g⟩ T=some true):Sem P eO ⟨dst,.slice U x (some h) none none,ty,pos,af,g⟩ T B (.r (.w k (if q<c then q*m else 0) (n-q) (c-q))):=
 bv hg (fun k' e=>by
  obtain rfl:k=k':=by injection e
  exact oT (by simp[Op.operands]) hx rfl) (fun V β a w hs=>by
  have e:a.eval x=.slice (some ⟨β k,0,none⟩) n c:=ap hs (by simp[Op.operands]) hx;have W:=gY (ap hs (by simp[Op.operands]) hh);unfold pT at hU;split at hU;case h_2=>cases hU
  rename_i el D;cases A:P.info? el with
  |none=>rw[A] at hU;cases hU
  |some a4=>
   rw[A] at hU;simp at hU;have I: ∀w,(sizeOf el).run P w=.ok m w:=fun w=>by unfold sizeOf typeInfo;simp[program,Sem.run,A,hU]
   refine⟨.slice (some ⟨β k,if q<c then q*m else 0,none⟩) (n-q) (c-q),?_,rfl⟩;by_cases J:q<c
   .simp[execOp,Instr.sliceAt,Instr.slice,run_underlying D,e,W,Instr.sliceBounds,Instr.sliceBound,asIntOf,hq,I,Addr.add,J,Nat.ne_of_gt J];exact fun h=>h.symm
   .have R:c=q:=by omega
    simp[execOp,Instr.sliceAt,Instr.slice,run_underlying D,e,W,Instr.sliceBounds,Instr.sliceBound,asIntOf,hq,I,Addr.add,R])
theorem Yu {L:Nat->Prop}{off q c:Nat}(hs:Sees V L T B β a w) (hb:B k=some (U,cs)) (I:(cs.drop off).take (q*m)=ys) (A:0<q->off+q*m<=cs.length) (a3:q<=c) (hc:c<=9223372036854775807):RdC (fun x=>V x/\x≠β k) w (.slice (some ⟨β k,off,none⟩) q c) (.s q ys):=by
 obtain⟨hV,W,e,hr⟩:=hs.box k U cs hb
 rcases je q with h0|h0
 .subst h0
  rw[<-I];simp
  exact .s0 _ _ hc
 .have A:=A h0
  have D:Keep V (fun x=>V x/\x≠β k) w w:=⟨Nat.le_refl _,fun _ _ _=>rfl,fun _ _ h=>h.1⟩
  have a4:W.size=cs.length:=by have:=hr.1;simpa using this
  have J:=((hr.drop off).take (q*m)).keep D
  rw[I] at J
  refine .s (β k) off c m q ys (fun j=>W.getD (off+j) undef) h0 a3 hc ?_ (hs.av _ hV) (fun h=>h.2 rfl) (fun j hj=>?_) (fun j u hj=>?_)
  .grind
  .rw[bR e]
   have:off+j<W.size:=by omega
   simp[Array.getD,this]
  .have hlt:j<ys.length:=(fM.1 hj).1
   have R:j<q*m:=by grind
   refine J.2 j _ u ?_ hj
   rw[kS,if_pos R,List.getElem?_drop,mW]
   have:off+j<W.size:=by omega
   simp[Array.getD,this]
end
section
variable {P:Program}{eO:Array Oper}{T:TF}{B:BF}
theorem Lr {ps:Array (Nat×Operand)}{dps:List (Nat×D0)} (hU:uV P U=some (e,m,by_,zs)) (hp:tc T ps.toList=some dps) (hf:vu (fun i=>some (i*m,m)) (List.replicate n zs).flatten dps=some us) (hl:us.length=n*m) (hn:n*m<=16777216) (hm:0<n*m) (W:gd eO ⟨dst,.buildSlice U n ps,ty,pos,af,g⟩ T=some true):Sem P eO ⟨dst,.buildSlice U n ps,ty,pos,af,g⟩ T B (.r (.f n us)):=by
 have h:=kO (B:=B) hU hp hf hn hm W
 refine⟨qV rfl,fun V β a w hs=>?_⟩
 obtain⟨hw,W⟩:=h V β a w hs
 refine⟨hw,W.mono ?_⟩
 rintro v w' ⟨vs,rfl,rfl,hr⟩
 refine⟨⟨⟨_,rfl⟩,?_⟩,(fe _ w).alloc (bk _) _⟩
 have a4:vs.size=n*m:=by have:=hr.1;rw[hl] at this;simpa using this
 have D:0<n:=by grind
 have R:0<m:=by grind
 have a3:n<=n*m:=Nat.le_mul_of_pos_right n R
 refine RdC.s w.heap.size 0 n m n _ (fun j=>vs.getD j undef) D (bk _) (by omega) hl (by simp) (fun h=>by have:=hs.av _ h;omega) (fun j J=>?_) (fun j u J=>?_)
 .simp_all
 .have hlt:j<n*m:=by have:=(fM.1 J).1;omega
  refine (hr.keep (Keep.below (av:=V) ((fe w.heap.size w).alloc (bk _) (.cells vs e)))).2 j _ u ?_ J
  have:j<vs.size:=by omega
  simp[Array.getD,this]
theorem FN {q:Nat} (hU:uV P U=some (e,m,by_,zs)) (hx:cE T x=some (.f n us)) (d2: ∀V β a w,Sees V (ek eO ⟨dst,.call ⟨.builtin .append,#[x,y],#[U,U]⟩,ty,pos,af,g⟩) T B β a w-> ∃er,Src P m U (a.eval y) q er w/\RdCs V w er ys) (b4:us.length=n*m) (c8:ys.length=q*m) (hm:0<m) (d7:0<n) (a4:(n+q)*by_<=140737488355328) (d3:n+q<=maxLen) (hg:gd eO ⟨dst,.call ⟨.builtin .append,#[x,y],#[U,U]⟩,ty,pos,af,g⟩ T=some true):Sem P eO ⟨dst,.call ⟨.builtin .append,#[x,y],#[U,U]⟩,ty,pos,af,g⟩ T B (.r (.v (.c (.s (n+q) (us++ys))))):=by
 refine⟨qV rfl,fun V β a w hs=>⟨eK hs hg,?_⟩⟩
 obtain⟨⟨A,e1⟩,R⟩:(∃A,a.eval x=.slice A n n)/\RdV V w (a.eval x) (.c (.s n us)):=ap hs (by simp[Op.operands,Call.operands]) hx
 obtain⟨er,D,c5⟩:=d2 _ _ _ _ hs
 obtain⟨olds,I,c3⟩:=uG hU R b4
 obtain⟨hu,i,z,hi,hz,c6,b7,_,e2⟩:=i5 hU
 subst c6
 have b3:er.length=q*i.size:=D.newsLen
 rw[e1] at R I
 unfold Gives
 by_cases hq:q=0
 .subst hq
  have b6:er=[]:=jM.1 (by rw[b3,Nat.zero_mul])
  have b5:ys=[]:=jM.1 (by rw[c8,Nat.zero_mul])
  subst b6 b5
  have a3:(Builtin.append_ #[U,U] ty #[.slice A n n,a.eval y]).run P w=.ok (.slice A n n) w:=by
   have hA: ∃b off,A=some ⟨b,off,none⟩:=by
    generalize hv:Value.slice A n n=v at R;cases R with
    |s0 A' c hc=>omega
    |s b off c sz n' d5 cv h0 d6 e3 d4 hb e4 c7 hr=>injection hv with h1;exact⟨b,off,h1⟩
   obtain⟨b,off,rfl⟩:=hA;rcases D.kind with⟨e',hk⟩|hk<;>simp[Builtin.append_,run_underlying hu,sizeOf,typeInfo,hi,D.len,D.cells,Addr.add_lit]<;>rfl
  have J:(execOp a.eval ⟨dst,.call ⟨.builtin .append,#[x,y],#[U,U]⟩,ty,pos,af,g⟩).run P w=.ok (.value (.slice A n n)) w:=by simp only[execOp,resolve,invoke,builtin,fh,dA,ft,qe,lQ,qv,e1];rw[a3];rfl
  rw[J]
  refine⟨?_,fe _ w⟩
  rw[ws];exact R
 .have W:n<n+q:=by omega
  have J:(execOp a.eval ⟨dst,.call ⟨.builtin .append,#[x,y],#[U,U]⟩,ty,pos,af,g⟩).run P w=.ok (.value (.slice (some ⟨w.heap.size,0,none⟩) (n+q) (grownCap w (n+q) n e)))
   (w.drew.alloc (.cells ((olds++er).toArray++Builtin.zeroCells z.cells (grownCap w (n+q) n e-(n+q))) e)):=by
   simp only[execOp,resolve,invoke,builtin,fh,dA,ft,qe,lQ,qv,e1]
   rw[run_append_grow_src (w:=w) U U ty e i z hu hi hz A n n _ I.cellsD (a.eval y) q er D W (by have:maxLen=9223372036854775807:=rfl;omega) (growslice_fits W (by rw[b7];exact a4))]
   rfl
  rw[J]
  have a5:Below w.heap.size w (w.drew.alloc (.cells ((olds++er).toArray++Builtin.zeroCells z.cells (grownCap w (n+q) n e-(n+q))) e)):=(fe _ w).drew.alloc (bk _) _
  refine⟨?_,a5⟩
  have a9:=(kP c3 c5).keep (Keep.below a5)
  have a6:(olds++er).length=(n+q)*i.size:=by rw[dB,I.newsLen,b3,mS]
  refine RdC.s w.heap.size 0 (grownCap w (n+q) n e) i.size (n+q) _ (fun j=>(olds++er).getD j undef) (by omega) (grownCap_ge _ _ _ _) (grownCap_le_maxLen _ _ _ _ d3) (by rw[<-a9.1];exact a6) (by simp) (fun h=>by have:=hs.av _ h;omega) (fun j hj=>?_) (fun j u hj=>?_)
  .have hlt:j<(olds++er).length:=by omega
   rw[dN]
   show(w.drew.alloc _).cell? ⟨w.drew.heap.size,j,none⟩=_
   rw[bR (heap_alloc_new w.drew _)]
   rw[Array.getElem?_append_left (by simpa using hlt)]
   simp only[List.getElem?_toArray,List.getD]
   rw[gI hlt];rfl
  .have hlt:j<(olds++er).length:=by rw[a9.1];exact(fM.1 hj).1
   have hv:(olds++er)[j]? =some ((olds++er)[j]):=gI hlt
   simp only[List.getD,hv,Option.getD_some]
   exact a9.2 j _ u hv hj
end
section
variable {P:Program}{eO:Array Oper}{os:List Oper}{K:St->Prop}{N:Nat}{tm:List (Nat×DV)}{bx:List (Nat×TypeId×List CellD)}
theorem IB {c q N':Nat}{eD:List CellD} (hU:uV P U=some (e,m,by_,zs)) (hx:cE (fun s=>look s tm) x=some (.o k n c)) (hy:cE (fun s=>look s tm) y=some (.v (.c (.s q ys)))) (hb:look k bx=some (e,cs)) (a3:cs=us++eD) (I:us.length=n*m) (hr:eD.length=(c-n)*m) (R:ys.length=q*m) (hm:0<m) (J:n<=c) (W:c<=maxLen) (D:(n+q)*by_<=140737488355328) (a4:n+q<=maxLen) (hd:t=k\/look t bx=none) (hN:n+q=N') (hz:us++ys=zs') (hg:gd eO ⟨some t,.call ⟨.builtin .append,#[x,y],#[U,U]⟩,ty,pos,af,g⟩ (fun s=>look s tm)=some true) (hk: ∀c' A,N'<=c'->c'<=maxLen->A.length=(c'-N')*m->dl P eO os ⟨N,(t,.o t N' c')::jQ k tm,(t,e,zs'++A)::jf k bx⟩ K):dl P eO (⟨some t,.call ⟨.builtin .append,#[x,y],#[U,U]⟩,ty,pos,af,g⟩::os) ⟨N,tm,bx⟩ K:=by
 subst a3 hN hz
 exact yU hU hx hy hb I hr R hm J W D a4 hd hg hk
theorem Pb {q:Nat} (hU:uV P U=some (e,m,by_,zs)) (R:cE (fun s=>look s tm) x=some .z) (hy:cE (fun s=>look s tm) y=some (.v (.c (.s q ys)))) (I:ys.length=q*m) (hq:0<q) (D:q*by_<=140737488355328) (J:q<=maxLen) (W:look t bx=none) (hz:ys=zs') (hg:gd eO ⟨some t,.call ⟨.builtin .append,#[x,y],#[U,U]⟩,ty,pos,af,g⟩ (fun s=>look s tm)=some true) (hk: ∀c' A,q<=c'->c'<=maxLen->A.length=(c'-q)*m->dl P eO os ⟨N,(t,.o t q c')::tm,(t,e,zs'++A)::bx⟩ K):dl P eO (⟨some t,.call ⟨.builtin .append,#[x,y],#[U,U]⟩,ty,pos,af,g⟩::os) ⟨N,tm,bx⟩ K:=by
 subst hz
 exact u3 hU R hy I hq D J W hg hk
end
def t8 (L:Nat->Bool):List (Nat×Nat×DV)->List (Nat×DV)->List (Nat×DV)
 |[],tm=>tm
 |(i,d,x)::r,tm=>t8 L r (bif L i then(d,x)::tm else tm)
def oF (L:Nat->Bool):List (Nat×Nat×DV)->Nat->Option DV
 |[],_=>none
 |(i,d,x)::r,t=>(oF L r t).or (if d=t/\L i=true then some x else none)
theorem f8 (L:Nat->Bool) (t:Nat): ∀(l:List (Nat×Nat×DV)) (tm:List (Nat×DV)),look t (t8 L l tm)=(oF L l t).or (look t tm)
 |[],tm=>by simp[t8,oF]
 |(i,d,x)::r,tm=>by
  show look t (t8 L r _)=_;rw[f8 L t r];show _=((oF L r t).or _).or _;rw[Option.or_assoc];congr 1;cases h:L i with
  |false=>simp
  |true=>show look t ((d,x)::tm)=_;rw[aW];by_cases e:d=t<;>simp[e]
theorem yR {L:Nat->Bool}{t:Nat}{x:DV}: ∀ {l:List (Nat×Nat×DV)},oF L l t=some x-> ∃i,(i,t,x)∈l/\L i=true
 |(i,d,y)::r,h=>by
  have h:(oF L r t).or (if d=t/\L i=true then some y else none)=some x:=h;cases h1:oF L r t with
  |some I=>rw[h1] at h;injection h with h;subst h;obtain⟨j,A,D⟩:=yR h1;exact⟨j,fv _ A,D⟩
  |none=>
   rw[h1,qr] at h;split at h;·next e=>injection h with h;subst h;exact⟨i,by rw[e.1];exact fC,e.2⟩
   .cases h
theorem S7 {L:Nat->Bool}{t i:Nat}{x:DV}: ∀ {l:List (Nat×Nat×DV)},(∀i j y,(i,t,x)∈l->(j,t,y)∈l->y=x)->(i,t,x)∈l->L i=true->oF L l t=some x
 |(j,d,y)::r,hu,hm,hi=>by
  show(oF L r t).or (if d=t/\L j=true then some y else none)=some x;cases h1:oF L r t with
  |some I=>obtain⟨k,J,R⟩:=yR h1;rw[hu i k I hm (fv _ J)];rfl
  |none=>
   rw[qr];rcases dt.1 hm with e|hm
   .injection e with e1 A;injection A with A D;subst e1 A D;rw[if_pos ⟨rfl,hi⟩]
   .rw[S7 (fun i j y a b=>hu i j y (fv _ a) (fv _ b)) hm hi] at h1;cases h1
theorem Gc {L:Nat->Bool}: ∀ {l:List (Nat×Nat×DV)},(∀i x,(i,t,x)∈l->L i=false)->oF L l t=none:=by
 intro l h;cases h1:oF L l t with
 |none=>rfl
 |some x=>obtain⟨i,A,D⟩:=yR h1;grind
theorem vN {L M:Nat->Bool}{t:Nat}: ∀ {l:List (Nat×Nat×DV)},(∀i x,(i,t,x)∈l->L i=M i)->oF L l t=oF M l t
 |[],_=>rfl
 |(i,d,x)::r,h=>by
  show(oF L r t).or _=(oF M r t).or _;rw[vN fun j y hm=>h j y (fv _ hm)];congr 1;by_cases e:d=t;·subst e;rw[h i x fC]
  .simp[e]
section
variable {P:Program}{eO:Array Oper}
def da (P:Program) (eO:Array Oper) (C:List Nat) (bx:List (Nat×TypeId×List CellD)):Nat->List Oper->List (Nat×DV)->(List (Nat×DV)->Prop)->Prop
 |_,[],tm,K=>K tm
 |i,o::os,tm,K=>bif C.any (Nat.beq i) then da P eO C bx (i+1) os tm K else ∃x d,o.dst=some d/\Sem P eO o (fun s=>look s tm) (fun k=>look k bx) (.r x)/\jR x=none/\da P eO C bx (i+1) os ((d,x)::tm) K
theorem Eh {o:Oper}(A:C.any (Nat.beq i)=true) (h:da P eO C bx (i+1) os tm K):da P eO C bx i (o::os) tm K:=by unfold da;rw[A];exact h
theorem gg {d:Nat}{op:Op}{x:DV} (D:C.any (Nat.beq i)=false) (hs:Sem P eO ⟨some d,op,ty,pos,af,g⟩ (fun s=>look s tm) (fun k=>look k bx) (.r x)) (A:jR x=none) (h:da P eO C bx (i+1) os ((d,x)::tm) K):da P eO C bx i (⟨some d,op,ty,pos,af,g⟩::os) tm K:=by unfold da;rw[D];exact⟨x,d,rfl,hs,A,h⟩
theorem B6 {C:List Nat}{bx:List (Nat×TypeId×List CellD)}{K:List (Nat×DV)->Prop}: ∀(os:List Oper) (A:Nat) (tm:List (Nat×DV)),da P eO C bx A os tm K-> ∃opn:List (Nat×Nat×DV),(∀i d x,(i,d,x)∈opn->A<=i/\C.any (Nat.beq i)=false/\jR x=none/\ ∃o,os[i-A]? =some o/\o.dst=some d/\Sem P eO o (fun s=>look s (t8 (fun j=>decide (j<i)) opn tm)) (fun k=>look k bx) (.r x))/\ (∀i o,os[i]? =some o->C.any (Nat.beq (A+i))=false-> ∃d x,(A+i,d,x)∈opn)/\(∀i d x W J,(i,d,x)∈opn->(i,W,J)∈opn->d=W/\x=J)/\K (t8 (fun _=>true) opn tm)
 |[],A,tm,h=>⟨[],(fun _ _ _ h=>by cases h),(fun i o h=>by simp at h),(fun _ _ _ _ _ h=>by cases h),h⟩
 |o::os,A,tm,h=>by
  unfold da at h;cases hc:C.any (Nat.beq A) with
  |true=>
   rw[hc] at h;obtain⟨opn,h1,h2,h4,h3⟩:=B6 os (A+1) tm h;refine⟨opn,fun i d x hm=>?_,fun i D ho R=>?_,h4,h3⟩
   .obtain⟨g1,I,g3,D,g4,g5⟩:=h1 i d x hm;refine⟨by omega,I,g3,D,?_,g5⟩;rw[show i-A=i-(A+1)+1 by omega];simpa using g4
   .cases i with
    |zero=>rw[ru,hc] at R;cases R
    |succ i=>rw[show A+(i+1)=A+1+i by omega] at R⊢;exact h2 i D (by simpa using ho) R
  |false=>
   rw[hc] at h;obtain⟨x,d,hd,hs,hx,h⟩:=h;obtain⟨opn,h1,h2,h4,h3⟩:=B6 os (A+1) ((d,x)::tm) h;refine⟨(A,d,x)::opn,fun i W J hm=>?_,fun i D ho R=>?_,fun i d1 x1 d2 x2 g1 I=>?_,h3⟩
   .rcases dt.1 hm with e|hm
    .injection e with e1 e2;injection e2 with e2 e3;subst e1 e2 e3;refine⟨Nat.le_refl _,hc,hx,o,by rw[vk];rfl,hd,?_⟩;have e:(fun s=>look s (t8 (fun j=>decide (j<i)) ((i,W,J)::opn) tm))=fun s=>look s tm:=by
      funext s;rw[f8,Gc,qr];intro j y hj;rcases dt.1 hj with e|hj;·injection e with e1;subst e1;simp
      .have:=(h1 j s y hj).1;simp;omega
     rw[e];exact hs
    .obtain⟨g1,I,g3,D,g4,g5,g6⟩:=h1 i W J hm;refine⟨by omega,I,g3,D,?_,g5,?_⟩;·grind
     .show Sem P eO D (fun s=>look s (t8 _ opn (bif decide (A<i) then(d,x)::tm else tm))) _ _;rw[show decide (A<i)=true from decide_eq_true (by omega)];exact g6
   .cases i with
    |zero=>exact⟨d,x,fC⟩
    |succ i=>grind
   .rcases dt.1 g1 with e1|k1<;>rcases dt.1 I with e2|k2;·grind
    .grind
    .grind
    grind
theorem Ch {q:Nat} (hU:uV P U=some (e,m,by_,zs)) (hx:cE (fun s=>look s tm) x=some (.f 0 us)) (hy:cE (fun s=>look s tm) y=some (.v (.c (.s q ys)))) (c7:ys.length=q*m) (hq:0<q) (J:q*by_<=140737488355328) (d2:q<=maxLen) (hd:look t bx=none) (hg:gd eO ⟨some t,.call ⟨.builtin .append,#[x,y],#[U,U]⟩,ty,pos,af,g⟩ (fun s=>look s tm)=some true):Jd P eO ⟨some t,.call ⟨.builtin .append,#[x,y],#[U,U]⟩,ty,pos,af,g⟩ ⟨N,tm,bx⟩ (fun σ'=> ∃c' eD,q<=c'/\c'<=maxLen/\eD.length=(c'-q)*m/\σ'=⟨N,(t,.o t q c')::tm,(t,e,ys++eD)::bx⟩):=by
 intro av w0 β a w hrel b4
 have hs:=Sees.of hrel.sees (L:=ek eO ⟨some t,.call ⟨.builtin .append,#[x,y],#[U,U]⟩,ty,pos,af,g⟩) (fun _ _=>trivial) (fun _ _ _ h=>h) (fun _ _ h=>h)
 refine⟨eK hs hg,?_⟩
 obtain⟨⟨A,e1⟩,_⟩:(∃A,a.eval x=.slice A 0 0)/\_:=ap hs (by simp[Op.operands,Call.operands]) hx
 obtain⟨er,a5,c5⟩:=uG hU (ap hs (by simp[Op.operands,Call.operands]) hy) c7
 obtain⟨hu,i,z,hi,hz,c6,b5,a9,c3⟩:=i5 hU
 subst c6
 have ht:t<N:=b4 t rfl
 unfold Gives
 have a4:(Builtin.firstCells i.size 0 (.slice A 0 0)).run P w.drew=.ok ([]:List Value).toArray w.drew:=by
  cases A with
  |none=>rfl
  |some b=>have h9:=run_loadCells_list (P:=P) w.drew b ([]:List Value) (fun j u h=>by simp at h);rw[show([]:List Value).length=0*i.size by simp] at h9;exact h9
 have I:0<0+q:=by omega
 have D:=run_append_grow_src (w:=w) U U ty e i z hu hi hz A 0 0 _ a4 (a.eval y) q er a5 I (by have:maxLen=9223372036854775807:=rfl;omega) (growslice_fits I (by rw[b5,dN];exact J))
 rw[dN] at D
 generalize R:grownCap w q 0 e=c' at D
 have b6:q<=c':=by rw[<-R];exact grownCap_ge _ _ _ _
 have d3:c'<=maxLen:=by rw[<-R];exact grownCap_le_maxLen _ _ _ _ d2
 have a3:(execOp a.eval ⟨some t,.call ⟨.builtin .append,#[x,y],#[U,U]⟩,ty,pos,af,g⟩).run P w=.ok (.value (.slice (some ⟨w.heap.size,0,none⟩) q c'))
  (w.drew.alloc (.cells (([]++er).toArray++Builtin.zeroCells z.cells (c'-q)) e)):=by
  simp only[execOp,resolve,invoke,builtin,fh,dA,ft,qe,lQ,qv,e1]
  rw[D]
  rfl
 rw[a3]
 obtain⟨eD,b7,b3⟩:=RO a9 c3 (c'-q)
 have c8:RdCs (fun b=>av b\/ ∃k,look k bx≠none/\β k=b) w.drew (([]++er).toArray++Builtin.zeroCells z.cells (c'-q)).toList (ys++eD):=by have h1:RdCs (fun b=>av b\/ ∃k,look k bx≠none/\β k=b) w.drew (er++(Builtin.zeroCells z.cells (c'-q)).toList) (ys++eD):=kP (RdCs.keep (Keep.below (fe _ w).drew) c5) (b3 (fun b=>av b\/ ∃k,look k bx≠none/\β k=b) w.drew);grind
 refine⟨⟨N,(t,.o t q c')::tm,(t,e,ys++eD)::bx⟩,fun l=>if l=t then w.drew.heap.size else β l,⟨c',_,b6,d3,b7,rfl⟩,rfl,?_⟩
 have W:=(hrel.drew.box ht hd (U:=e) (sl:=some c') c8).value (d:=some t) (x:=.o t q c') (v:=.slice (some ⟨w.heap.size,0,none⟩) q c') (by intro s hs;injection hs with hs;subst hs;exact ht) (fe _ _) (by show _=Value.slice (some ⟨if t=t then w.drew.heap.size else β t,0,none⟩) _ _;rw[if_pos rfl];rfl) (by intro l hl;injection hl with hl;subst hl;rw[if_pos rfl];simp)
 rw[Bo] at W
 refine W.congr (fun s=>?_) (fun l=>?_)
 .show look s ((t,DV.o t q c')::tm)=(if some t=some s then _ else if some t=some s then _ else look s tm)
  rw[aW]
  grind
 .show look l ((t,e,ys++eD)::bx)=(if some t=some l then _ else look l bx)
  rw[aW]
  grind
structure AppS where
 i:Nat
 t:Nat
 y:Operand
 q:Nat
 ys:List CellD
def nA:List AppS->Nat
 |[]=>0
 |a::r=>a.q+nA r
def uA:List AppS->List CellD
 |[]=>[]
 |a::r=>a.ys++uA r
theorem vU (a:AppS): ∀l:List AppS,nA (l++[a])=nA l+a.q
 |[]=>by simp[nA]
 |b::r=>by show b.q+nA (r++[a])=b.q+nA r+a.q;rw[vU a r];omega
theorem FJ (a:AppS): ∀l:List AppS,uA (l++[a])=uA l++a.ys
 |[]=>by simp[uA]
 |b::r=>by show b.ys++uA (r++[a])=b.ys++uA r++a.ys;rw[FJ a r,oE]
def pQ (eO:Array Oper) (C:List Nat) (m i:Nat) (y:Operand):Bool:=match y with
 | .tmp u=>(match eO[i]? with
   |none=>false
   |some o=>(List.range m).all fun j=>match eO[j]? with
    |none=>false
    |some p=> !(match p.dst with|none=>false|some d=>Nat.beq d u)||(!C.any (Nat.beq j)&&(bP o).any (Nat.beq j)))
 |_=>true
def Om (x0:Operand) (l:List AppS):Operand:=match l.getLast? with
 |none=>x0
 |some a=>.tmp a.t
structure ChainA (P:Program) (eO:Array Oper) (C:List Nat) (m:Nat) (U e:TypeId) (sz by_:Nat) (zs:List CellD) (x0:Operand) (tm0 tm:List (Nat×DV)) (bx:List (Nat×TypeId×List CellD)) (ch:List AppS):Prop where
 hU:uV P U=some (e,sz,by_,zs)
 hm:0<sz
 base: ∃us,cE (fun s=>look s tm) x0=some (.f 0 us)
 hC:ch.map (·.i)=C
 op: ∀l a r,ch=l++a::r-> ∃ty pos af,eO[a.i]? =some ⟨some a.t,.call ⟨.builtin .append,#[Om x0 l,a.y],#[U,U]⟩,ty,pos,af,none⟩
 lt: ∀a∈ch,a.i<m
 y: ∀a∈ch,cE (fun s=>look s tm) a.y=some (.v (.c (.s a.q a.ys)))/\a.ys.length=a.q*sz/\pQ eO C m a.i a.y=true
 bx0: ∀a r,ch=a::r->pQ eO C m a.i x0=true/\0<a.q
 nx: ∀l a b r,ch=l++a::b::r-> ∀o,eO[b.i]? =some o->a.i∈bP o
 new: ∀a∈ch,look a.t tm0=none/\look a.t bx=none
 big:nA ch*by_<=140737488355328/\nA ch<=maxLen
def A6 (c:Nat) (l:List AppS):List (Nat×DV):=match l.getLast? with
 |none=>[]
 |some a=>[(a.t,.o a.t (nA l) c)]
def GM (e:TypeId) (eD:List CellD) (l:List AppS):List (Nat×TypeId×List CellD):=match l.getLast? with
 |none=>[]
 |some a=>[(a.t,e,uA l++eD)]
theorem xG (c:Nat) (l:List AppS) (a:AppS):A6 c (l++[a])=[(a.t,.o a.t (nA l+a.q) c)]:=by unfold A6;rw[List.getLast?_concat];show[(a.t,DV.o a.t (nA (l++[a])) c)]=_;rw[vU]
theorem uu (e:TypeId) (eD:List CellD) (l:List AppS) (a:AppS):GM e eD (l++[a])=[(a.t,e,uA l++a.ys++eD)]:=by unfold GM;rw[List.getLast?_concat];show[(a.t,e,uA (l++[a])++eD)]=_;rw[FJ]
theorem afv {l r:List AppS}:nA l<=nA (l++r):=by
 induction l with
 |nil=>exact iB _
 |cons a l A=>show a.q+nA l<=a.q+nA (l++r);omega
end
end Go.Proofs.YtegeknjkgadehaaGreat
