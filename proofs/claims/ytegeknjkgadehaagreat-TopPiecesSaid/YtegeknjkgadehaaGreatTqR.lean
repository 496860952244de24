/-Plain:common points of two curves,as the program finds them. -/
import Derived.Test.YtegeknjkgadehaaGreatTqQ
namespace Go.Proofs.YtegeknjkgadehaaGreat
open Go Go.RowKit
variable {args:Array Operand}{at_:Array TypeId}{w w2:Bool}{k:Ci}{cd:Code}{c d:Cv}{fn:Func}{f:FuncId}{r side:Int}{cs cs' cs0 cs1 rs us zs:List CellD}{ds:List D0}{xs:List Operand}{L:List Pt}{l m:Ln}{N i j n n1 o':Nat}{fo x y:Operand}{p t u v:Pt}{K:Pt->Bool}{a b e:Rat}{s:Slp}{U U2:TypeId}
variable {ty:TypeId}{pos:String}{af:Array Edge}{g:Option (Nat×Bool)}{dst:Option Nat}
def Px (l m:Ln):Bool:=ue (l.a*m.b) (m.a*l.b)&&ue (l.a*m.c) (m.a*l.c)&&ue (l.b*m.c) (m.b*l.c)
def JT (l m:Ln):Int:=if (aG (kK l m) 0==0)&&Px l m then 10 else 0
def xS:Cv->Cv->List Pt
 | .arc k _ _ _,.arc d _ _ _=>zG k d
 | .arc k _ _ _,.seg l _ _=>zD l k
 | .seg l _ _,.arc k _ _ _=>zD l k
 | .seg l _ _,.seg m _ _=>fP l m
def Ic:Cv->Cv->Int
 | .arc k _ _ _,.arc d _ _ _=>IQ k d
 | .seg l _ _,.seg m _ _=>JT l m
 |_,_=>0
def zm:Cv->Cv->Bool
 | .seg l _ _,.seg m _ _=>Px l m
 | .arc k _ _ _,.arc d _ _ _=>kr k d
 |_,_=>false
theorem Ng (h:(aG (kK l m) 0==0)=true) (g:Px l m=true):fP l m=[]/\JT l m=10:=by unfold fP JT;grind
theorem MX (h:(aG (kK l m) 0==0)=true) (g:Px l m=false):fP l m=[]/\JT l m=0:=by unfold fP JT;grind
theorem Vf (h:(aG (kK l m) 0==0)=false):fP l m=[⟨NK l m/kK l m,0,Nu l m/kK l m,0,0⟩]/\JT l m=0:=by unfold fP JT;grind
theorem NF {a1 b1 a2 b2 c:Rat}(h1:Rz 52 a1) (J:Rz 4 b1) (I:Rz 52 a2) (R:Rz 4 b2) (A:Rz 112 c) (h0:0<c) (V: ¬(b1=0/\b2=0)):GP (iP a1 b1 a2 b2 c):=by
 unfold iP;cases hs:jy c with
 |true=>exact GP.rat ((h1.add (J.mul (Gw (k:=56) A))).mono (by decide)) ((I.add (R.mul (Gw (k:=56) A))).mono (by decide))
 |false=>refine⟨h1.mono (by decide),J.mono (by decide),I.mono (by decide),R.mono (by decide),A.mono (by decide),fun _=>⟨h1,I⟩,?_⟩;unfold xm;grind
theorem Zd (hl:GL l) (A:GK k):Rz 112 (BY l k):=(v8 hl A).div ((j9 hl).mul (j9 hl)) (fun e=>by have:=hl.n;rcases zT.1 e with h|h<;>exact this h)
theorem LO (hl:GL l) (A:GK k): ∀p∈zD l k,GP p:=by
 intro p I;have R:=Zc hl;have u:Rz 4 (VB l):=by unfold VB;split;exact hl.b.neg;exact hl.b
 have v:Rz 4 (Vv l):=by unfold Vv;split;exact hl.a.neg.neg;exact hl.a.neg
 have J: ¬(VB l=0/\Vv l=0):=by unfold VB Vv;grind
 unfold zD at I;split at I;·grind
 .rename_i h;split at I
  .rw[gZ.1 I];exact GP.rat ((jW hl A).mono (by decide)) ((jT hl A).mono (by decide))
  .rename_i g;have h0:0<BY l k:=uI (fun e=>h (by have:=dH (BY l k) 0;omega)) g;simp only[dt,rD,or_false] at I;rcases I with rfl|rfl;·exact NF (jW hl A) u.neg (jT hl A) v.neg (Zd hl A) h0 (fun e=>J ⟨by grind,by grind⟩)
   .exact NF (jW hl A) u (jT hl A) v (Zd hl A) h0 J
theorem abA {d:Ci}(I:GK k) (J:GK d): ∀p∈zG k d,GP p:=by
 intro p A;unfold zG at A;split at A;·grind
 .split at A;·grind
  .rename_i h;exact LO (Bp I J (by simpa using h)) I p A
theorem Xy (I:c.good) (A:d.good): ∀p∈xS c d,GP p:=by
 cases c with
 |seg l f t=>
  cases d with
  |seg m u v=>exact Eu I.1 A.1
  |arc k w u v=>exact LO I.1 A.1
 |arc k w f t=>
  cases d with
  |seg l u v=>exact LO A.1 I.1
  |arc d w u v=>exact abA I.1 A.1
theorem Gg:(zD l k).length<=4:=by
 unfold zD;split;·exact iB _
 .split<;>simp
theorem SJ (c d:Cv):(xS c d).length<=4:=by
 cases c with
 |seg l f t=>
  cases d with
  |seg m u v=>show(fP l m).length<=4;unfold fP;grind
  |arc k w u v=>exact Gg
 |arc k w f t=>
  cases d with
  |seg l u v=>exact Gg
  |arc d w u v=>
   show(zG k d).length<=4;unfold zG;split;·grind
   .split;·grind
    .exact Gg
theorem I1 (hc:c.good) (J:d.good) (h:zm c d=true) (gp:GP p) (hs:d.supp p=true):c.supp p=true:=by
 cases c with
 |seg l f t=>
  cases d with
  |arc k w u v=>cases h
  |seg m u v=>
   have hs:gf m p=0:=beq_iff_eq.1 hs;refine beq_iff_eq.2 (show gf l p=0 from ?_);have h:Px l m=true:=h;unfold Px at h;rw[di,di] at h;have e1:=Et h.1.1;have W:=Et h.1.2;have R:=Et h.2;rw[y9 gp] at hs⊢;have A: ∀u v:Rat,v≠0->u*m.a=v*l.a->u*m.b=v*l.b->u*m.c=v*l.c->bz (Ef l p)=0:=fun u v hv a b c=>by
    have e:Re.of v*Ef l p=Re.of u*Ef m p:=fj fun n=>by unfold Ef;simp only[bF,bo,bV,dy];grind
    have I:bz (Re.of v*Ef l p)=0:=by rw[e];exact afc _ hs
    rw[cU,fZ] at I;rcases sD.1 I with g|g;·exact absurd (fY.1 g) hv
    grind
   by_cases ha:m.a=0
   .have V:m.b≠0:=fun e=>J.1.n (by unfold iI;rw[ha,e];grind);exact A l.b m.b V (by grind) (by grind) (by grind)
   grind
 |arc k w f t=>
  cases d with
  |seg m u v=>cases h
  |arc d w2 u v=>
   have h:kr k d=true:=h;unfold kr at h;rw[di,di] at h;have e:k=d:=by cases k;cases d;have e1:=Et h.1.1;have W:=Et h.1.2;have R:=Et h.2;grind
   rw[e];exact hs
theorem ZG (hl:GL l) (hm:GL m):cq 131 [.a (dh l),.a (dh m)] [.c (.b (Px l m))]:=by
 refine bE Tryz.func131 rfl<|cm 38 [] ?_;refine aw rfl (du (az hl.a) (az hm.b)) ?_;refine aw rfl (du (az hm.a) (az hl.b)) ?_;refine aw rfl (Pf (az (al hl.a hm.b)) (az (al hm.a hl.b))) ?_;refine zQ (aY rfl) (fun c1 A=>?_);cases c1
 .refine aq (aY rfl)<|ae ?_;rw[show Px l m=false from by unfold Px ue;rw[A];rfl];exact aj aa
 .refine aw rfl (du (az hl.a) (az hm.c)) ?_;refine aw rfl (du (az hm.a) (az hl.c)) ?_;refine aw rfl (Pf (az (al hl.a hm.c)) (az (al hm.a hl.c))) ?_;refine zQ (aY rfl) (fun c2 I=>?_);cases c2
  .apply ae;rw[show Px l m=false from by unfold Px ue;rw[A,I];rfl];exact aj aa
  .refine aw rfl (du (az hl.b) (az hm.c)) ?_;refine aw rfl (du (az hm.b) (az hl.c)) ?_;refine aw rfl (Pf (az (al hl.b hm.c)) (az (al hm.b hl.c)))<|ae ?_;rw[show Px l m=(aG (l.b*m.c) (m.b*l.c)==0) from by unfold Px ue;rw[A,I];rfl];exact aj aa
theorem aen (hl:GL l) (hm:GL m):cq 134 [.a (dh l),.a (dh m)] [.c (.s ((fP l m).length) (aD ah (fP l m))),.c (.i .i64 (JT l m))]:=by
 have z1:Rz 17 (kK l m):=BD hl hm;have z2:Rz 43 (NK l m):=KT hl hm;have J:Rz 43 (Nu l m):=KH hl hm;refine bE Tryz.func134 rfl<|cm 12 [] ?_;refine aw rfl (iD (az hl.a) (az hm.b)) ?_;refine aw rfl (iD (az hm.a) (az hl.b)) ?_;refine aw rfl ((show cq 218 _ [dR (kK l m)] from lj (az (al hl.a hm.b)) (az (al hm.a hl.b)))) ?_;refine ac rfl bU ?_;refine dg rfl (fun A=>?_) (fun A=>?_)
 .refine ac rfl (ZG hl hm) ?_;refine dg rfl (fun I=>?_) (fun I=>?_)
  .apply ae;rw[(Ng A I).1,(Ng A I).2];exact aj (aj aa)
  .apply ae;rw[(MX A I).1,(MX A I).2];exact aj (aj aa)
 .have h0:kK l m≠0:=fun e=>absurd A (by rw[fY.2 e];decide);apply cm 14 [];refine aw rfl (iD (az hl.c) (az hm.b)) ?_;refine aw rfl (iD (az hm.c) (az hl.b)) ?_;refine aw rfl ((show cq 218 _ [dR (NK l m)] from lj (az (al hl.c hm.b)) (az (al hm.c hl.b)))) ?_;refine aw rfl (QM z2.m_ z1.m_ h0)<|cm 14 [] ?_;refine aw rfl (iD (az hl.a) (az hm.c)) ?_;refine aw rfl (iD (az hm.a) (az hl.c)) ?_;refine aw rfl ((show cq 218 _ [dR (Nu l m)] from lj (az (al hl.a hm.c)) (az (al hm.a hl.c)))) ?_;refine aw rfl (QM J.m_ z1.m_ h0) ?_;refine ar (am qa pm rfl rfl rfl) ?_;refine ac rfl (Mf)<|ar (cb iw rfl rfl rfl (by decide) (by decide) rfl) ?_;apply ae;rw[(Vf A).1,(Vf A).2];exact aj (aj aa)
theorem WY (hl:GL l) {f:Pt}(_R:GP f) (_I:GP t) (hm:GL m) (_J:GP u) (_A:GP v):cq 54 [.a (([.b false]++dh l++g9++[.b false]++ah f++ah t)),.a (([.b false]++dh m++g9++[.b false]++ah u++ah v))] [.c (.b (zm (Cv.seg l f t) (Cv.seg m u v)))]:=by apply bE Tryz.func54 rfl;refine ar (bg gC rfl) ?_;refine ar (bg gC rfl) ?_;refine ar (eA rfl rfl dX rfl) ?_;refine mL rfl<|ar (bg gC rfl)<|mL rfl<|ar (df (dh l) rG rfl (by kernel_rfl)) ?_;refine ar (df (dh m) rG rfl (by kernel_rfl)) ?_;refine ac rfl (ZG hl hm) ?_;exact ae (aj aa)
theorem Xf (hl:GL l) {f:Pt}(_R:GP f) (_I:GP t) (hm:GL m) (_J:GP u) (_A:GP v):cq 55 [.a (([.b false]++dh l++g9++[.b false]++ah f++ah t)),.a (([.b false]++dh m++g9++[.b false]++ah u++ah v))] [.c (.s ((xS (Cv.seg l f t) (Cv.seg m u v)).length) (aD ah (xS (Cv.seg l f t) (Cv.seg m u v)))),.c (.i .i64 (Ic (Cv.seg l f t) (Cv.seg m u v)))]:=by apply bE Tryz.func55 rfl;refine ar (bg gC rfl) ?_;refine ar (aY rfl) ?_;apply mL rfl;refine ar (bg gC rfl) ?_;apply mL rfl;refine ar (bg gC rfl) ?_;apply mL rfl;refine ar (df (dh l) rG rfl (by kernel_rfl)) ?_;refine ar (df (dh m) rG rfl (by kernel_rfl)) ?_;refine ac rfl (aen hl hm) ?_;exact ae (aj (aj aa))
theorem WQ (_hl:GL l) {f:Pt}(_J:GP f) (_V:GP t) {d:Ci}(_I:GK d) (_A:GP u) (_R:GP v):cq 54 [.a (([.b false]++dh l++g9++[.b false]++ah f++ah t)),.a (([.b true]++lp++bG d++[.b w2]++ah u++ah v))] [.c (.b (zm (Cv.seg l f t) (Cv.arc d w2 u v)))]:=by apply bE Tryz.func54 rfl;refine ar (bg gC rfl) ?_;refine ar (bg gC rfl) ?_;refine ar (eA rfl rfl dX rfl) ?_;apply n7 rfl;exact ae (aj aa)
theorem YI (hl:GL l) {f:Pt}(_J:GP f) (_V:GP t) {d:Ci}(A:GK d) (_I:GP u) (_R:GP v):cq 55 [.a (([.b false]++dh l++g9++[.b false]++ah f++ah t)),.a (([.b true]++lp++bG d++[.b w2]++ah u++ah v))] [.c (.s ((xS (Cv.seg l f t) (Cv.arc d w2 u v)).length) (aD ah (xS (Cv.seg l f t) (Cv.arc d w2 u v)))),.c (.i .i64 (Ic (Cv.seg l f t) (Cv.arc d w2 u v)))]:=by apply bE Tryz.func55 rfl;refine ar (bg gC rfl) ?_;refine ar (aY rfl) ?_;apply mL rfl;refine ar (bg gC rfl) ?_;apply mL rfl;refine ar (bg gC rfl) ?_;apply n7 rfl;refine ar (df (dh l) rG rfl (by kernel_rfl)) ?_;refine ar (df (bG d) n9 rfl (by kernel_rfl)) ?_;refine ac rfl (acE hl A) ?_;exact ae (aj (aj aa))
theorem Wj (_R:GK k) {f:Pt}(_V:GP f) (_I:GP t) (_hm:GL m) (_J:GP u) (_A:GP v):cq 54 [.a (([.b true]++lp++bG k++[.b w]++ah f++ah t)),.a (([.b false]++dh m++g9++[.b false]++ah u++ah v))] [.c (.b (zm (Cv.arc k w f t) (Cv.seg m u v)))]:=by apply bE Tryz.func54 rfl;refine ar (bg gC rfl) ?_;refine ar (bg gC rfl) ?_;refine ar (eA rfl rfl dX rfl) ?_;apply n7 rfl;exact ae (aj aa)
theorem V6 (A:GK k) {f:Pt}(_V:GP f) (_J:GP t) (hm:GL m) (_R:GP u) (_I:GP v):cq 55 [.a (([.b true]++lp++bG k++[.b w]++ah f++ah t)),.a (([.b false]++dh m++g9++[.b false]++ah u++ah v))] [.c (.s ((xS (Cv.arc k w f t) (Cv.seg m u v)).length) (aD ah (xS (Cv.arc k w f t) (Cv.seg m u v)))),.c (.i .i64 (Ic (Cv.arc k w f t) (Cv.seg m u v)))]:=by apply bE Tryz.func55 rfl;refine ar (bg gC rfl) ?_;refine ar (aY rfl) ?_;refine ar (bg gC rfl) ?_;apply mL rfl;refine ar (bg gC rfl) ?_;apply n7 rfl;refine ar (df (dh m) rG rfl (by kernel_rfl)) ?_;refine ar (df (bG k) n9 rfl (by kernel_rfl)) ?_;refine ac rfl (acE hm A) ?_;exact ae (aj (aj aa))
theorem X0 (I:GK k) {f:Pt}(_R:GP f) (_W:GP t) {d:Ci}(A:GK d) (_J:GP u) (_V:GP v):cq 54 [.a (([.b true]++lp++bG k++[.b w]++ah f++ah t)),.a (([.b true]++lp++bG d++[.b w2]++ah u++ah v))] [.c (.b (zm (Cv.arc k w f t) (Cv.arc d w2 u v)))]:=by apply bE Tryz.func54 rfl;refine ar (bg gC rfl) ?_;refine ar (bg gC rfl) ?_;refine ar (eA rfl rfl dX rfl) ?_;refine mL rfl<|ar (bg gC rfl)<|n7 rfl ?_;refine ar (df (bG k) n9 rfl (by kernel_rfl)) ?_;refine ar (df (bG d) n9 rfl (by kernel_rfl)) ?_;refine ac rfl (aaM I A) ?_;exact ae (aj aa)
theorem Yf (I:GK k) {f:Pt}(_R:GP f) (_W:GP t) {d:Ci}(A:GK d) (_J:GP u) (_V:GP v):cq 55 [.a (([.b true]++lp++bG k++[.b w]++ah f++ah t)),.a (([.b true]++lp++bG d++[.b w2]++ah u++ah v))] [.c (.s ((xS (Cv.arc k w f t) (Cv.arc d w2 u v)).length) (aD ah (xS (Cv.arc k w f t) (Cv.arc d w2 u v)))),.c (.i .i64 (Ic (Cv.arc k w f t) (Cv.arc d w2 u v)))]:=by apply bE Tryz.func55 rfl;refine ar (bg gC rfl) ?_;refine ar (aY rfl) ?_;refine ar (bg gC rfl) ?_;apply n7 rfl;refine ar (df (bG k) n9 rfl (by kernel_rfl)) ?_;refine ar (df (bG d) n9 rfl (by kernel_rfl)) ?_;refine ac rfl (agG I A) ?_;exact ae (aj (aj aa))
theorem Ly (I:c.good) (A:d.good):cq 54 [.a (aC c),.a (aC d)] [.c (.b (zm c d))]:=by
 cases c with
 |seg l f t=>
  cases d with
  |seg m u v=>exact WY I.1 I.2.1 I.2.2 A.1 A.2.1 A.2.2
  |arc d w2 u v=>exact WQ I.1 I.2.1 I.2.2 A.1 A.2.1 A.2.2
 |arc k w f t=>
  cases d with
  |seg m u v=>exact Wj I.1 I.2.1 I.2.2 A.1 A.2.1 A.2.2
  |arc d w2 u v=>exact X0 I.1 I.2.1 I.2.2 A.1 A.2.1 A.2.2
theorem abe (I:c.good) (A:d.good):cq 55 [.a (aC c),.a (aC d)] [.c (.s ((xS c d).length) (aD ah (xS c d))),.c (.i .i64 (Ic c d))]:=by
 cases c with
 |seg l f t=>
  cases d with
  |seg m u v=>exact Xf I.1 I.2.1 I.2.2 A.1 A.2.1 A.2.2
  |arc d w2 u v=>exact YI I.1 I.2.1 I.2.2 A.1 A.2.1 A.2.2
 |arc k w f t=>
  cases d with
  |seg m u v=>exact V6 I.1 I.2.1 I.2.2 A.1 A.2.1 A.2.2
  |arc d w2 u v=>exact Yf I.1 I.2.1 I.2.2 A.1 A.2.1 A.2.2
structure CpS (S:List Pt) (m:Nat) (Y:List Pt):Prop where
 len:Y.length=S.length
 m1:1<=m
 mn:m<=S.length
 lt:(bh S m).length<m
 fst:Y.take (bh S m).length=bh S m
 rst:Y.drop (m-1)=S.drop (m-1)
section
variable {S Y:List Pt}{m:Nat}
theorem CpS.get (h:CpS S m Y) (A:m-1<=j):Y.getD j dPt=S.getD j dPt:=by
 have e: ∀L:List Pt,L.getD j dPt=(L.drop (m-1)).getD (j-(m-1)) dPt:=fun L=>by rw[List.getD,List.getD,List.getElem?_drop];congr 2;omega
 rw[e,h.rst,<-e]
theorem CpS.start {k:Nat}(h0:0<k) (R:k<S.length) (I: ∀i,i+1<k->cP (S.getD (i+1) dPt) (S.getD i dPt)≠0) (J:cP (S.getD k dPt) (S.getD (k-1) dPt)=0):CpS S (k+1) S/\(bh S (k+1)).length=k:=by
 have e1:bh S (k+1)=S.take k:=(Is h0 J).trans (B5 I (by omega));have A:(bh S (k+1)).length=k:=by rw[e1,fF];omega
 exact⟨⟨rfl,by omega,by omega,by omega,by rw[A,e1],rfl⟩,A⟩
theorem CpS.old (h:CpS S m Y) (hm:m<S.length) (A:cP (S.getD m dPt) (S.getD (m-1) dPt)=0):CpS S (m+1) Y/\bh S (m+1)=bh S m:=by
 have e1:=Is h.m1 A;have I:Y.drop m=S.drop m:=by have:=congrArg (List.drop 1) h.rst;rw[List.drop_drop,List.drop_drop,show m-1+1=m from by have:=h.m1;omega] at this;exact this
 have:=h.lt;exact⟨⟨h.len,by omega,by omega,by rw[e1];omega,by rw[e1];exact h.fst,I⟩,e1⟩
theorem CpS.new (h:CpS S m Y) (hm:m<S.length) (I:cP (S.getD m dPt) (S.getD (m-1) dPt)≠0):CpS S (m+1) (Y.set (bh S m).length (S.getD m dPt))/\(bh S (m+1)).length=(bh S m).length+1:=by
 have e1:=Jj I;have A:(bh S (m+1)).length=(bh S m).length+1:=by rw[e1,dB];rfl
 have hlt:=h.lt;have hl:=h.len;have J:Y.drop m=S.drop m:=by have:=congrArg (List.drop 1) h.rst;rw[List.drop_drop,List.drop_drop,show m-1+1=m from by have:=h.m1;omega] at this;exact this
 refine⟨⟨by rw[wX];exact hl,by omega,by omega,by omega,?_,?_⟩,A⟩
 .rw[A,e1,i7 (d:=dPt) (by rw[wX];omega),List.take_set_of_le (bk _),h.fst];congr 1;simp[List.getD,show(bh S m).length<Y.length by omega]
 .rw[show m+1-1=m from rfl,CX (by omega),J]
theorem KP (h:S.length<=1):bh S S.length=S:=by rw[B5 (fun i hi=>by omega) (bk _),pP]
theorem JJ (A: ∀i,i+1<S.length->cP (S.getD (i+1) dPt) (S.getD i dPt)≠0):bh S S.length=S:=by rw[B5 A (bk _),pP]
def Vw (n:Nat):List CellD:=(List.replicate n zQ5).flatten
theorem BP (n:Nat):(Vw n).length=n*20:=by
 unfold Vw;induction n with
 |zero=>rfl
 |succ n A=>rw[List.replicate_succ,List.flatten_cons,dB,A,show zQ5.length=20 from rfl];omega
theorem CpS.clr (h:CpS S m Y):(aD ah Y++rs).take ((bh S m).length*20)++Vw (S.length-(bh S m).length)++(aD ah Y++rs).drop ((bh S m).length*20+(S.length-(bh S m).length)*20)=aD ah (bh S m)++(Vw (S.length-(bh S m).length)++rs):=by have hl:=aK ao Y;have h1:=h.lt;have A:=h.mn;have I:=h.len;rw[show(bh S m).length*20+(S.length-(bh S m).length)*20=(aD ah Y).length from by omega,List.drop_left,wt (by omega),nh ao,h.fst,oE]
end
def y6 (c:Cv) (D:List Pt) (n:Nat):List Pt:=(D.take n).filter (j7 c)
def wj (c:Cv) (D:List Pt) (n:Nat):Pt:=(c.p::y6 c D n).getD (y6 c D n).length dPt
def H5 (c:Cv) (D:List Pt) (n:Nat):List Cv:=ia c (c.p::y6 c D n)
section
variable {c:Cv}{D:List Pt}{n:Nat}
theorem F2:(H5 c D n).length=(y6 c D n).length:=by unfold H5;rw[lN];rfl
theorem rr (h:n<D.length) (g:j7 c (D.getD n dPt)=false):y6 c D (n+1)=y6 c D n:=by unfold y6;rw[i7 h,wI,List.filter_cons,if_neg (by rw[g];decide)];simp
theorem qi (h:n<D.length) (g:j7 c (D.getD n dPt)=true):y6 c D (n+1)=y6 c D n++[D.getD n dPt]:=by unfold y6;rw[i7 h,wI,List.filter_cons,if_pos g];simp
theorem G7 (h:n<D.length) (g:j7 c (D.getD n dPt)=false):wj c D (n+1)=wj c D n:=by unfold wj;rw[rr h g]
theorem MS (h:n<D.length) (g:j7 c (D.getD n dPt)=true):wj c D (n+1)=D.getD n dPt:=by unfold wj;rw[qi h g];simp[List.getD]
theorem TA (h:n<D.length) (g:j7 c (D.getD n dPt)=false):H5 c D (n+1)=H5 c D n:=by unfold H5;rw[rr h g]
theorem MH (h:n<D.length) (g:j7 c (D.getD n dPt)=true):H5 c D (n+1)=H5 c D n++[c.ends (wj c D n) (D.getD n dPt)]:=by unfold H5 wj;rw[qi h g,xi]
theorem Z2:y6 c D 0=[]:=by unfold y6;simp
theorem aeA:wj c D 0=c.p:=by unfold wj;rw[Z2];rfl
theorem GS:rA c (D.filter (j7 c))=H5 c D D.length++[c.ends (wj c D D.length) c.q]:=by unfold rA H5 wj y6;rw[pP,xi]
theorem T4 {x:Pt}(h:(cP x c.p==0)=true):j7 c x=false:=by unfold j7;rw[h];rfl
theorem FI {x:Pt}(h:(cP x c.p==0)=false):j7 c x= !(cP x c.q==0):=by unfold j7;rw[h];rfl
end
def Ku {α:Type}(K:α->Bool):List α->Int
 |[]=> -1
 |x::l=>if K x then 0 else if Ku K l<0 then-1 else Ku K l+1
section
variable {α:Type}{K:α->Bool}{d:α}
theorem Ih: ∀ {L:List α},(∀i,i<L.length->K (L.getD i d)=false)->Ku K L= -1
 |[],_=>rfl
 |x::l,h=>by have h0:K x=false:=h 0 (Nat.succ_pos _);have:=Ih (fun i hi=>h (i+1) (Nat.succ_lt_succ hi));unfold Ku;rw[h0,this];rfl
theorem Me: ∀ {L:List α}{n:Nat},n<L.length->(∀i,i<n->K (L.getD i d)=false)->K (L.getD n d)=true->Ku K L=n
 |[],n,h,_,_=>absurd h (Nat.not_lt_zero _)
 |x::l,0,_,_,h=>if_pos h
 |x::l,n+1,hn,h,g=>by have h0:K x=false:=h 0 (Nat.succ_pos _);have:=Me (Nat.lt_of_succ_lt_succ hn) (fun i hi=>h (i+1) (Nat.succ_lt_succ hi)) g;unfold Ku;rw[h0,this,if_neg (by decide),if_neg (by omega)];omega
theorem SM (L:List α):(Ku K L= -1/\ ∀i,i<L.length->K (L.getD i d)=false)\/ ∃j,j<L.length/\Ku K L=(j:Int)/\(∀i,i<j->K (L.getD i d)=false)/\K (L.getD j d)=true:=by
 by_cases h: ∃j,j<L.length/\K (L.getD j d)=true/\ ∀i,i<j->K (L.getD i d)=false
 .obtain⟨j,h1,A,J⟩:=h;exact .inr ⟨j,h1,Me h1 J A,J,A⟩
 .have I: ∀n,∀i,i<n->i<L.length->K (L.getD i d)=false:=by
   intro n;induction n with
   |zero=>intro i hi;omega
   |succ n R=>grind
  have A:=fun i hi=>I L.length i hi hi
  exact .inl ⟨Ih A,A⟩
end
def kF (K:Pt->Bool) (L:List Pt) (n:Nat):List Pt:=(L.take n).filter K
def Ez (K:Pt->Bool) (L:List Pt) (n:Nat):List Pt:=kF K L n++L.drop (kF K L n).length
section
variable {K:Pt->Bool}{L:List Pt}{n j:Nat}
theorem No:(kF K L n).length<=n:=by have h1:=uo K (L.take n);rw[fF] at h1;unfold kF;omega
theorem Qw (h:n<L.length) (g:K (L.getD n dPt)=true):kF K L (n+1)=kF K L n++[L.getD n dPt]:=by unfold kF;rw[i7 h,wI,List.filter_cons_of_pos g];rfl
theorem Ni (h:n<L.length) (g:K (L.getD n dPt)=false):kF K L (n+1)=kF K L n:=by unfold kF;rw[i7 h,wI,List.filter_cons_of_neg (by rw[g];decide),List.filter_nil,ws]
theorem TW:kF K L L.length=L.filter K:=by unfold kF;rw[pP]
theorem Nk (h: ∀i,i<n->K (L.getD i dPt)=true) (I:n<=L.length):kF K L n=L.take n:=by refine List.filter_eq_self.2 fun x A=>?_;obtain⟨i,hi,e⟩:=List.mem_iff_getElem.1 A;grind
theorem yD (h:n<=L.length):(Ez K L n).length=L.length:=by have:=No (K:=K) (L:=L) (n:=n);unfold Ez;grind
theorem T8 (h:j<L.length) (A: ∀i,i<j->K (L.getD i dPt)=true) (g:K (L.getD j dPt)=false):(kF K L (j+1)).length=j/\Ez K L (j+1)=L:=by
 have e:kF K L (j+1)=L.take j:=(Ni h g).trans (Nk A (by omega));have hl:(L.take j).length=j:=by grind
 unfold Ez;rw[e,hl];exact⟨rfl,zE _ _⟩
theorem acr (h:n<L.length):(Ez K L n).getD n dPt=L.getD n dPt:=by have:=No (K:=K) (L:=L) (n:=n);unfold Ez;grind
theorem X2 (h:n<L.length) (g:K (L.getD n dPt)=true):(Ez K L n).set (kF K L n).length (L.getD n dPt)=Ez K L (n+1):=by have:=No (K:=K) (L:=L) (n:=n);unfold Ez;rw[Qw h g,List.set_append_right _ _ (bk _),vk,dB,oE];rw[ov (show(kF K L n).length<L.length by omega)];rfl
theorem abj (h:n<L.length) (g:K (L.getD n dPt)=false):Ez K L (n+1)=Ez K L n:=by unfold Ez;rw[Ni h g]
theorem VI (h:n<=L.length):(aD ah (Ez K L n)++rs).take ((kF K L n).length*20)++Vw (L.length-(kF K L n).length)++(aD ah (Ez K L n)++rs).drop ((kF K L n).length*20+(L.length-(kF K L n).length)*20)=aD ah (kF K L n)++(Vw (L.length-(kF K L n).length)++rs):=by have hl:=aK ao (Ez K L n);have h1:=No (K:=K) (L:=L) (n:=n);rw[yD h] at hl;rw[show(kF K L n).length*20+(L.length-(kF K L n).length)*20=(aD ah (Ez K L n)).length from by omega,List.drop_left,wt (by omega),nh ao,oE];unfold Ez;grind
end
theorem UH (h:Ku (fun p=> !K p) L= -1):L.filter K=L:=by
 rcases SM (K:=fun p=> !K p) L with⟨_,A⟩|⟨j,_,A,_⟩
 .have:=Nk (fun i hi=>by simpa using A i hi) (bk _);rw[TW,pP] at this;exact this
 grind
theorem Uo (h: ¬Ku (fun p=> !K p) L= -1): ∃j:Nat,j<L.length/\Ku (fun p=> !K p) L=(j:Int)/\(∀i,i<j->K (L.getD i dPt)=true)/\K (L.getD j dPt)=false:=by
 rcases SM (K:=fun p=> !K p) (d:=dPt) L with⟨h1,_⟩|⟨j,h1,A,J,I⟩;·grind
 grind
def sG (w:Bool) (f t:Pt):Pt:=if w then t else f
def Cv.rch:Cv->Pt->Bool
 | .seg _ f t,p=>cP f p==0||cP p t==0||cP f p==cP p t
 | .arc k w f t,p=>decide (vo k (sG w f t) p (sG w t f)<=0)
theorem CY {f:Pt}(I:GP f) (A:GP t):GP (sG w f t):=by cases w;exact I;exact A
theorem Tc (A:CvV c) (I:GP p) (hs:c.supp p=true):c.rch p=c.on p:=by
 have e:c.on p=(decide (c.ord c.p p<=0)&&decide (c.ord p c.q<=0)):=by unfold Cv.on;rw[hs,ii]
 rw[e];cases c with
 |seg l f t=>have a1:=ez (cD A.g.2.1) (cD I);have h1:=aaO (cD A.g.2.1) (cD I) (cD A.g.2.2);have R:=aaO (cD A.g.2.2) (cD I) (cD A.g.2.1);have a2:=ez (cD I) (cD A.g.2.2);have V:=ez (cD A.g.2.1) (cD A.g.2.2);have b1:=Ex f p;have b2:=Ex p t;show(cP f p==0||cP p t==0||cP f p==cP p t)=(decide ((Cv.seg l f t).ord f p<=0)&&decide ((Cv.seg l f t).ord p t<=0));rw[Ej,Ej];unfold T3 at h1 R;grind
 |arc k w f t=>
  have of:OnK k f:=⟨A.g.2.1,bW.1 A.sp⟩;have J:OnK k t:=⟨A.g.2.2,bW.1 A.sq⟩;cases w with
  |false=>exact(xb of.1 J.1 I).symm
  |true=>exact(yd A.pos of J ⟨I,bW.1 hs⟩).symm
theorem UF (A:CvV c) (I:GP p):c.on p=(c.supp p&&c.rch p):=by
 cases hs:c.supp p with
 |true=>rw[ii,Tc A I hs]
 |false=>
  cases g:c.on p with
  |false=>rfl
  |true=>rw[oN g] at hs;cases hs
def L6 (c d:Cv) (p:Pt):Bool:=c.rch p&&d.rch p
def s6 (d x:Cv):Bool:=match d,x with
 | .arc k w f t,.arc _ v a b=>(Cv.arc k w f t).on a&&(Cv.arc k w f t).on b&& !(cP (sG v a b) (sG w t f)==0)&&decide (vo k (sG v a b) (sG v b a) (sG w t f)<=0)
 |d,x=>d.on x.p&&d.on x.q
theorem K6 (I:GK k) {f:Pt}(J:GP f) (A:GP t):cq 136 [.a (([.b true]++lp++bG k++[.b w]++ah f++ah t))] [.a (([.b true]++lp++bG k++[.b false]++ah (sG w f t)++ah (sG w t f)))]:=by
 cases w with
 |true=>exact Wi I J A
 |false=>exact Xb I J A
theorem aa1 (_hl:GL l) {f:Pt}(R:GP f) (V:GP t) (J:GP p):cq 59 [.a (([.b false]++dh l++g9++[.b false]++ah f++ah t)),.a (ah p)] [.c (.b ((Cv.seg l f t).rch p))]:=by
 apply bE Tryz.func59 rfl;refine ar (bg gC rfl) ?_;refine n7 rfl<|cm 10 [] ?_;refine aq (df (ah f) bb rfl (by kernel_rfl)) ?_;refine aw rfl (sR R J) ?_;refine aq (df (ah t) bb rfl (by kernel_rfl)) ?_;refine aw rfl (sR J V) ?_;refine iN (aY rfl) (fun c1 I=>?_);cases c1
 .refine iN (aY rfl) (fun c2 A=>?_);cases c2
  .apply ae;rw[show(Cv.seg l f t).rch p=(cP f p==cP p t) from by show(cP f p==0||cP p t==0||cP f p==cP p t)=_;rw[I,A];rfl];exact aj aa
  .apply ae;rw[show(Cv.seg l f t).rch p=true from by show(cP f p==0||cP p t==0||cP f p==cP p t)=_;rw[A,Bool.or_true];rfl];exact aj aa
 .refine ar (aY rfl)<|ae ?_;rw[show(Cv.seg l f t).rch p=true from by show(cP f p==0||cP p t==0||cP f p==cP p t)=_;rw[I];rfl];exact aj aa
theorem abV (J:GK k) {f:Pt}(I:GP f) (A:GP t) (R:GP p):cq 59 [.a (([.b true]++lp++bG k++[.b w]++ah f++ah t)),.a (ah p)] [.c (.b ((Cv.arc k w f t).rch p))]:=by apply bE Tryz.func59 rfl;refine ar (bg gC rfl) ?_;apply mL rfl;refine ar (lW ba rfl) ?_;refine ac rfl (K6 J I A) ?_;refine n6 (ff ba rfl) ?_;refine ar (df (bG k) n9 rfl (by kernel_rfl)) ?_;refine ar (df (ah (sG w f t)) bb rfl (by kernel_rfl)) ?_;refine ar (df (ah (sG w t f)) bb rfl (by kernel_rfl)) ?_;refine ac rfl (FW J (CY I A) R (CY A I)) ?_;exact ae (aj aa)
theorem K4 (A:c.good) (I:GP p):cq 59 [.a (aC c),.a (ah p)] [.c (.b (c.rch p))]:=by
 cases c with
 |seg l f t=>exact aa1 A.1 A.2.1 A.2.2 I
 |arc k w f t=>exact abV A.1 A.2.1 A.2.2 I
theorem ab1 (A:c.good) (I:GP p):cq 69 [.a (aC c),.a (ah p)] [.c (.b (c.supp p))]:=by
 cases c with
 |seg l f t=>exact acS A.1 A.2.1 A.2.2 I
 |arc k w f t=>exact ade A.1 A.2.1 A.2.2 I
theorem tW (J:CvV c) (I:GP p):cq 19 [.a (aC c),.a (ah p)] [.c (.b (c.on p))]:=by
 apply bE Tryz.func19 rfl;refine ar (eY (ai _) ba rfl) ?_;refine ac rfl (ab1 J.g I) ?_;refine iN (aY rfl) (fun c1 A=>?_);cases c1
 .apply ae;rw[UF J I,A,oG];exact aj aa
 .refine ar (eY (ai _) ba rfl) ?_;refine ac rfl (K4 J.g I)<|ae ?_;rw[UF J I,A,ii];exact aj aa
theorem adT (_hl:GL l) {f:Pt}(I:GP f) (J:GP t) {q:Pt}(A:GP p) (R:GP q):cq 70 [.a (([.b false]++dh l++g9++[.b false]++ah f++ah t)),.a (ah p),.a (ah q)] [.c (.i .i64 (a7 (Cv.seg l f t) p q))]:=by have b1:=go (Ex p q) (Ex t f);apply bE Tryz.func70 rfl;refine ar (bg gC rfl) ?_;refine n7 rfl<|cm 10 [] ?_;refine aw rfl (sR A R) ?_;refine aq (df (ah t) bb rfl (by kernel_rfl)) ?_;refine aq (df (ah f) bb rfl (by kernel_rfl)) ?_;refine aw rfl (sR J I) ?_;refine aq (ca (cP p q*cP t f) ((dz (by omega) (by omega)).trans rfl) rfl) ?_;exact ae (aj aa)
theorem PL {c:Rat}(J:Rz 400000 a) (I:Rz 400000 b) (W:Rz 400000 c) (h1:yV a b c≠0) (R:a*a-b*b*c≠0):cq 299 [.a ((cR a++cR b++cR c))] [.a ((cR (a*PX a b c)++cR (-b*PX a b c)++cR (zc (-b*PX a b c) c))),.c (.i .i64 0)]:=by
 have o1:Rz 6000000 (1:Rat):=aex (by decide+kernel);have n1:Rz 2020000 (a*a-b*b*c):=((J.mul J).sub ((I.mul I).mul W)).m_;have n2:Rz 6000000 (a*a-b*b*c):=n1.m_;have i1:Rz 6000000 (PX a b c):=(kX (k:=1) (aex (by decide+kernel)) n1 R).m_;have ka:Rz 6000000 a:=J.m_;have kb:Rz 6000000 (-b):=(I.m_).neg;have V:Rz 1000000 a:=J.m_;have wb:Rz 1000000 b:=I.m_;have wc:Rz 1000000 c:=W.m_;apply bE Tryz.func299 rfl;refine ac rfl (Da V wb wc) ?_;refine dg rfl (fun A=>?_) (fun A=>?_);·exact absurd (by simpa using A) h1
 .refine cm 10 [4,999999] ?_;refine aw rfl ((show cq 87 [.c (.i .i64 1)] [dR 1] from oY (by omega) (by omega))) ?_;refine aw rfl (Cl V wb wc) ?_;refine aw rfl (vv o1 n2 R) ?_;refine DQ.mk<|kZ (ff br rfl) rfl rfl rfl rfl<|dY ?_;apply mL rfl;apply cm 10 [];refine aw rfl (de (az I)) ?_;refine aq (am wO wm rfl rfl rfl) ?_;refine aw rfl (Io ka kb i1) ?_;exact ae (aN gT rfl (aj aa))
theorem AL {c d f:Rat}(V:Rz 6000000 c) (R:Rz 6000000 f) (I: ¬MT b c e f):cq 331 [.a ((cR a++cR b++cR c)),.a ((cR d++cR e++cR f))] [dR (cc b c f),.c (.b true)]:=by
 refine bE Tryz.func331 rfl<|ac rfl bU ?_;refine dg rfl (fun A=>?_) (fun A=>?_)
 .apply ae;rw[Bj (rb A)];exact aN br rfl (aj aa)
 .refine cm 16 [4,999999] ?_;refine aw rfl bU ?_;refine zQ (aY rfl) (fun c2 J=>?_);cases c2
  .refine aw rfl (jG (az V) (az R)) ?_;refine DQ.mk<|ig (ff br rfl) rfl rfl rfl rfl<|dY ?_;apply ae;rw[sS (n8 A),QJ I (n8 A) (n8 J)];exact aN br rfl (aj aa)
  .refine DQ.mk<|Ka (ff br rfl) rfl rfl (by kernel_rfl) rfl<|dY ?_;apply ae;rw[sS (n8 A)];exact aN br rfl (aj aa)
theorem yZ {c d f:Rat}(R:Rz 500000 a) (J:Rz 500000 b) (hc:Rz 500000 c) (I:Rz 500000 d) (V:Rz 500000 e) (W:Rz 500000 f) (A: ¬MT b c e f):cq 298 [.a ((cR a++cR b++cR c)),.a ((cR d++cR e++cR f))] [.a ((cR (a+d)++cR (b+e)++cR (zc (b+e) (cc b c f)))),.c (.i .i64 0)]:=by have ka:Rz 6000000 a:=R.m_;have kb:Rz 6000000 b:=J.m_;have kc:Rz 6000000 c:=hc.m_;have kd:Rz 6000000 d:=I.m_;have ke:Rz 6000000 e:=V.m_;have kf:Rz 6000000 f:=W.m_;refine bE Tryz.func298 rfl<|ac rfl (AL kc kf A)<|mL rfl<|cm 12 [] ?_;refine aw rfl (kQ (az R) (az I)) ?_;refine aw rfl (kQ (az J) (az V)) ?_;refine aw rfl oS ?_;exact ae (aN gT rfl (aj aa))
theorem SP {c d f:Rat}(R:Rz 500000 a) (A:Rz 500000 b) (hc:Rz 500000 c) (J:Rz 500000 d) (I:Rz 500000 e) (hf:Rz 500000 f) (W: ¬MT b c e f):cq 300 [.a ((cR a++cR b++cR c)),.a ((cR d++cR e++cR f))] [.a ((cR (a*d+b*e*cc b c f)++cR (a*e+b*d)++cR (zc (a*e+b*d) (cc b c f)))),.c (.i .i64 0)]:=by
 have ka:Rz 6000000 a:=R.m_;have kb:Rz 6000000 b:=A.m_;have kc:Rz 6000000 c:=hc.m_;have kd:Rz 6000000 d:=J.m_;have ke:Rz 6000000 e:=I.m_;have kf:Rz 6000000 f:=hf.m_;have V:Rz 500000 (cc b c f):=by unfold cc;split<;>assumption
 have z1:Rz 6000000 (b*e):=(al A I).m_;have z2:Rz 6000000 (cc b c f):=V.m_;have z3:Rz 6000000 (b*e*cc b c f):=(al (al A I) V).m_;refine bE Tryz.func300 rfl<|ac rfl (AL kc kf W)<|mL rfl<|cm 14 [] ?_;refine aw rfl (dd (by first|assumption|exact fb R (by decide)) (by first|assumption|exact fb J (by decide))) ?_;refine aw rfl (dd (by first|assumption|exact fb A (by decide)) (by first|assumption|exact fb I (by decide))) ?_;refine aw rfl (dd (by first|assumption|exact fb (al A I) (by decide)) (by first|assumption|exact fb ‹_› (by decide))) ?_;refine aw rfl (kQ (by first|assumption|exact fb (al R J) (by decide)) (by first|assumption|exact fb (al (al A I) ‹_›) (by decide))) ?_;apply cm 12 [];refine aw rfl (dd (by first|assumption|exact fb R (by decide)) (by first|assumption|exact fb I (by decide))) ?_;refine aw rfl (dd (by first|assumption|exact fb A (by decide)) (by first|assumption|exact fb J (by decide))) ?_;refine aw rfl (kQ (by first|assumption|exact fb (al R I) (by decide)) (by first|assumption|exact fb (al A J) (by decide))) ?_;refine ac rfl oS ?_;exact ae (aN gT rfl (aj aa))
theorem YC {c:Rat}(J:Rz 500000 a) (I:Rz 500000 b) (R:Rz 500000 c) (h1:yV a b c=0):cq 299 [.a ((cR a++cR b++cR c))] [.a (g9),.c (.i .i64 6)]:=by
 refine bE Tryz.func299 rfl<|ac rfl (Da J.m_ I.m_ R.m_) ?_;refine dg rfl (fun A=>?_) (fun A=>?_)
 .refine ar (am wO wm rfl rfl rfl) ?_;exact ae (aN gT rfl (aj aa))
 .exact absurd A (by rw[h1];decide)
theorem abH (_hl:GL l) {f:Pt}(_R:GP f) (_I:GP t) (_J:GP p) (h0:l.b=0):cq 231 [.a (([.b false]++dh l++g9++[.b false]++ah f++ah t)),.a (ah p)] [.a (([.i .i64 2]++g9))]:=by
 refine bE Tryz.func231 rfl<|ar (bg gC rfl)<|n7 rfl ?_;refine ar (df (cR l.b) br rfl (by kernel_rfl)) ?_;refine ac rfl bU ?_;refine dg rfl (fun A=>?_) (fun A=>?_)
 .refine ar (am J0 Fp rfl rfl rfl) ?_;refine n6 (ff tV rfl) ?_;exact ae (aN tV rfl aa)
 .exact absurd A (by rw[h0];decide)
theorem adF (hl:GL l) {f:Pt}(_R:GP f) (_I:GP t) (_J:GP p) (h0:l.b≠0):cq 231 [.a (([.b false]++dh l++g9++[.b false]++ah f++ah t)),.a (ah p)] [.a (([.i .i64 0]++(cR (-l.a/l.b)++cR 0++cR 0)))]:=by
 refine bE Tryz.func231 rfl<|ar (bg gC rfl)<|n7 rfl ?_;refine ar (df (cR l.b) br rfl (by kernel_rfl)) ?_;refine ac rfl bU ?_;refine dg rfl (fun A=>?_) (fun A=>?_);·exact absurd (rb A) h0
 .refine cm 14 [5,999999] ?_;refine aq (df (cR l.a) br rfl (by kernel_rfl)) ?_;refine aw rfl (de (by first|assumption|exact hl.a.m_)) ?_;refine aq (df (cR l.b) br rfl (by kernel_rfl))<|aw rfl (vv hl.a.neg.m_ hl.b.m_ h0) ?_;refine DQ.mk<|kZ (ff br rfl) rfl rfl rfl rfl<|dY ?_;refine ac rfl (jk)<|ar (am J0 Fp rfl rfl rfl) ?_;refine n6 (ff tV rfl) ?_;exact ae (aN tV rfl aa)
theorem adt (J:GK k) {f:Pt}(_hf:GP f) (_ht:GP t) (A:GP p) (h0:mh p k.y=0):cq 231 [.a (([.b true]++lp++bG k++[.b w]++ah f++ah t)),.a (ah p)] [.a (([.i .i64 (if w then 1 else-1)]++g9))]:=by
 obtain⟨d1,d2⟩:=abo J A;have W:Rz 112 (zc p.b1 p.c):=gN A.c (by decide);have R:Rz 112 (zc p.b2 p.c):=gN A.c (by decide);have kx:Rz 6000000 k.x:=J.x.m_;have ky:Rz 6000000 k.y:=J.y.m_;have V:Rz 500000 (0:Rat):=iH (by decide);have j1:Rz 6000000 (p.a1-k.x):=d1.m_;have j2:Rz 6000000 p.b1:=A.b1.m_;refine bE Tryz.func231 rfl<|ar (bg gC rfl)<|mL rfl<|cm 14 [7,999999] ?_;refine aw rfl nn ?_;refine aq (df (cR k.x) br rfl (by kernel_rfl)) ?_;refine aw rfl (de (by first|assumption|exact hl.a.m_)) ?_;refine aw rfl (jk)<|aw rfl (qT (yZ A.a1.m_ A.b1.m_ W.m_ J.x.neg.m_ V V (fun e=>e.2.1 rfl)) (E1 _ _) (MR _) (Yg _ _)) ?_;refine DQ.mk<|kZ (ff gT rfl) rfl rfl rfl rfl<|dY ?_;refine cm 14 [9,999999] ?_;refine aw rfl rf ?_;refine aq (df (cR k.y) br rfl (by kernel_rfl)) ?_;refine aw rfl (de (by first|assumption|exact hl.a.m_)) ?_;refine aw rfl (jk)<|aw rfl (qT (yZ A.a2.m_ A.b2.m_ R.m_ J.y.neg.m_ V V (fun e=>e.2.1 rfl)) (E1 _ _) (MR _) (Yg _ _)) ?_;refine DQ.mk<|kZ (ff gT rfl) rfl rfl rfl rfl<|dY ?_;refine ac rfl (YC d2.m_ A.b2.m_ R.m_ ((aaa A).trans h0))<|n7 rfl ?_;refine ar (bg gC rfl) ?_;refine dg rfl (fun I=>?_) (fun I=>?_)
 .refine ar (am J0 Fp rfl rfl rfl) ?_;refine n6 (ff tV rfl)<|ae ?_;rw[show(if w then 1 else-1:Int)=1 from if_pos I];exact aN tV rfl aa
 .refine ar (am J0 Fp rfl rfl rfl) ?_;refine n6 (ff tV rfl)<|ae ?_;rw[show(if w then 1 else-1:Int)= -1 from if_neg (by rw[I];decide)];exact aN tV rfl aa
theorem adM (J:GK k) {f:Pt}(_hf:GP f) (_ht:GP t) (A:GP p) (h0:mh p k.y≠0):cq 231 [.a (([.b true]++lp++bG k++[.b w]++ah f++ah t)),.a (ah p)] [.a (([.i .i64 0]++(cR (P3 k p)++cR (DB k p)++cR (zc (DB k p) p.c))))]:=by obtain⟨d1,W⟩:=abo J A;have R:Rz 112 (zc p.b1 p.c):=gN A.c (by decide);have I:Rz 112 (zc p.b2 p.c):=gN A.c (by decide);have kx:Rz 6000000 k.x:=J.x.m_;have ky:Rz 6000000 k.y:=J.y.m_;have V:Rz 500000 (0:Rat):=iH (by decide);have j1:Rz 6000000 (p.a1-k.x):=d1.m_;have j2:Rz 6000000 p.b1:=A.b1.m_;obtain⟨v1,v2⟩:=aay J A h0;have w1:Rz 500000 ((p.a2-k.y)*DS k p):=(W.mul v1).m_;have w2:Rz 500000 (-p.b2*DS k p):=(A.b2.neg.mul v1).m_;have w3:Rz 112 (zc (-p.b2*DS k p) (zc p.b2 p.c)):=gN I (by decide);refine bE Tryz.func231 rfl<|ar (bg gC rfl)<|mL rfl<|cm 14 [7,999999] ?_;refine aw rfl nn ?_;refine aq (df (cR k.x) br rfl (by kernel_rfl)) ?_;refine aw rfl (de (by first|assumption|exact hl.a.m_)) ?_;refine aw rfl (jk)<|aw rfl (qT (yZ A.a1.m_ A.b1.m_ R.m_ J.x.neg.m_ V V (fun e=>e.2.1 rfl)) (E1 _ _) (MR _) (Yg _ _)) ?_;refine DQ.mk<|kZ (ff gT rfl) rfl rfl rfl rfl<|dY ?_;refine cm 14 [9,999999] ?_;refine aw rfl rf ?_;refine aq (df (cR k.y) br rfl (by kernel_rfl)) ?_;refine aw rfl (de (by first|assumption|exact hl.a.m_)) ?_;refine aw rfl (jk)<|aw rfl (qT (yZ A.a2.m_ A.b2.m_ I.m_ J.y.neg.m_ V V (fun e=>e.2.1 rfl)) (E1 _ _) (MR _) (Yg _ _)) ?_;refine DQ.mk<|kZ (ff gT rfl) rfl rfl rfl rfl<|dY ?_;refine ac rfl ((show cq 299 _ [.a ((cR ((p.a2-k.y)*DS k p)++cR (-p.b2*DS k p)++cR (zc (-p.b2*DS k p) (zc p.b2 p.c)))),.c (.i .i64 0)] from PL W.m_ A.b2.m_ I.m_ (by rw[aaa A];exact h0) (UQ A h0)))<|mL rfl<|cm 10 [13,999999] ?_;refine aw rfl (Pp j1 j2) ?_;refine aw rfl (qT (SP d1.neg.m_ A.b1.neg.m_ R.m_ w1 w2 w3.m_ acT) aiH rfl ahR) ?_;refine DQ.mk<|kZ (ff gT rfl) rfl rfl rfl rfl<|dY ?_;refine ar (am J0 Fp rfl rfl rfl) ?_;refine n6 (ff tV rfl) ?_;exact ae (aN tV rfl aa)
theorem xAt (A:CvV c) (R:GP p):cq 231 [.a (aC c),.a (ah p)] [.a (CP (c.slp p))]:=by
 cases c with
 |seg l f t=>
  have hl:=A.g.1;have I:=A.g.2.1;have J:=A.g.2.2;show Ok _ _ _ [.a (CP (if l.b=0 then Slp.vt else .vl (-l.a/l.b) 0 0))];by_cases h0:l.b=0;·rw[if_pos h0];exact abH hl I J R h0
  .rw[if_neg h0];exact adF hl I J R h0
 |arc k w f t=>
  have V:=A.g.1;have I:=A.g.2.1;have J:=A.g.2.2;show Ok _ _ _ [.a (CP (if mh p k.y=0 then Slp.st (if w then 1 else-1) else .vl (P3 k p) (DB k p) (zc (DB k p) p.c)))];by_cases h0:mh p k.y=0;·rw[if_pos h0];exact adt V I J R h0
  .rw[if_neg h0];exact adM V I J R h0
theorem L9:cq 38 [dQ 0 0] [.c (.i .i64 0)]:=by apply bE Tryz.func38 rfl;refine ac rfl (rq uj (show dT 0 0=0 from rfl)) ?_;exact ae (aj aa)
theorem abz:cq 42 [dQ 0 0,dQ 0 0] [.c (.i .i64 0)]:=by refine bE Tryz.func42 rfl<|cm 6 [] ?_;refine aw rfl L9 ?_;refine aw rfl L9 ?_;refine aw rfl (rq Ek (show dT 0 0=0 from rfl)) ?_;refine mL rfl<|cm 12 [] ?_;refine aw rfl (TP (jo (e8 (by decide) (by decide) (by decide)) (e8 (by decide) (by decide) (by decide))) (show(0:Int)*0=0 from rfl)) ?_;refine aw rfl (TP (jo (e8 (by decide) (by decide) (by decide)) (e8 (by decide) (by decide) (by decide))) (show(0:Int)*0=0 from rfl)) ?_;refine aw rfl (rq mH (show dT 0 0=0 from rfl)) ?_;exact ae (aj aa)
theorem acV:cq 42 [.a (H6),.a (H6)] [.c (.i .i64 0)]:=by have h:cq 42 [dQ 0 0,dQ 0 0] [.c (.i .i64 0)]:=abz;rw[yi] at h;exact h
theorem R1 (J:c.good) (I:d.good) (ac:c.isArc=true) (A:d.isArc=true):cq 42 [.a c.qc,.a d.qc] [.c (.i .i64 (aG c.qq d.qq))]:=by
 cases c with
 |seg l f t=>cases ac
 |arc k w f t=>
  cases d with
  |seg l f t=>cases A
  |arc R w2 V t2=>exact jG (J.1.q.mono (by decide)) (I.1.q.mono (by decide))
theorem ab9 (R:c.good) (J:d.good) (h:c.bnd=d.bnd):cq 42 [.a c.qc,.a d.qc] [.c (.i .i64 (aG c.qq d.qq))]:=by
 cases c with
 |seg l f t=>
  cases d with
  |seg l2 A t2=>exact rq acV (show 0=aG 0 0 from(jI 0).symm)
  |arc I w2 A t2=>exact absurd (show(Cv.arc I w2 A t2).bnd=0 from h.symm) (by rcases Nv with e|e<;>rw[e]<;>decide)
 |arc k w f t=>
  cases d with
  |seg l2 A t2=>exact absurd (show(Cv.arc k w f t).bnd=0 from h) (by rcases Nv with e|e<;>rw[e]<;>decide)
  |arc I w2 A t2=>exact R1 R J rfl rfl
theorem xBd:cq 330 [.a (aC c)] [.c (.i .i64 c.bnd)]:=by
 apply bE Tryz.func330 rfl;refine ar (cT gC rfl rfl (mr _) rfl) ?_;refine dg rfl (fun A=>?_) (fun A=>?_)
 .apply ae;rw[aed A];exact aj aa
 .refine ar (cT gC rfl rfl (yl _) rfl) ?_;refine dg rfl (fun I=>?_) (fun I=>?_)
  .apply ae;rw[adR A I];exact aj aa
  .apply ae;rw[abt A I];exact aj aa
theorem afE (R:c.good) (J:d.good):cq 297 [.a (aC c),.a (aC d)] [.c (.i .i64 (FD c d))]:=by
 have b1:=RF c;have b2:=RF d;have V:=go (s:= -c.bnd) (t:=aG c.qq d.qq) (by omega) (dH _ _);refine bE Tryz.func297 rfl<|cm 6 [] ?_;refine aq (eY (ai _) ba rfl) ?_;refine aw rfl xBd ?_;refine aq (eY (ai _) ba rfl) ?_;refine aw rfl xBd ?_;refine dg rfl (fun A=>?_) (fun A=>?_)
 .apply ae;rw[X8 A];exact aj aa
 .refine dg rfl (fun I=>?_) (fun I=>?_)
  .apply ae;rw[X9 A I];exact aj aa
  .have q0:c.bnd=d.bnd:=by have q1:=of_decide_eq_false A;have q2:=of_decide_eq_false I;omega
   refine ar (fG rfl (AU b1) rfl) ?_;refine ar (aR br rfl rfl (Bz _) (G5 _) rfl) ?_;refine ar (aR br rfl rfl (Bz _) (G5 _) rfl) ?_;refine ac rfl (ab9 R J q0)<|ar (ca ((-c.bnd)*(aG c.qq d.qq)) (dz (by omega) (by omega)) rfl)<|ae ?_;rw[YN A I];exact aj aa
theorem xRk (hs:side=1\/side= -1) (I:SlG s):cq 296 [.a (CP s),.c (.p ([.i .i64 side]))] [.c (.i .i64 (rk s side))]:=by
 apply bE Tryz.func296 rfl;refine ar (cT Yd rfl rfl (CJ _) rfl) ?_;refine dg rfl (fun A=>?_) (fun A=>?_)
 .refine ar (Dk Yd rfl rfl rfl) ?_;refine ar (ca (2*side) (dz (by omega) (by omega)) rfl)<|ae ?_;rw[ah9 I A];exact aj aa
 .refine ar (cT Yd rfl rfl (CJ _) rfl) ?_;apply ae;rw[ah1 I A];exact aj aa
theorem afo {t:Slp}(J:SlG s) (gt:SlG t) (h:s.n=0/\t.n=0):cq 12 [.a s.cl,.a t.cl] [.c (.i .i64 (s.vcmp t))]:=by obtain⟨u,v,z,rfl⟩:=Q7 J h.1;obtain⟨V,R,z2,rfl⟩:=Q7 gt h.2;have I:=J.sz _ _ _ rfl;have A:=gt.sz _ _ _ rfl;exact sj (I.za.mono (by decide)) (I.zb.mono (by decide)) (I.zc.mono (by decide)) (A.za.mono (by decide)) (A.zb.mono (by decide)) (A.zc.mono (by decide)) ((I.za.sub A.za).mono (by decide)) I.c0 A.c0
theorem aio (hc:c.good) (hd:d.good) {t:Slp}(W:SlG s) (gt:SlG t) (a3: ∀n,s=.st n->c.isArc=true) (at_: ∀n,t=.st n->d.isArc=true) (hs:side=1\/side= -1):cq 230 [.a (aC c),.a (aC d),.a (CP s),.a (CP t),.c (.i .i64 side)] [.c (.i .i64 (Kt c d s t side))]:=by
 have hp:=go (s:=side) (by omega) (X4 s t);refine dP Tryz.func230 61 [.tmp 10] rfl<|ab<|ag<|ab<|jH (t:=9) rfl rfl<|ag<|ar (nH rfl rfl) ?_;refine ab<|fS 8 [] ?_;refine aq (eY (IW _) tV rfl) ?_;refine aq (oX rfl rfl (xRk hs W) rfl) ?_;refine aq (eY (IW _) tV rfl)<|aq (oX rfl rfl (xRk hs gt) rfl) ?_;refine ab<|aM<|ab<|ag ?_;refine aJ rfl (fun A=>?_) (fun A=>?_)
 .refine ab<|ag<|aU ?_;rw[adu A];exact ae (aj aa)
 .refine ab<|ag ?_;refine aJ rfl (fun I=>?_) (fun I=>?_)
  .refine ab<|ag<|aU ?_;rw[abY A I];exact ae (aj aa)
  .refine ab<|ag ?_;refine ar (cT Yd rfl rfl (CJ _) rfl) ?_;refine aJ rfl (fun J=>?_) (fun J=>?_)
   .refine ab<|ag<|aU ?_;rw[X5 W gt hs A I J];exact ae (aj aa)
   .refine ab<|ag ?_;refine ar (cT Yd rfl rfl (CJ _) rfl) ?_;refine aJ rfl (fun R=>?_) (fun R=>?_)
    .have y1:=VF (c:=c) (d:=d) W gt hs A I J R;have qn:s.n=1\/s.n= -1:=y1.2.1.elim fun n e=>by have:=W.st n e;subst e;exact this
     have a4:=go (s:=s.n) (t:=aG c.qq d.qq) (by omega) (dH _ _);refine ab<|fS 11 [] ?_;refine aq (cT Yd rfl rfl (CJ _) rfl) ?_;refine aq (aR br rfl rfl (Bz _) (G5 _) rfl) ?_;refine aq (aR br rfl rfl (Bz _) (G5 _) rfl) ?_;refine aw rfl (R1 hc hd (y1.2.1.elim a3) (y1.2.2.elim at_))<|aq (ca (s.n*(aG c.qq d.qq)) (dz (by omega) (by omega)) rfl)<|aU ?_;rw[y1.1];exact ae (aj aa)
    .have y1:=We (c:=c) (d:=d) W gt hs A I J R;refine aA<|ab<|ab<|ag ?_;refine ar (aR gT rfl rfl (QW _) (TQ _) rfl) ?_;refine ar (aR gT rfl rfl (QW _) (TQ _) rfl) ?_;refine ac rfl (afo W gt y1.1)<|ab<|ag ?_;refine aJ rfl (fun V=>?_) (fun V=>?_)
     .refine ab<|ag<|ar (Dk Yd rfl rfl rfl) ?_;refine ar (ca (side*(s.vcmp t)) (dz (by omega) (by omega)) rfl)<|aU ?_;rw[y1.2,if_neg (by simpa using V)];exact ae (aj aa)
     .refine aA<|ab<|ag ?_;refine ar (eY (ai _) ba rfl) ?_;refine ar (eY (ai _) ba rfl) ?_;refine ac rfl (afE hc hd)<|aU ?_;rw[y1.2,if_pos (by simpa using V)];exact ae (aj aa)
theorem xR_ (W:CvV c) (vd:CvV d) {t:Slp}(es:c.slp c.p=s) (R:d.slp d.p=t):cq 149 [.a (aC c),.a (aC d)] [.c (.i .i64 (DK c d)),.c (.i .i64 (O9 c d))]:=by
 have J:=W.g;have I:=vd.g;have gs:SlG s:=es▸aaL J (ew J);have gt:SlG t:=R▸aaL I (ew I);have V: ∀n,s=.st n->c.isArc=true:=es▸Mj;have at_: ∀n,t=.st n->d.isArc=true:=R▸Mj;apply bE Tryz.func149 rfl;refine ar (aR bb rfl rfl (gz _) rfl rfl) ?_;refine ar (aR bb rfl rfl (gz _) rfl rfl) ?_;refine ac rfl (wC (ew J) (ew I)) ?_;refine dg rfl (fun A=>?_) (fun A=>?_)
 .have y1:=agK (by simpa using A);apply ae;rw[y1.1,y1.2];exact aj (aj aa)
 .apply cm 13 [];refine aq (eY (ai _) ba rfl) ?_;refine aq (eY (ai _) ba rfl) ?_;refine aq (eY (ai _) ba rfl) ?_;refine aq (aR bb rfl rfl (gz _) rfl rfl) ?_;refine aw rfl ((show Ok _ _ _ [.a (CP s)] from es▸xAt W (ew J))) ?_;refine aq (eY (ai _) ba rfl) ?_;refine aq (aR bb rfl rfl (gz _) rfl rfl) ?_;refine aw rfl ((show Ok _ _ _ [.a (CP t)] from R▸xAt vd (ew I)))<|aw rfl (aio J I gs gt V at_ (.inl rfl)) ?_;have y1:=aaG (by simpa using A) es R;apply ae;rw[y1.1,y1.2];exact aj (aj aa)
theorem ahS (A:CvV c) (I:CvV d):cq 149 [.a (aC c),.a (aC d)] [.c (.i .i64 (DK c d)),.c (.i .i64 (O9 c d))]:=xR_ A I rfl rfl
theorem aes (W:CvV c) (V:CvV d):cq 68 [.a (aC c),.a (aC d)] [.c (.i .i64 (jc c d))]:=by
 have hc:=W.g;have R:=V.g;apply bE Tryz.func68 rfl;refine ar (aR bb rfl rfl (gz _) rfl rfl) ?_;refine ar (aR bb rfl rfl (gz _) rfl rfl) ?_;refine ac rfl (sR (ew hc) (ew R)) ?_;refine dg rfl (fun A=>?_) (fun A=>?_)
 .apply ae;rw[adQ A];exact aj aa
 .refine ar (eY (ai _) ba rfl) ?_;refine ar (eY (ai _) ba rfl) ?_;refine ac rfl (ahS W V) ?_;refine iN (aY rfl) (fun c2 J=>?_);cases c2;·exact absurd J (by rw[(aaG (by simpa using A) rfl rfl).2];decide)
  .refine dg rfl (fun I=>?_) (fun I=>?_)
   .apply ae;rw[Y0 A I];exact aj aa
   .refine ar (aR bb rfl rfl (ju _) rfl rfl) ?_;refine ar (aR bb rfl rfl (ju _) rfl rfl) ?_;refine ac rfl (sR (f5 hc) (f5 R))<|ae ?_;rw[XP A I];exact aj aa
def acv (x:Value):List Value->Value
 |[]=>x
 |xs=>.tuple (x::xs).toArray
def TN (t n c:Nat):List D0->DV
 |[]=>.o t n c
 |ds=>.tn t n c ds
structure OkN (P:Program) (f:FuncId) (ds:List D0) (U:TypeId) (n m:Nat) (us:List CellD) (rs:List D0):Prop where
 cal:dk P f=true
 run: ∀(V:Nat->Prop) (vs:Array Value) (w:World),(∀x,V x->x<w.heap.size)->RdL V w vs.toList ds->Calls P f vs w fun e w'=> ∃(b c:Nat) (bs:Array Value) (eD:List CellD) (xs:List Value),
  e=.returned (acv (.slice (some ⟨b,0,none⟩) n c) xs)/\Below w.heap.size w w'/\w.heap.size<=b/\b<w'.heap.size/\n<=c/\c<=maxLen/\eD.length=(c-n)*m/\w'.heap[b]? =some (.cells bs U (0,0))/\RdCs (fun x=>V x\/x=b) w' bs.toList (us++eD)/\RdL (fun x=>V x\/x=b) w' xs rs
structure OkT (P:Program) (f:FuncId) (U:TypeId) (n c n1:Nat) (cs0 cs1:List CellD) (ds:List D0):Prop where
 cal:dk P f=true
 run: ∀(V:Nat->Prop) (b:Nat) (bs vs:Array Value) (vl:List Value) (w:World),vs.toList=.slice (some ⟨b,0,none⟩) n c::vl->(∀x,V x->x<w.heap.size)->V b->w.heap[b]? =some (.cells bs U (0,0))->RdCs V w bs.toList cs0->RdL V w vl ds->
  Calls P f vs w fun e w'=> ∃bs':Array Value,e=.returned (.slice (some ⟨b,0,none⟩) n1 c)/\w'.heap[b]? =some (.cells bs' U (0,0))/\Mid b w w'/\RdCs V w' bs'.toList cs1
section
variable {P:Program}
theorem N4 {a:Act}{t:Nat}{v:Value}(h:a.tmps[t]? =some v):a.tmps.getD t undef=v:=by simp_all
theorem OkN.of {rs:List D0}{m:Nat}(a6:dk P f=true) (hf:P.funcs[f]? =some fn) (hb:fn.body=some cd) (b4:Nat.ble ds.length fn.ntmps=true) (h:Dw P cd ⟨fn.ntmps,mG 0 ds,[]⟩ fun e σ=>(e=.normal\/e=.ret)/\ ∃(t k c:Nat) (rv:List ResultVar) (eD:List CellD),fn.results.toList=.tmp t::rv/\look t σ.tm=some (.o k n c)/\look k σ.bx=some (U,us++eD)/\n<=c/\c<=maxLen/\eD.length=(c-n)*m/\p6 P σ rv=some rs):OkN P f ds U n m us rs:=by
 refine⟨a6,fun V vs w hV c6=>calls_of_wp hf hb ?_⟩
 refine tK ?_ (h V ⟨w,fun _=>False,fn.ntmps⟩ (fun _=>0) _ w (afy (fU b4) hV c6))
 rintro e a' w' ⟨σ',I,hn,⟨he,t,k,c,rv,eD,c7,ht,hk,a5,c3,a9,a4⟩,J⟩
 obtain⟨xs,b7,b3⟩:=Ce J _ _ a4
 obtain⟨v,ev,hv⟩:=J.sees.tmp t _ trivial ht
 subst hv
 obtain⟨c8,bs,b5,b6⟩:=J.sees.box k _ _ hk
 have R:σ'.B k≠none:=by rw[show σ'.B k=_ from hk];simp
 have W:Keep (fun b=>V b\/ ∃k,σ'.B k≠none/\I k=b) (fun x=>V x\/x=I k) w' w':=⟨Nat.le_refl _,fun _ _ _=>rfl,fun x _ hx=>hx.imp id fun e=>⟨k,R,e.symm⟩⟩
 have c5:(fn.results.toList.mapM (kG a')).run P w'=.ok (.slice (some ⟨I k,0,none⟩) n c::xs) w':=by
  rw[c7,List.mapM_cons];have e1:(kG a' (.tmp t)).run P w'=.ok (.slice (some ⟨I k,0,none⟩) n c) w':=by show(pure (a'.tmps.getD t undef):Go.Sem Value).run P w'=_;rw[N4 ev];rfl
  simp only[fh,e1,ft,b7,dA]
 have A:(results fn a'.tmps).run P w'=.ok (acv (.slice (some ⟨I k,0,none⟩) n c) xs) w':=by
  rw[ub c5];cases xs with
  |nil=>rfl
  |cons x xs=>exact congrArg (fun q=>Result.ok q w') (dif_neg (by simp))
 have a3:w.heap.size<=I k:=(J.own k R).resolve_right (fun h=>h)
 rcases he with rfl|rfl
 .exact⟨J.dfr,_,A,I k,c,bs,eD,xs,rfl,J.bel.to (fun _ h=>h),a3,J.sees.av _ (.inr ⟨k,R,rfl⟩),a5,c3,a9,b5,b6.keep W,b3.keep W⟩
 .exact⟨J.dfr,_,A,I k,c,bs,eD,xs,rfl,J.bel.to (fun _ h=>h),a3,J.sees.av _ (.inr ⟨k,R,rfl⟩),a5,c3,a9,b5,b6.keep W,b3.keep W⟩
theorem OkT.of {m K:Nat}(J:dk P f=true) (hf:P.funcs[f]? =some fn) (hb:fn.body=some cd) (R:Nat.ble (ds.length+1) fn.ntmps=true) (hK:Nat.ble fn.ntmps K=true) (h:Dw P cd ⟨fn.ntmps,(0,.o K n m)::mG 1 ds,[(K,U,cs0)]⟩ fun e σ=>(e=.normal\/e=.ret)/\look K σ.bx=some (U,cs1)/\ ∃t,fn.results.toList=[.tmp t]/\look t σ.tm=some (.o K n1 m)):OkT P f U n m n1 cs0 cs1 ds:=by
 refine⟨J,fun V b bs vs vl w a6 hV b6 b5 b4 a9=>calls_of_wp hf hb ?_⟩
 refine tK ?_ (h _ _ (fun _=>b) _ w (Z3 (fU R) (fU hK) a6 hV b6 b5 b4 a9))
 rintro e a' w' ⟨σ',c3,hn,⟨he,b7,t,b3,ht⟩,hr⟩
 obtain⟨a4,I,W,hm,a3⟩:=Zh hr b7
 obtain⟨v,ev,hv⟩:=hr.sees.tmp t _ trivial ht
 have hv:v=.slice (some ⟨c3 K,0,none⟩) n1 m:=hv
 rw[a4] at hv
 subst hv
 have a5:(fn.results.toList.mapM (kG a')).run P w'=.ok [.slice (some ⟨b,0,none⟩) n1 m] w':=by
  rw[b3,List.mapM_cons];have e1:(kG a' (.tmp t)).run P w'=.ok (.slice (some ⟨b,0,none⟩) n1 m) w':=by show(pure (a'.tmps.getD t undef):Go.Sem Value).run P w'=_;rw[N4 ev];rfl
  simp only[fh,e1,ft,List.mapM_nil,dA]
 have A:(results fn a'.tmps).run P w'=.ok (.slice (some ⟨b,0,none⟩) n1 m) w':=ub a5
 rcases he with rfl|rfl
 .exact⟨hr.dfr,_,A,I,rfl,W,hm,a3⟩
 .exact⟨hr.dfr,_,A,I,rfl,W,hm,a3⟩
variable {eO os:Array Oper}{N:Nat}{tm:List (Nat×DV)}{bx:List (Nat×TypeId×List CellD)}
theorem KF {t:Nat}{rs:List D0}{m:Nat} (hf:cE (fun s=>look s tm) fo=some (.v (.c (.f f)))) (ha:pE (fun s=>look s tm) args.toList=some ds) (hok:OkN P f ds U n m us rs) (hd:look t bx=none) (hg:gd eO ⟨some t,.call ⟨.value fo,args,at_⟩,ty,pos,af,g⟩ (fun s=>look s tm)=some true):Jd P eO ⟨some t,.call ⟨.value fo,args,at_⟩,ty,pos,af,g⟩ ⟨N,tm,bx⟩ (fun σ'=> ∃c eD,n<=c/\c<=maxLen/\eD.length=(c-n)*m/\σ'=⟨N,(t,TN t n c rs)::tm,(t,U,us++eD)::bx⟩):=by
 intro av w0 β a w hrel a3
 have hs:=Sees.of hrel.sees (L:=ek eO ⟨some t,.call ⟨.value fo,args,at_⟩,ty,pos,af,g⟩) (fun _ _=>trivial) (fun _ _ _ h=>h) (fun _ _ h=>h)
 refine⟨eK hs hg,?_⟩
 have R:=hok.cal
 unfold dk at R
 cases I:P.funcs[f]? with
 |none=>rw[I] at R;cases R
 |some fn=>
  rw[I] at R
  simp only[di,bne_iff_ne,ne_eq,uP] at R
  have V:(execOp a.eval ⟨some t,.call ⟨.value fo,args,at_⟩,ty,pos,af,g⟩).run P w=.ok (.enter f (args.map a.eval)) w:=by
   have A:fn.body≠none:=by have:=R.2;cases a6:fn.body with
    |none=>rw[a6] at this;cases this
    |some c=>simp
   simp[execOp,resolve,RdC.func_eq (ap hs (by simp[Op.operands,Call.operands]) hf),Deferred.ofValue,invoke,callFunc,program,Sem.run,I,R.1,A]
  unfold Gives
  rw[V]
  refine(hok.run _ (args.map a.eval) w hs.av (by simpa using (ji hs args.toList ds (fun x hx=>by have a9:=tz.1 hx;simp[Op.operands,Call.operands,a9]) ha))).mono ?_
  rintro e w' ⟨b,c,bs,eD,xs,rfl,hw,W,A,a4,b5,a5,b3,b4,J⟩
  refine⟨_,rfl,⟨N,(t,TN t n c rs)::tm,(t,U,us++eD)::bx⟩,fun k=>if k=t then b else β k,⟨c,eD,a4,b5,a5,rfl⟩,rfl,?_⟩
  have hx:RdX (fun y=>(av y\/ ∃k,look k bx≠none/\β k=y)\/y=b) w' (fun k=>if k=t then b else β k) (acv (.slice (some ⟨b,0,none⟩) n c) xs) (TN t n c rs):=by
   cases rs with
   |nil=>
    cases xs with
    |nil=>show _=Value.slice (some ⟨if t=t then b else β t,0,none⟩) n c;rw[if_pos rfl];rfl
    |cons x xs=>exact absurd J.1 (by simp)
   |cons r rs=>
    cases xs with
    |nil=>exact absurd J.1 (by simp)
    |cons x xs=>exact⟨x::xs,by show _=Value.tuple (Value.slice (some ⟨if t=t then b else β t,0,none⟩) n c::x::xs).toArray;rw[if_pos rfl];rfl,J⟩
  have:=hrel.fresh (a3 t rfl) hd hw W A b3 b4 hx (by intro k hk;cases rs<;>(injection hk with hk;exact hk.symm))
  refine this.congr (fun s=>?_) (fun l=>?_)
  .show look s ((t,TN t n c rs)::tm)=(if some t=some s then _ else look s tm)
   rw[aW]
   grind
  .show look l ((t,U,us++eD)::bx)=(if some t=some l then _ else look l bx)
   rw[aW]
   grind
theorem KQ {t:Nat}{k c:Nat} (hf:cE (fun s=>look s tm) fo=some (.v (.c (.f f)))) (J:args.toList=x::xs) (hx:cE (fun s=>look s tm) x=some (.o k n c)) (ha:pE (fun s=>look s tm) xs=some ds) (hb:look k bx=some (U,cs0)) (hok:OkT P f U n c n1 cs0 cs1 ds) (hg:gd eO ⟨some t,.call ⟨.value fo,args,at_⟩,ty,pos,af,g⟩ (fun s=>look s tm)=some true):Jd P eO ⟨some t,.call ⟨.value fo,args,at_⟩,ty,pos,af,g⟩ ⟨N,tm,bx⟩ (fun σ'=>σ'=⟨N,(t,.o k n1 c)::tm,(k,U,cs1)::bx⟩):=by
 intro av w0 β a w hrel V
 have hs:=Sees.of hrel.sees (L:=ek eO ⟨some t,.call ⟨.value fo,args,at_⟩,ty,pos,af,g⟩) (fun _ _=>trivial) (fun _ _ _ h=>h) (fun _ _ h=>h)
 refine⟨eK hs hg,?_⟩
 have W: ∀y∈x::xs,y∈(⟨some t,.call ⟨.value fo,args,at_⟩,ty,pos,af,g⟩:Oper).op.operands:=fun y hy=>by
  have b4:y∈args:=by grind
  simp[Op.operands,Call.operands,b4]
 have h3:a.eval x=.slice (some ⟨β k,0,none⟩) n c:=ap hs (W x (fC ..)) hx
 obtain⟨hV,bs,e,hr⟩:=hs.box k U cs0 hb
 have R:=hok.cal
 unfold dk at R
 cases I:P.funcs[f]? with
 |none=>rw[I] at R;cases R
 |some fn=>
  rw[I] at R
  simp only[di,bne_iff_ne,ne_eq,uP] at R
  have a3:(execOp a.eval ⟨some t,.call ⟨.value fo,args,at_⟩,ty,pos,af,g⟩).run P w=.ok (.enter f (args.map a.eval)) w:=by
   have a4:fn.body≠none:=by have:=R.2;cases b3:fn.body with
    |none=>rw[b3] at this;cases this
    |some c=>simp
   simp[execOp,resolve,RdC.func_eq (ap hs (by simp[Op.operands,Call.operands]) hf),Deferred.ofValue,invoke,callFunc,program,Sem.run,I,R.1,a4]
  unfold Gives
  rw[a3]
  refine(hok.run _ (β k) bs (args.map a.eval) (xs.map a.eval) w (by rw[q9,J,lQ,h3]) hs.av hV e hr (ji hs xs ds (fun y hy=>W y (fv _ hy)) ha)).mono ?_
  rintro e w' ⟨b5,rfl,a6,hm,a9⟩
  refine⟨_,rfl,⟨N,(t,.o k n1 c)::tm,(k,U,cs1)::bx⟩,β,rfl,rfl,?_⟩
  have A:=(hrel.sval (x:=.n) (v:=undef) hb a6 hm V rfl a9 trivial).value (x:=.o k n1 c) V (fe _ _) rfl (by intro l hl;injection hl with hl;subst hl;rw[if_pos rfl];simp)
  rw[Bo] at A
  refine A.congr (fun s=>?_) (fun l=>?_)
  .show look s ((t,DV.o k n1 c)::tm)=(if some t=some s then _ else if some t=some s then _ else look s tm)
   rw[aW]
   grind
  .show look l ((k,U,cs1)::bx)=(if k=l then _ else look l bx)
   rw[aW]
variable {os:List Oper}{K:St->Prop}
theorem xE {t:Nat}{rs:List D0}{m:Nat} (V:cE (fun s=>look s tm) fo=some (.v (.c (.f f)))) (ha:pE (fun s=>look s tm) args.toList=some ds) (hok:OkN P f ds U n m us rs) (I:look t bx=none) (R:gd eO ⟨some t,.call ⟨.value fo,args,at_⟩,ty,pos,af,g⟩ (fun s=>look s tm)=some true) (J: ∀c eD,n<=c->c<=maxLen->eD.length=(c-n)*m->dl P eO os ⟨N,(t,TN t n c rs)::tm,(t,U,us++eD)::bx⟩ K):dl P eO (⟨some t,.call ⟨.value fo,args,at_⟩,ty,pos,af,g⟩::os) ⟨N,tm,bx⟩ K:=
 .inr ⟨_,KF V ha hok I R,fun σ' ⟨c,eD,h1,A,W,e⟩=>by subst e;exact J c eD h1 A W⟩
theorem Co {t:Nat}{k c:Nat} (R:cE (fun s=>look s tm) fo=some (.v (.c (.f f)))) (A:args.toList=x::xs) (I:cE (fun s=>look s tm) x=some (.o k n c)) (ha:pE (fun s=>look s tm) xs=some ds) (W:look k bx=some (U,cs0)) (hok:OkT P f U n c n1 cs0 cs1 ds) (V:gd eO ⟨some t,.call ⟨.value fo,args,at_⟩,ty,pos,af,g⟩ (fun s=>look s tm)=some true) (J:dl P eO os ⟨N,(t,.o k n1 c)::tm,(k,U,cs1)::bx⟩ K):dl P eO (⟨some t,.call ⟨.value fo,args,at_⟩,ty,pos,af,g⟩::os) ⟨N,tm,bx⟩ K:=
 .inr ⟨_,KQ R A I ha W hok V,fun σ' e=>by subst e;exact J⟩
variable {T:TF}{B:BF}
theorem Iw {k c:Nat} (A:cE T x=some (.tn k n c ds)) (J:gd eO ⟨dst,.extract x 0,ty,pos,af,g⟩ T=some true):Sem P eO ⟨dst,.extract x 0,ty,pos,af,g⟩ T B (.r (.o k n c)):=
 bv J (fun l hl=>oT (by simp[Op.operands]) A (by injection hl with hl;subst hl;rfl)) (fun V β a w hs=>by obtain⟨xs,I,_⟩:=ap hs (by simp[Op.operands]) A;refine⟨_,?_,rfl⟩;simp only[execOp,I,Instr.extract,fh,dA];simp)
theorem IL {k c:Nat}{d:D0} (W:cE T x=some (.tn k n c ds)) (I:ds[i]? =some d) (hg:gd eO ⟨dst,.extract x (i+1),ty,pos,af,g⟩ T=some true):Sem P eO ⟨dst,.extract x (i+1),ty,pos,af,g⟩ T B (.r (.v d)):=
 bv hg (qV rfl) (fun V β a w hs=>by
  obtain⟨xs,R,A⟩:=ap hs (by simp[Op.operands]) W;have hlt:i<ds.length:=(fM.1 I).1;have hv:xs[i]? =some (xs[i]'(by rw[A.1];exact hlt)):=gI _;refine⟨_,?_,A.2 i _ d hv I⟩;have J:(Value.slice (some ⟨β k,0,none⟩) n c::xs).toArray[i+1]? =some (xs[i]'(by rw[A.1];exact hlt)):=by simp
  simp only[execOp,R,Instr.extract,J,fh,dA,ft])
theorem Pa {k c m:Nat} (hf:cE T fo=some (.v (.c (.f f)))) (R:args.toList=x::xs) (hx:cE T x=some (.o k n c)) (ha:pE T xs=some ds) (W:B k=some (U,cs)) (a5:cs.take (n*m)=us) (hl:n*m<=cs.length) (a6:n<=c) (hc:c<=maxLen) (hok:Ok P f (.c (.s n us)::ds) [.c (.i .i64 r)]) (hg:gd eO ⟨dst,.call ⟨.value fo,args,at_⟩,ty,pos,af,g⟩ T=some true):Sem P eO ⟨dst,.call ⟨.value fo,args,at_⟩,ty,pos,af,g⟩ T B (.r (.v (.c (.i .i64 r)))):=by
 refine⟨qV rfl,fun V β a w hs=>⟨eK hs hg,?_⟩⟩
 have a3: ∀y∈x::xs,y∈(⟨dst,.call ⟨.value fo,args,at_⟩,ty,pos,af,g⟩:Oper).op.operands:=fun y hy=>by
  have b4:y∈args:=by grind
  simp[Op.operands,Call.operands,b4]
 have h3:a.eval x=.slice (some ⟨β k,0,none⟩) n c:=ap hs (a3 x (fC ..)) hx
 have b5:maxLen=9223372036854775807:=rfl
 have J:Keep V (fun x=>V x/\x≠β k) w w:=⟨Nat.le_refl _,fun _ _ _=>rfl,fun _ _ h=>h.1⟩
 have A:=hok.cal
 unfold dk at A
 cases I:P.funcs[f]? with
 |none=>rw[I] at A;cases A
 |some fn=>
  rw[I] at A
  simp only[di,bne_iff_ne,ne_eq,uP] at A
  have a4:(execOp a.eval ⟨dst,.call ⟨.value fo,args,at_⟩,ty,pos,af,g⟩).run P w=.ok (.enter f (args.map a.eval)) w:=by
   have a9:fn.body≠none:=by have:=A.2;cases b3:fn.body with
    |none=>rw[b3] at this;cases this
    |some c=>simp
   simp[execOp,resolve,RdC.func_eq (ap hs (by simp[Op.operands,Call.operands]) hf),Deferred.ofValue,invoke,callFunc,program,Sem.run,I,A.1,a9]
  unfold Gives
  rw[a4]
  refine(hok.run (fun x=>V x/\x≠β k) (args.map a.eval) w (fun b W=>hs.av b W.1) (by rw[q9,R,lQ,h3];exact qF (Yu (ys:=us) hs W (by rw[mU];exact a5) (fun _=>by omega) a6 (by omega)) ((ji hs xs ds (fun y hy=>a3 y (fv _ hy)) ha).keep J))).mono ?_
  rintro e w' ⟨v,rfl,hr,W⟩
  refine⟨v,rfl,?_,W⟩
  rw[hr.int_eq]
  exact .i _ _
theorem aeK {z:Value}{m:Nat}(J:zs.length=m) (R: ∀(V:Nat->Prop) (w:World),RdCs V w z.cells.toList zs) (r:Nat) (V:Nat->Prop) (w:World):RdCs V w (Builtin.zeroCells z.cells r).toList (List.replicate r zs).flatten:=by
 have A:z.cells.size=m:=by have:=(R (fun _=>False) default).1;rw[J] at this;simpa using this
 have I:RdCs V w ((List.range (r*m)).map (fun j=>z.cells[j%z.cells.size]!)) (List.replicate r zs).flatten:=by
  induction r with
  |zero=>simp;exact qB
  |succ r W=>
   rw[Nat.succ_mul,List.range_add,zO,List.replicate_succ',List.flatten_append];refine kP W ?_;have e2:(List.map (fun x=>r*m+x) (List.range m)).map (fun j=>z.cells[j%z.cells.size]!)=z.cells.toList:=by apply Ai (by simp[A]);intro j h1 h2;simp at h1;simp only[List.getElem_map,Cu,A];rw[Nat.mul_comm r,Nat.mul_add_mod,Nat.mod_eq_of_lt (by omega),getElem!_pos z.cells j (by omega)];simp
   grind
 unfold Builtin.zeroCells;simpa [A] using I
theorem EA {e:TypeId}{k off c m a6:Nat} (hU:uV P U=some (e,m,a6,zs)) (hy:cE T y=some (.w k off n c)) (hb:B k=some (e,cs)) (a9:off+n*m<=cs.length) (hz:cs.take off++(List.replicate n zs).flatten++cs.drop (off+n*m)=cs') (hg:gd eO ⟨none,.call ⟨.builtin .clear,#[y],#[U]⟩,ty,pos,af,g⟩ T=some true):Sem P eO ⟨none,.call ⟨.builtin .clear,#[y],#[U]⟩,ty,pos,af,g⟩ T B (.s k e cs'):=by
 refine⟨rfl,⟨cs,hb⟩,fun V β a w hs=>⟨eK hs hg,?_⟩⟩
 have e1:a.eval y=.slice (some ⟨β k,off,none⟩) n c:=ap hs (by simp[Op.operands,Call.operands]) hy
 obtain⟨hu,i,z,hi,a5,b5,b3,R,a3⟩:=i5 hU
 obtain⟨hV,vs,ev,W⟩:=hs.box k e cs hb
 have I: ∀ {w':World},(Builtin.clear_ #[U] ty #[a.eval y]).run P w=.ok (.tuple #[]) w'->(execOp a.eval ⟨none,.call ⟨.builtin .clear,#[y],#[U]⟩,ty,pos,af,g⟩).run P w=.ok (.value (.tuple #[])) w':=fun{w'} h=>by simp only[execOp,resolve,invoke,builtin,fh,dA,ft,qe,lQ,qv];rw[h];rfl
 unfold Gives
 rcases je n with h0|h0
 .subst h0
  rw[I (w':=w) (by rw[e1];simp[Builtin.clear_,run_underlying hu])]
  refine⟨vs,?_,rfl,rfl,rfl,?_⟩
  .grind
  .simp_all
 .have A:=aeK R a3 n V w
  have J:(Builtin.zeroCells z.cells n).toList.length=n*m:=by rw[A.1,List.length_flatten,List.map_replicate,List.sum_replicate_nat,R]
  have b4:vs.size=cs.length:=by have:=W.1;simpa using this
  rw[I (w':=w.setRow (β k) (vs.toList.take off++(Builtin.zeroCells z.cells n).toList++vs.toList.drop (off+(Builtin.zeroCells z.cells n).toList.length)).toArray) (by rw[e1];simp[Builtin.clear_,run_underlying hu,Nat.ne_of_gt h0,zeroValue,typeInfo,hi,a5];rw[run_storeCells_at P (β k) off e (Builtin.zeroCells z.cells n).toList 0 vs w ev (by omega) (RU A)];simp)]
  refine⟨_,f7 ev,rfl,rfl,rfl,?_⟩
  rw[<-hz,J]
  exact((W.take off).append A).append (W.drop (off+n*m))
theorem Kp {t:Nat}{m:Nat} (hU:pT P U=some m) (hx:cE (fun s=>look s tm) x=some (.v (.c (.s n us)))) (hg:gd eO ⟨some t,.binOp .eql U x (.const (.slice none 0 0)) U2,ty,pos,af,g⟩ (fun s=>look s tm)=some true) (hk: ∀b:Bool,(0<n->b=false)->dl P eO os ⟨N,(t,.v (.c (.b b)))::tm,bx⟩ K):dl P eO (⟨some t,.binOp .eql U x (.const (.slice none 0 0)) U2,ty,pos,af,g⟩::os) ⟨N,tm,bx⟩ K:=by
 refine .inr ⟨fun σ'=> ∃b:Bool,(0<n->b=false)/\σ'=⟨N,(t,.v (.c (.b b)))::tm,bx⟩,?_,fun σ' ⟨b,h,e⟩=>by subst e;exact hk b h⟩
 intro av w0 β a w hrel W
 have hs:=Sees.of hrel.sees (L:=ek eO ⟨some t,.binOp .eql U x (.const (.slice none 0 0)) U2,ty,pos,af,g⟩) (fun _ _=>trivial) (fun _ _ _ h=>h) (fun _ _ h=>h)
 refine⟨eK hs hg,?_⟩
 have h1:=ap hs (by simp[Op.operands]) hx
 have h2: ∃A c,a.eval x=.slice A n c/\(0<n->A.isNone=false):=by
  generalize a.eval x=v at h1;cases h1 with
  |s0 A c _=>exact⟨A,c,rfl,fun h=>absurd h (Nat.lt_irrefl 0)⟩
  |s b off c _ _ _ _=>exact⟨_,c,rfl,fun _=>rfl⟩
 obtain⟨A,c,e,hA⟩:=h2
 have R: ∃el,P.underlying U=some (.slice el):=by unfold pT at hU;grind
 obtain⟨el,R⟩:=R
 have V:(Op.equal U (.slice A n c) (.slice none 0 0)).run P w=.ok A.isNone w:=by unfold Op.equal Op.maxDepth;rw[show(10000:Nat)=9999+1 from rfl,Op.equalIn];simp only[fh,run_underlying R,ft];cases A<;>rfl
 have J:(execOp a.eval ⟨some t,.binOp .eql U x (.const (.slice none 0 0)) U2,ty,pos,af,g⟩).run P w=.ok (.value (.bool A.isNone)) w:=by have e2:a.eval (.const (.slice none 0 0))=.slice none 0 0:=rfl;have h3:(eqGuard .eql U x (.const (.slice none 0 0)) (.slice A n c) (.slice none 0 0)).run P w=.ok () w:=rfl;have h4:binOp .eql U (.slice A n c) (.slice none 0 0)=(do pure (.bool (<-Op.equal U (.slice A n c) (.slice none 0 0)))):=rfl;simp only[execOp,e,e2,fh,h3,ft,h4,V,dA]
 unfold Gives
 rw[J]
 refine⟨⟨N,(t,.v (.c (.b A.isNone)))::tm,bx⟩,β,⟨_,hA,rfl⟩,rfl,?_⟩
 refine (hrel.value (x:=.v (.c (.b A.isNone))) W (fe _ _) (.b _) (by intro l hl;cases hl)).congr (fun s=>?_) (fun _=>rfl)
 show look s ((t,DV.v (.c (.b A.isNone)))::tm)=(if some t=some s then _ else look s tm)
 rw[aW]
 grind
theorem tB {f:Nat} (hU:VA P U f=some o') (J:cE T x=some (.v (.c (.p cs)))) (R:cs.drop o'=us) (hg:gd eO ⟨dst,.fieldAddr U x f,ty,pos,af,g⟩ T=some true):Sem P eO ⟨dst,.fieldAddr U x f,ty,pos,af,g⟩ T B (.r (.q us)):=
 bv hg (qV rfl) (fun V β a w hs=>by
  obtain⟨b,off,vs,hp,hb,hv,W,hc⟩:=RdC.ptr_eq (ap hs (by simp[Op.operands]) J);obtain⟨fs,fd,h1,I,h3,h4⟩:=FK hU;refine⟨.pointer (some ⟨b,off+o',none⟩),?_,b,off+o',vs.drop o',rfl,hb,hv,by rw[<-R];exact W.drop o',fun j u A=>?_⟩;·simp only[execOp,Instr.fieldAt,hp,Instr.sureAddr,fh,dA,ft,run_underlying h1,I,h4,fI]
  .rw[List.getElem?_drop] at A;rw[Nat.add_assoc];exact hc (o'+j) u A)
end
theorem agF {P:Program}{tm:List (Nat×DV)}{bx:List (Nat×TypeId×List CellD)}{c:Code}{Q:Exit->St->Prop}{t:Nat}(V:look t tm=some (.f n us)) (h:Dw P c ⟨N,(t,.v (.c (.s n us)))::tm,bx⟩ Q):Dw P c ⟨N,tm,bx⟩ Q:=fun av w0 β a w A=>by obtain⟨v,R,I⟩:=A.sees.tmp t _ trivial V;refine h av w0 β a w ((A.upd (x:=.v (.c (.s n us))) R I.2 rfl).congr (fun s=>?_) (fun _=>rfl));show look s ((t,.v (.c (.s n us)))::tm)=_;rw[aW];rfl
end Go.Proofs.YtegeknjkgadehaaGreat
