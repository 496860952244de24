/-Plain:a list of points made shorter in place:each value once. -/
import Derived.Test.YtegpmhlfjkhjmaaGreatYmQ
namespace Go.Proofs.YtegpmhlfjkhjmaaGreat
open Go Go.RowKit
variable {w:Bool}{k:Ci}{c e:Cv}{cs rs us:List CellD}{L L' M S:List Pt}{l:Ln}{c9 j off s:Nat}{f p q t:Pt}{m x:Rat}
theorem vm:type_of% @List.flatten_cons:=@List.flatten_cons
structure CpS (S:List Pt) (m:Nat) (Y:List Pt):Prop where
 len:Y.length=S.length
 m1:1≤m
 mn:m≤S.length
 lt:(bQ S m).length<m
 fst:Y.take (bQ S m).length=bQ S m
 rst:Y.drop (m-1)=S.drop (m-1)
section
variable {S Y:List Pt}{m:Nat}
theorem CpS.get (h:CpS S m Y) (hj:m-1≤j):Y.getD j dPt=S.getD j dPt:=by
 have e: ∀L:List Pt,L.getD j dPt=(L.drop (m-1)).getD (j-(m-1)) dPt:=fun L=>by
  rw[List.getD,List.getD,Df];congr 2;omega
 rw[e,h.rst,←e]
theorem CpS.start {k:Nat}(h0:0<k) (hk:k<S.length) (hS: ∀i,i+1<k→cP (S.getD (i+1) dPt) (S.getD i dPt)≠0) (he:cP (S.getD k dPt) (S.getD (k-1) dPt)=0):CpS S (k+1) S∧(bQ S (k+1)).length=k:=by
 have e1:bQ S (k+1)=S.take k:=(IG h0 he).trans (CS hS (by omega))
 have e2:(bQ S (k+1)).length=k:=by rw[e1,dH];omega
 exact⟨⟨rfl,by omega,by omega,by omega,by rw[e2,e1],rfl⟩,e2⟩
theorem CpS.old (h:CpS S m Y) (hm:m<S.length) (he:cP (S.getD m dPt) (S.getD (m-1) dPt)=0):CpS S (m+1) Y∧bQ S (m+1)=bQ S m:=by
 have e1:=IG (S:=S) h.m1 he
 have hr:Y.drop m=S.drop m:=by
  have:=congrArg (List.drop 1) h.rst
  rw[x7,x7,show m-1+1=m from by have:=h.m1;omega] at this
  exact this
 have:=h.lt
 exact⟨⟨h.len,by omega,by omega,by rw[e1];omega,by rw[e1];exact h.fst,hr⟩,e1⟩
theorem CpS.new (h:CpS S m Y) (hm:m<S.length) (he:cP (S.getD m dPt) (S.getD (m-1) dPt)≠0):CpS S (m+1) (Y.set (bQ S m).length (S.getD m dPt))∧(bQ S (m+1)).length=(bQ S m).length+1:=by
 have e1:=Ik (S:=S) he
 have e2:(bQ S (m+1)).length=(bQ S m).length+1:=by rw[e1,dt];rfl
 have hlt:=h.lt
 have hl:=h.len
 have hr:Y.drop m=S.drop m:=by
  have:=congrArg (List.drop 1) h.rst
  rw[x7,x7,show m-1+1=m from by have:=h.m1;omega] at this
  exact this
 refine⟨⟨by rw[xI];exact hl,by omega,by omega,by omega,?_,?_⟩,e2⟩
 ·rw[e2,e1,qj (d:=dPt) (by rw[xI];omega),List.take_set_of_le (cg _),h.fst]
  congr 1
  simp[List.getD,show(bQ S m).length<Y.length by omega]
 ·rw[show m+1-1=m from rfl,Cl (by omega),hr]
theorem KJ (h:S.length≤1):bQ S S.length=S:=by
 rw[CS (fun i hi=>by omega) (cg _),lI]
theorem OO (hS: ∀i,i+1<S.length→cP (S.getD (i+1) dPt) (S.getD i dPt)≠0):bQ S S.length=S:=by
 rw[CS hS (cg _),lI]
def zQs (n:Nat):List CellD:=(List.replicate n VT).flatten
theorem TJ (n:Nat):(zQs n).length=n*20:=by
 unfold zQs
 induction n with
 |zero=>rfl
 |succ n ih=>rw[List.replicate_succ,vm,dt,ih,show VT.length=20 from rfl];omega
theorem CpS.clr (h:CpS S m Y):(ao aj Y++rs).take ((bQ S m).length*20)++zQs (S.length-(bQ S m).length)++(ao aj Y++rs).drop ((bQ S m).length*20+(S.length-(bQ S m).length)*20)=ao aj (bQ S m)++(zQs (S.length-(bQ S m).length)++rs):=by
 have hl:=am ak Y
 have h1:=h.lt
 have h2:=h.mn
 have h3:=h.len
 rw[show(bQ S m).length*20+(S.length-(bQ S m).length)*20=(ao aj Y).length from by omega,List.drop_left,yy (by omega),pW ak,h.fst,nk]
end
def Ae (c:Cv) (D:List Pt) (n:Nat):List Pt:=(D.take n).filter (jB c)
def xl (c:Cv) (D:List Pt) (n:Nat):Pt:=(c.p::Ae c D n).getD (Ae c D n).length dPt
def G4 (c:Cv) (D:List Pt) (n:Nat):List Cv:=gI c (c.p::Ae c D n)
section
variable {c:Cv}{D:List Pt}{n:Nat}
theorem GF:(G4 c D n).length=(Ae c D n).length:=by unfold G4;rw[jg];rfl
theorem rR (h:n<D.length) (g:jB c (D.getD n dPt)=false):Ae c D (n+1)=Ae c D n:=by
 unfold Ae
 rw[qj (d:=dPt) h,vu,List.filter_cons,if_neg (by rw[g];decide)]
 simp
theorem rj (h:n<D.length) (g:jB c (D.getD n dPt)=true):Ae c D (n+1)=Ae c D n++[D.getD n dPt]:=by
 unfold Ae
 rw[qj (d:=dPt) h,vu,List.filter_cons,if_pos g]
 simp
theorem Fz (h:n<D.length) (g:jB c (D.getD n dPt)=false):xl c D (n+1)=xl c D n:=by unfold xl;rw[rR h g]
theorem K5 (h:n<D.length) (g:jB c (D.getD n dPt)=true):xl c D (n+1)=D.getD n dPt:=by
 unfold xl;rw[rj h g]
 simp[List.getD]
theorem Pm (h:n<D.length) (g:jB c (D.getD n dPt)=false):G4 c D (n+1)=G4 c D n:=by unfold G4;rw[rR h g]
theorem LI (h:n<D.length) (g:jB c (D.getD n dPt)=true):G4 c D (n+1)=G4 c D n++[c.ends (xl c D n) (D.getD n dPt)]:=by
 unfold G4 xl;rw[rj h g,x5]
theorem VP:Ae c D 0=[]:=by unfold Ae;simp
theorem acN:xl c D 0=c.p:=by unfold xl;rw[VP];rfl
theorem GI:tX c (D.filter (jB c))=G4 c D D.length++[c.ends (xl c D D.length) c.q]:=by
 unfold tX G4 xl Ae
 rw[lI,x5]
theorem Pg {x:Pt}(h:(cP x c.p==0)=true):jB c x=false:=by unfold jB;rw[h];rfl
theorem F7 {x:Pt}(h:(cP x c.p==0)=false):jB c x= !(cP x c.q==0):=by unfold jB;rw[h];rfl
end
section
variable {P:Program}{ops:Array Oper}{T:TF}{B:BF}{dst:Option Nat}{x i:Operand}{U:TypeId}{ty:TypeId}{pos:String}{af:Array Edge}{g:Option (Nat×Bool)}{n m c k q:Nat}{ki:IntKind}
theorem zl (hU:tF P U=some m) (hx:cG T x=some (.o k n c)) (hh:cG T i=some (.v (.c (.i ki q)))) (hq:q<n) (hnc:n≤c) (hg:gd ops ⟨dst,.slice U x (some i) none none,ty,pos,af,g⟩ T=some true):
 Sem P ops ⟨dst,.slice U x (some i) none none,ty,pos,af,g⟩ T B (.r (.w k (q*m) (n-q) (c-q))):=by
 have h:=rK (P:=P) (ops:=ops) (T:=T) (B:=B) (dst:=dst) (ty:=ty) (pos:=pos) (af:=af) (g:=g) (ki:=ki) hU hx hh (Nat.le_of_lt hq) hnc hg
 rw[if_pos (by omega)] at h
 exact h
theorem wm {j:Int}(hU:tF P U=some m) (hx:cG T x=some (.w k (q*m) n c)) (hi:cG T i=some (.v (.c (.i ki j)))) (hj:0≤j∧j<n) (hs:(q:Int)+j=s) (hg:gd ops ⟨dst,.indexAddr U x i,ty,pos,af,g⟩ T=some true):
 Sem P ops ⟨dst,.indexAddr U x i,ty,pos,af,g⟩ T B (.r (.p k (s*m))):=
 bL hg (fun k' e=>by
  obtain rfl:k=k':=by injection e
  exact pJ (ops:=ops) (o:=⟨dst,.indexAddr U x i,ty,pos,af,g⟩) (by simp[Op.operands]) hx rfl) (fun V β a w hs'=>by
  have e:a.eval x=.slice (some ⟨β k,q*m,none⟩) n c:=aD hs' (x:=x) (by simp[Op.operands]) hx
  have h2:=fT (aD hs' (x:=i) (by simp[Op.operands]) hi)
  unfold tF at hU
  split at hU
  case h_2=>cases hU
  rename_i el hul
  cases hinf:P.info? el with
  |none=>rw[hinf] at hU;cases hU
  |some inf=>
   rw[hinf] at hU
   simp at hU
   have es:s*m=q*m+j.toNat*m:=by rw[←oh];congr 1;omega
   refine⟨.pointer (some ⟨β k,s*m,none⟩),?_,rfl⟩
   have hso: ∀w,(sizeOf el).run P w=.ok m w:=fun w=>by unfold sizeOf typeInfo;simp[program,Sem.run,hinf,hU]
   rw[es]
   simp[execOp,Instr.indexAt,e,h2,asIntOf,run_underlying hul,hj.1,hj.2,hso,kg])
theorem NO (hU:tF P U=some m) (hx:cG T x=some (.w k off n c)) (hg:gd ops ⟨dst,.call ⟨.builtin .len,#[x],#[U]⟩,ty,pos,af,g⟩ T=some true):
 Sem P ops ⟨dst,.call ⟨.builtin .len,#[x],#[U]⟩,ty,pos,af,g⟩ T B (.r (.v (.c (.i .i64 n)))):=
 bL hg (pS rfl) (fun V β a w hs=>by
  have e:a.eval x=.slice (some ⟨β k,off,none⟩) n c:=aD hs (x:=x) (by simp[Op.operands,Call.operands]) hx
  unfold tF at hU
  split at hU
  ·rename_i el hu
   refine⟨.int .i64 n,?_,.i _ _⟩
   simp[execOp,resolve,invoke,builtin,Builtin.len_,e,run_underlying hu,goInt]
  ·cases hU)
def fvB (P:Program) (U:TypeId) (f:Nat):Option (Nat×Nat):=
 match P.underlying U with
 |some (.struct fs)=>match fs[f]? with
  |some fd=>match s5 P fd.type with
   |some (true,n)=>some (fd.offset,n)
   |_=>none
  |none=>none
 |_=>none
theorem JR {f:Nat}(hU:fvB P U f=some (off,n)) (hx:cG T x=some (.v (.a cs))) (hu:(cs.drop off).take n=us) (hg:gd ops ⟨dst,.field U x f,ty,pos,af,g⟩ T=some true):
 Sem P ops ⟨dst,.field U x f,ty,pos,af,g⟩ T B (.r (.v (.a us))):=
 bL hg (pS rfl) (fun V β a w hs=>by
  obtain⟨vs,e,hr⟩:=aD hs (x:=x) (by simp[Op.operands]) hx
  unfold fvB at hU
  split at hU
  case h_2=>cases hU
  rename_i fs hul
  split at hU
  case h_2=>cases hU
  rename_i fd hf
  split at hU
  case h_2=>cases hU
  rename_i m ht
  cases hU
  obtain⟨h1,h2⟩:=wH ht w
  refine⟨.agg (vs.extract fd.offset (fd.offset+n)),?_,_,rfl,?_⟩
  ·simp only[execOp,Instr.field,fb,run_underlying hul,fk,hf,e,asAgg,f6,part,h1,h2,if_true]
  ·rw[←hu]
   have:=(hr.drop fd.offset).take n
   rw[show(vs.extract fd.offset (fd.offset+n)).toList=(vs.toList.drop fd.offset).take n from by simp[List.take_drop]]
   exact this)
end
theorem adi (hS: ∀p∈S,GP p) (lS:S.length≤12) (hc9:S.length≤c9):OkT Tryz.prog 310 47 S.length c9 ((bQ S S.length).length) (ao aj S++rs) (ao aj (bQ S S.length)++(zQs (S.length-(bQ S S.length).length)++rs)) [.c (.f 220)]:=by
 refine OkT.of (K:=100000) (by kernel_rfl) Tryz.func310 rfl rfl rfl ?_
 rw[show Tryz.f310.ntmps=66 from rfl]
 refine aa<|ag<|aa<|aa<|ag<|ar (iq cE rfl rfl) ?_
 refine aJ rfl (fun hc1=>?_) (fun hc1=>?_)
 ·refine aa<|ag<|a7 ?_
  rw[KJ (by have:=of_decide_eq_true hc1;omega),Nat.sub_self]
  exact⟨.inr rfl,rfl,4,rfl,rfl⟩
 ·have h2:2≤S.length:=by have:=of_decide_eq_false hc1;omega
  refine aA<|aa<|aa<|ag<|aE<|bn (ι:={k:Nat // 1≤k∧k≤S.length∧ ∀i,i+1<k→cP (S.getD (i+1) dPt) (S.getD i dPt)≠0}) (fun i=>⟨66,[(0,.o 100000 S.length c9),(1,.v (.c (.f 220))),(5,.v (.c (.i .i64 (i.1:Int))))],[(100000,47,ao aj S++rs)]⟩) (fun i=>S.length-i.1) ⟨1,cg _,by omega,fun i hi=>absurd hi (by omega)⟩ (ap ⟨rfl,rfl,rfl,trivial⟩ ⟨rfl,trivial⟩ rfl) ?_
  rintro⟨k,hk1,hk2,hk3⟩
  replace hk1:1≤k:=hk1
  replace hk2:k≤S.length:=hk2
  replace hk3: ∀i,i+1<k→cP (S.getD (i+1) dPt) (S.getD i dPt)≠0:=hk3
  dsimp only
  refine aa<|aa<|ag<|ar (iq cE rfl rfl) ?_
  refine aJ rfl (fun hc2=>?_) (fun hc2=>?_)
  ·have g1:k<S.length:=by have:=of_decide_eq_true hc2;omega
   refine aA<|aa<|aE<|aa<|lX 11 rfl rfl<|cn 3<|ba (bo cE rfl rfl (by omega) rfl) ?_
   refine ba (ce (us:=aj (S.getD k dPt)) bq rfl rfl ((jP (e:=dPt) (O:=S) ak (by omega))) (ak _) rfl) ?_
   refine cn 2<|ba (ci (((k-1:Nat):Int)) ((bK (by omega) (by omega)).trans (congrArg some (by omega))) rfl)<|ba (bo cE rfl rfl (by omega) rfl) ?_
   refine ba (ce (us:=aj (S.getD (k-1) dPt)) bq rfl rfl ((jP (e:=dPt) (O:=S) ak (by omega))) (ak _) rfl) ?_
   refine ba (cb rfl (yN (GP.getD hS k) (GP.getD hS (k-1))))<|ln<|dG<|bt ?_
   refine aJ rfl (fun hc3=>?_) (fun hc3=>?_)
   ·have g2:cP (S.getD k dPt) (S.getD (k-1) dPt)=0:=by simpa using hc3
    obtain⟨cs1,cs2⟩:=CpS.start (by omega) g1 hk3 g2
    refine aa<|ag<|ar (zl (q:=k) cE rfl rfl (by omega) (by omega) rfl) ?_
    refine aa<|aa<|ag<|aE<|bn (ι:={x9:Nat×List Pt // 1≤x9.1∧CpS S (k+x9.1) x9.2}) (fun i=>⟨66,[(0,.o 100000 S.length c9),(1,.v (.c (.f 220))),(5,.v (.c (.i .i64 (((bQ S (k+i.1.1)).length:Int))))),(6,.w 100000 (k*20) (S.length-k) (c9-k)),(7,.v (.c (.i .i64 (i.1.1:Int))))],[(100000,47,ao aj i.1.2++rs)]⟩) (fun i=>S.length-(k+i.1.1)) ⟨(1,S),cg _,cs1⟩ (ap ⟨rfl,rfl,congrArg (fun q=>some (DV.v (.c (.i .i64 ((q:Nat):Int))))) cs2.symm,rfl,rfl,trivial⟩ ⟨rfl,trivial⟩ rfl) ?_
    rintro⟨⟨q,Y⟩,hq1,hC⟩
    replace hq1:1≤q:=hq1
    replace hC:CpS S (k+q) Y:=hC
    have hY:=hC.len
    have hlt:=hC.lt
    have hmn:=hC.mn
    dsimp only
    refine aa<|aa<|ag<|ar (NO cE rfl rfl) ?_
    refine aJ rfl (fun hc4=>?_) (fun hc4=>?_)
    ·have g3:k+q<S.length:=by have:=of_decide_eq_true hc4;omega
     refine aA<|aa<|aE<|aa<|lX 12 rfl rfl<|cn 3<|ba (wm (s:=(k+q)) cE rfl rfl (⟨by omega,by omega⟩) (by omega) rfl) ?_
     refine ba (ce (us:=aj (S.getD (k+q) dPt)) bq rfl rfl ((jP (e:=dPt) (O:=Y) ak (by omega)).trans (congrArg aj (hC.get (by omega)))) (ak _) rfl) ?_
     refine cn 2<|ba (ci (((q-1:Nat):Int)) ((bK (by omega) (by omega)).trans (congrArg some (by omega))) rfl)<|ba (wm (s:=(k+q-1)) cE rfl rfl (⟨by omega,by omega⟩) (by omega) rfl) ?_
     refine ba (ce (us:=aj (S.getD (k+q-1) dPt)) bq rfl rfl ((jP (e:=dPt) (O:=Y) ak (by omega)).trans (congrArg aj (hC.get (by omega)))) (ak _) rfl) ?_
     refine ba (cb rfl (yN (GP.getD hS (k+q)) (GP.getD hS (k+q-1))))<|yW<|dG<|bt ?_
     refine aJ rfl (fun hc5=>?_) (fun hc5=>?_)
     ·have g4:cP (S.getD (k+q) dPt) (S.getD (k+q-1) dPt)≠0:=by simpa using hc5
      obtain⟨n1,n2⟩:=hC.new g3 g4
      refine aa<|bm<|bU 4<|aU (wm (s:=(k+q)) cE rfl rfl (⟨by omega,by omega⟩) (by omega) rfl) ?_
      refine aU (ce (us:=aj (S.getD (k+q) dPt)) bq rfl rfl ((jP (e:=dPt) (O:=Y) ak (by omega)).trans (congrArg aj (hC.get (by omega)))) (ak _) rfl) ?_
      refine aU (bo cE rfl rfl (by omega) rfl) ?_
      refine gi (aY (us:=(ao aj (Y.set (bQ S (k+q)).length (S.getD (k+q) dPt)))++rs) bq rfl rfl rfl (ak _) (by rw[dt,am ak];omega) (wD ak (by omega) _) rfl) ?_
      refine bt<|ag<|ar (ci ((((bQ S (k+q)).length+1:Nat):Int)) ((bh (by omega) (by omega)).trans (congrArg some (by omega))) rfl)<|ag<|ar (ca (by omega) rfl) ?_
      exact⟨⟨(q+1,_),by show 1≤q+1;omega,n1⟩,ap ⟨rfl,rfl,congrArg (fun q=>some (DV.v (.c (.i .i64 ((q:Nat):Int))))) n2.symm,rfl,rfl,trivial⟩ ⟨rfl,trivial⟩ rfl,by show S.length-(k+(q+1))<S.length-(k+q);omega⟩
     ·have g4:cP (S.getD (k+q) dPt) (S.getD (k+q-1) dPt)=0:=by simpa using hc5
      obtain⟨n1,n2⟩:=hC.old g3 g4
      refine aA<|ag<|ar (ca (by omega) rfl) ?_
      exact⟨⟨(q+1,Y),by show 1≤q+1;omega,n1⟩,ap ⟨rfl,rfl,congrArg (fun q=>some (DV.v (.c (.i .i64 ((List.length q:Nat):Int))))) n2.symm,rfl,rfl,trivial⟩ ⟨rfl,trivial⟩ rfl,by show S.length-(k+(q+1))<S.length-(k+q);omega⟩
    ·have hm:k+q=S.length:=by have:=of_decide_eq_false hc4;omega
     refine bi<|aa<|ag<|ar (zl (q:=(((bQ S (k+q)).length:Int)).toNat) cE rfl rfl (by omega) (by omega) rfl) ?_
     refine pu (E7 (cs':=ao aj (bQ S (k+q))++(zQs (S.length-(bQ S (k+q)).length)++rs)) du rfl rfl (by rw[dt,am ak];omega) (hC.clr) rfl) ?_
     refine aa<|ag<|ar (ou (q:=(((bQ S (k+q)).length:Int)).toNat) cE rfl rfl (by omega) rfl) ?_
     refine a7 ?_
     rw[show bQ S S.length=bQ S (k+q) from by rw[hm]]
     exact⟨.inr rfl,rfl,4,rfl,rfl⟩
   ·have g2:cP (S.getD k dPt) (S.getD (k-1) dPt)≠0:=by simpa using hc3
    refine aA<|ag<|ar (ca (by omega) rfl) ?_
    exact⟨⟨k+1,by omega,g1,fun i hi=>(gO (i+1) k).elim (hk3 i) fun e=>by rw[show i+1=k from by omega,show i=k-1 from by omega];exact g2⟩,ap ⟨rfl,rfl,rfl,trivial⟩ ⟨rfl,trivial⟩ rfl,by show S.length-(k+1)<S.length-k;omega⟩
  ·have hk:k=S.length:=by have:=of_decide_eq_false hc2;omega
   have hN: ∀i,i+1<S.length→cP (S.getD (i+1) dPt) (S.getD i dPt)≠0:=fun i hi=>hk3 i (by omega)
   refine bi<|aa<|ag<|a7 ?_
   rw[OO hN,Nat.sub_self]
   exact⟨.inr rfl,rfl,4,rfl,rfl⟩
theorem ac3:Ok Tryz.prog 219 [.a (aC c),.c (.s 0 [])] [.c (.s 0 [])]:=by
 refine eo Tryz.func219 12 [.tmp 4] rfl<|aa<|ag<|aa<|ag<|ac rfl (adF)<|aa<|kO (t:=2) (k:=2) rfl rfl<|ag<|ar (qR (us:=[.p (aC c)]) rfl rfl) ?_
 refine ac rfl (Xx)<|aa<|ag<|ac rfl ((show Ok _ _ _ [.c (.s 0 [])] from ad2 (S:=[]) (fun p h=>by cases h) (eF _) (fun i h=>by cases h)))<|a7 ?_
 exact ah (az ae)
theorem nK (hp:0≤p.c) (hq:0≤q.c) (h:cP p q=0):cP q p=0:=by rw[fH hp hq,h];rfl
theorem AX {r:Pt}(hp:0≤p.c) (hq:0≤q.c) (hr:0≤r.c) (h:cP p q=0) (g:cP q r=0):cP p r=0:=by
 obtain⟨g1,g2⟩:=eP.1 g
 exact eP.2 ⟨(wS hp hq h hr).trans g1,(Cg hp hq h hr).trans g2⟩
def mu (c:Cv) (L:List Pt):List Pt:=(bQ (bp dPt (bT c) L) L.length).filter (jB c)
section
variable {k:Ci}{w:Bool}{f t:Pt}(vc:CvV (.arc k w f t))
include vc
theorem H5 (hM:M.Pairwise fun p q=>(Cv.arc k w f t).ord p q<0) (hI: ∀x∈M,OnK k x∧(Cv.arc k w f t).inner x=true):(f::(M++[t])).Pairwise (fun p q=>(Cv.arc k w f t).ord p q<0)∧ ∀p∈f::(M++[t]),OnK k p:=by
 have of:=(D7 vc).1
 have ot:=(D7 vc).2
 have hon: ∀x,(Cv.arc k w f t).on x=true→OnK k x→(Cv.arc k w f t).ord x t≤0:=fun x hx ox=>(Cn.1 hx).2.2
 refine⟨List.pairwise_cons.2 ⟨fun x hx=>?_,xN.2 ⟨hM,C3 _ _,fun x hx y hy=>?_⟩⟩,fun x hx=>?_⟩
 ·rcases mW.1 hx with hx|hx
  ·exact JQ vc of (hI x hx).1 (zS of (hI x hx).1) (pZ.1 (hI x hx).2).2.1
  ·rw[nD.1 hx];exact JQ vc of ot (zS of ot) vc.ne
 ·rw[nD.1 hy]
  exact JQ vc (hI x hx).1 ot (hon x (P4 (hI x hx).2) (hI x hx).1) (OM vc.g (hI x hx).1.1 (hI x hx).2).2
 ·rcases dD.1 hx with rfl|hx
  ·exact of
  ·rcases mW.1 hx with hx|hx
   ·exact(hI x hx).1
   ·rw[nD.1 hx];exact ot
theorem Oh (hM:M.Pairwise fun p q=>(Cv.arc k w f t).ord p q<0) (hI: ∀x∈M,OnK k x∧(Cv.arc k w f t).inner x=true):cz (.arc k w f t) ([f,t]++M)=f::(M++[t]):=by
 have of:=(D7 vc).1
 obtain⟨h1,h2⟩:=H5 vc hM hI
 have hTL:(f::(M++[t])).Perm ([f,t]++M):=List.Perm.cons f List.perm_append_comm
 have hLon: ∀y∈ [f,t]++M,OnK k y:=fun y hy=>h2 y (hTL.mem_iff.2 hy)
 obtain⟨g1,g2⟩:=AN (k:=k) (w:=w) (f:=f) (t:=t) vc.pos of hLon
 have hne: ∀ {a b:Pt},OnK k a→OnK k b→(Cv.arc k w f t).ord a b<0→cP a b≠0:=fun oa ob h=>se vc.g oa.1 ob.1 h
 have hself: ∀x,OnK k x→ ¬(Cv.arc k w f t).ord x x<0:=fun x ox h=>hne ox ox h (mi (bk ox))
 have pw:(f::(M++[t])).Pairwise fun a b=>cP a b≠0:=ug (fun{a b} ha hb h=>hne (h2 a ha) (h2 b hb) h) h1
 have same:=Lp (fun a ha b hb e=>nK (bk (h2 a ha)) (bk (h2 b hb)) e) pw
 have nd: ∀ {L:List Pt},(∀y∈L,OnK k y)→L.Pairwise (fun p q=>(Cv.arc k w f t).ord p q<0)→L.Nodup:=fun ho hs=>ug (fun{a b} ha _ hab e=>by subst e;exact hself a (ho a ha) hab) hs
 have hm: ∀z∈cz (.arc k w f t) ([f,t]++M),z∈f::(M++[t]):=fun z hz=>hTL.mem_iff.2 (mI hz)
 refine CZ (fun a ha b hb g g3=>?_) ((List.perm_ext_iff_of_nodup (nd (fun y hy=>h2 y (hm y hy)) g1) (nd h2 h1)).2 fun z=>⟨hm z,fun hz=>?_⟩) g1 h1
 ·have:=jX (w:=w) (t:=t) of (h2 a (hm a ha)) (h2 b (hm b hb))
  omega
 ·obtain⟨y,hy,e⟩:=g2 z (hTL.mem_iff.1 hz)
  rw[←same y (hm y hy) z hz e];exact hy
section
variable {L:List Pt}(hL: ∀p∈L,GP p∧(Cv.arc k w f t).on p=true)
include hL
theorem Fs:(mu (.arc k w f t) L).Pairwise (fun p q=>(Cv.arc k w f t).ord p q<0)∧(∀x∈mu (.arc k w f t) L,(OnK k x∧(Cv.arc k w f t).inner x=true)∧x∈L)∧ ∀x∈L,(∃y∈mu (.arc k w f t) L,cP y x=0)∨cP f x=0∨cP t x=0:=by
 have of:=(D7 vc).1
 have ot:=(D7 vc).2
 have hp:=kU (e:=dPt) (C:=bT (.arc k w f t)) L
 have hlen:=fL (e:=dPt) (C:=bT (.arc k w f t)) L
 have oL: ∀x∈L,OnK k x:=fun x hx=>Af (hL x hx).1 (hL x hx).2
 have heq: ∀x∈L,∀y∈L,bT (.arc k w f t) x y=(Cv.arc k w f t).ord x y:=fun x hx y hy=>Ud vc rfl (hL x hx).1 (hL y hy).1 (hL x hx).2 (hL y hy).2
 have hs:=wQ (e:=dPt) (C:=bT (.arc k w f t)) (G:=fun p=>p∈L) (fun x y hx hy=>by
  rw[heq x hx y hy,heq y hy x hx];exact jX of (oL x hx) (oL y hy)) (fun x y z hx hy hz h1 h2=>by
  rw[heq x hx y hy] at h1
  rw[heq y hy z hz] at h2
  rw[heq x hx z hz]
  exact HS (tO of (oL x hx) (oL y hy) (oL z hz)) h1 h2) L (O:=[]) (fun y hy=>hy) (fun y hy=>by cases hy) .nil
 have hs:(bp dPt (bT (.arc k w f t)) L).Pairwise fun a b=>(Cv.arc k w f t).ord a b≤0:=ug (fun{a b} ha hb g=>by rw[←heq a (hp.mem_iff.1 ha) b (hp.mem_iff.1 hb)];exact g) hs
 have oS: ∀x∈bp dPt (bT (.arc k w f t)) L,OnK k x:=fun x hx=>oL x (hp.mem_iff.1 hx)
 have hn:L.length≤(bp dPt (bT (.arc k w f t)) L).length:=by omega
 have hd:=OA (C:=(Cv.arc k w f t).ord) (G:=OnK k) (fun x y hx hy=>jX of hx hy) (fun x y z hx hy hz h1 h2=>HS (tO of hx hy hz) h1 h2) (fun x y hx hy e=>nK (bk hx) (bk hy) (uW vc.pos of hx hy e)) oS hs hn
 have mL: ∀x∈bQ (bp dPt (bT (.arc k w f t)) L) L.length,x∈L:=fun x hx=>hp.mem_iff.1 (H4 hn hx)
 have nz: ∀ {a b:Pt},OnK k a→OnK k b→(!(cP a b==0))=true→cP b a≠0:=fun oa ob h e=>by
  rw[nK (bk ob) (bk oa) e] at h;cases h
 refine⟨List.Pairwise.filter _ hd,fun x hx=>?_,fun x hx=>?_⟩
 ·obtain⟨h1,h2⟩:=mx.1 hx
  have hxL:=mL x h1
  unfold jB at h2
  rw[dL] at h2
  exact⟨⟨oL x hxL,pZ.2 ⟨(hL x hxL).2,nz (oL x hxL) of h2.1,nz (oL x hxL) ot h2.2⟩⟩,hxL⟩
 ·obtain⟨i,hi,e⟩:=List.mem_iff_getElem.1 (hp.mem_iff.2 hx)
  obtain⟨y,hy,e2⟩:=QI (S:=bp dPt (bT (.arc k w f t)) L) (fun p h=>bk (oS p h)) hn (show i<L.length by omega)
  rw[show(bp dPt (bT (.arc k w f t)) L).getD i dPt=x from by rw[List.getD,f9 hi];exact e] at e2
  have oy:=oL y (mL y hy)
  cases g:jB (.arc k w f t) y with
  |true=>exact .inl ⟨y,mx.2 ⟨hy,g⟩,e2⟩
  |false=>
   unfold jB at g
   have ox:=oL x hx
   cases g1:cP y f==0 with
   |true=>
    have z:cP y f=0:=beq_iff_eq.1 g1
    exact .inr (.inl (AX (bk of) (bk oy) (bk ox) (nK (bk oy) (bk of) z) e2))
   |false=>
    have z:cP y t=0:=by
     have g:(!(cP y f==0)&& !(cP y t==0))=false:=g
     rw[g1] at g
     simpa using g
    exact .inr (.inr (AX (bk ot) (bk oy) (bk ox) (nK (bk oy) (bk ot) z) e2))
theorem Du:tX (.arc k w f t) (mu (.arc k w f t) L)=iU (.arc k w f t) (mu (.arc k w f t) L):=by
 obtain⟨h1,h2,_⟩:=Fs vc hL
 show gI _ (f::(mu (.arc k w f t) L++[t]))=gI _ (cz (.arc k w f t) ([f,t]++mu (.arc k w f t) L))
 rw[Oh vc h1 fun x hx=>(h2 x hx).1]
theorem Uf (hL': ∀p∈L',GP p∧(Cv.arc k w f t).on p=true) (h12: ∀x∈L,∃y∈L',cP x y=0) (h21: ∀y∈L',∃x∈L,cP y x=0):
 ∃T T':List Pt,tX (.arc k w f t) (mu (.arc k w f t) L)=gI (.arc k w f t) T∧iU (.arc k w f t) L'=gI (.arc k w f t) T'∧T.length=T'.length∧2≤T.length∧T.length≤L.length+2∧(∀i,i<T.length→cP (T.getD i dPt) (T'.getD i dPt)=0)∧
  (∀x∈T,OnK k x)∧(∀x∈T',OnK k x)∧T.Pairwise (fun p q=>(Cv.arc k w f t).ord p q<0)∧T'.Pairwise (fun p q=>(Cv.arc k w f t).ord p q<0)∧T.getD 0 dPt=f∧T.getD (T.length-1) dPt=t:=by
 have of:=(D7 vc).1
 have ot:=(D7 vc).2
 obtain⟨h1,h2,h3⟩:=Fs vc hL
 obtain⟨s1,s2⟩:=H5 vc h1 fun x hx=>(h2 x hx).1
 have oL': ∀y∈ [f,t]++L',OnK k y:=fun y hy=>by
  rcases mW.1 hy with hy|hy
  ·simp only[dD,qS,or_false] at hy
   rcases hy with rfl|rfl<;>assumption
  ·exact Af (hL' y hy).1 (hL' y hy).2
 obtain⟨g1,g2⟩:=AN (k:=k) (w:=w) (f:=f) (t:=t) vc.pos of oL'
 have o2: ∀y∈cz (.arc k w f t) ([f,t]++L'),OnK k y:=fun y hy=>oL' y (mI hy)
 have z0: ∀ {a b:Pt},OnK k a→OnK k b→cP a b=0→(Cv.arc k w f t).ord a b=0:=fun oa ob h=>wl (bk oa) (bk ob) h vc.g
 have hlen:(f::(mu (.arc k w f t) L++[t])).length=(mu (.arc k w f t) L).length+2:=by simp
 have hle:(mu (.arc k w f t) L).length≤L.length:=iO (tx _ _) y7
 have k1: ∀a∈f::(mu (.arc k w f t) L++[t]),∃b∈cz (.arc k w f t) ([f,t]++L'),(Cv.arc k w f t).ord a b=0:=by
  intro a ha
  have oa:=s2 a ha
  have fnd: ∀y∈ [f,t]++L',cP a y=0→ ∃b∈cz (.arc k w f t) ([f,t]++L'),(Cv.arc k w f t).ord a b=0:=fun y hy e=>by
   obtain⟨z,hz,e3⟩:=g2 y hy
   have oy:=oL' y hy
   have oz:=o2 z hz
   exact⟨z,hz,z0 oa oz (AX (bk oa) (bk oy) (bk oz) e (nK (bk oz) (bk oy) e3))⟩
  rcases dD.1 ha with rfl|ha
  ·exact fnd a (by simp) (mi (bk oa))
  ·rcases mW.1 ha with ha|ha
   ·obtain⟨y,hy,e⟩:=h12 a (h2 a ha).2
    exact fnd y (by simp[hy]) e
   ·rw[nD.1 ha] at fnd⊢
    exact fnd t (by simp) (mi (bk ot))
 have k2: ∀b∈cz (.arc k w f t) ([f,t]++L'),∃a∈f::(mu (.arc k w f t) L++[t]),(Cv.arc k w f t).ord a b=0:=by
  intro b hb
  have ob:=o2 b hb
  have inT: ∀x∈f::(mu (.arc k w f t) L++[t]),cP x b=0→ ∃a∈f::(mu (.arc k w f t) L++[t]),(Cv.arc k w f t).ord a b=0:=fun x hx e=>⟨x,hx,z0 (s2 x hx) ob e⟩
  rcases mW.1 (mI hb) with hb2|hb2
  ·simp only[dD,qS,or_false] at hb2
   rcases hb2 with rfl|rfl
   ·exact inT b (by simp) (mi (bk ob))
   ·exact inT b (by simp) (mi (bk ob))
  ·obtain⟨x,hx,e⟩:=h21 b hb2
   have ox:=Af (hL x hx).1 (hL x hx).2
   have e':=nK (bk ob) (bk ox) e
   rcases h3 x hx with⟨y,hy,ey⟩|ey|ey
   ·exact inT y (by simp[hy]) (AX (bk (h2 y hy).1.1) (bk ox) (bk ob) ey e')
   ·exact inT f (by simp) (AX (bk of) (bk ox) (bk ob) ey e')
   ·exact inT t (by simp) (AX (bk ot) (bk ox) (bk ob) ey e')
 obtain⟨e1,e2⟩:=L6 (e:=dPt) (C:=(Cv.arc k w f t).ord) (G:=OnK k) (fun x y hx hy=>jX of hx hy) (fun x y z hx hy hz h1 h2=>HS (tO of hx hy hz) h1 h2) s2 o2 s1 g1 k1 k2
 refine⟨f::(mu (.arc k w f t) L++[t]),cz (.arc k w f t) ([f,t]++L'),rfl,rfl,e1,by omega,by omega,fun i hi=>?_,s2,o2,s1,g1,rfl,?_⟩
 ·exact uW vc.pos of (s2 _ (bd hi)) (o2 _ (bd (by omega))) (e2 i hi)
 ·rw[hlen,show(mu (.arc k w f t) L).length+2-1=(mu (.arc k w f t) L).length+1 from by omega]
  simp[List.getD]
end
end
theorem Ks (c:Cv): ∀ {T:List Pt}{i:Nat},i+1<T.length→(gI c T).getD i aX=c.ends (T.getD i dPt) (T.getD (i+1) dPt)
 |p::q::l,0,_=>rfl
 |p::q::l,i+1,h=>Ks c (T:=q::l) (by simpa using h)
 |[_],i,h=>by simp at h
 |[],i,h=>by simp at h
theorem abb (vc:CvV c) (ha:c.isArc=true) (hG: ∀p∈L,GP p) (lL:L.length≤12) (hl:0<L.length):Ok Tryz.prog 219 [.a (aC c),.c (.s ((L).length) (ao aj (L)))] [.c (.s ((bQ (bp dPt (bT c) L) L.length).length) (ao aj (bQ (bp dPt (bT c) L) L.length)))]:=by
 have hS: ∀p∈(bp dPt (bT c) L),GP p:=fun p h=>hG p ((kU _).mem_iff.1 h)
 have lS:(bp dPt (bT c) L).length≤12:=by rw[fL];exact lL
 have lD:(bQ (bp dPt (bT c) L) L.length).length≤L.length:=y7
 refine eo Tryz.func219 12 [.tmp 4] rfl<|aa<|ag<|aa<|bm<|bU 1 ?_
 refine yB rfl rfl (adg hl lL) rfl rfl (fun cg1 rg1 hga1 hgb1 hgc1=>?_)
 refine ed<|aa<|kO (t:=2) (k:=2) rfl rfl<|ag<|ar (qR (us:=[.p (aC c)]) rfl rfl) ?_
 refine DL.mk<|sO (kP rfl rfl rfl rfl rfl (acz vc ha hl lL hG) rfl)<|dZ ?_
 refine aa<|bm<|bU 1<|Hi rfl rfl rfl rfl rfl ((by have h9:=adi (S:=(bp dPt (bT c) L)) (c9:=cg1) (rs:=rg1) hS lS (by rw[fL];exact hga1);rw[fL] at h9;exact h9)) rfl ?_
 refine ed<|cB (t:=4) (m:=20) (us:=ao aj (bQ (bp dPt (bT c) L) L.length)) rfl rfl (jw (n:=(bQ (bp dPt (bT c) L) L.length).length) (am ak _) (by rw[dt,TJ];omega) (by omega)) (by omega) (by assumption) (gn (am ak _))<|a7 ?_
 exact ah (az ae)
theorem adZ (vc:CvV c) (ha:c.isArc=true) (hG: ∀p∈L,GP p) (lL:L.length≤12):Ok Tryz.prog 219 [.a (aC c),.c (.s ((L).length) (ao aj (L)))] [.c (.s ((bQ (bp dPt (bT c) L) L.length).length) (ao aj (bQ (bp dPt (bT c) L) L.length)))]:=by
 rcases jn L.length with h|h
 ·obtain rfl:=jQ.1 h
  exact ac3
 ·exact abb vc ha hG lL h
theorem Yf (vc:CvV c) (ha:c.isArc=true) (hG: ∀p∈L,GP p) (lL:L.length≤12) (hon: ∀p∈L,c.on p=true):OkN Tryz.prog 124 [.a (aC c),.c (.s ((L).length) (ao aj (L)))] 49 ((tX c (mu c L)).length) 66 (ao aC (tX c (mu c L))) [.c (.i .i64 0)]:=by
 have hD: ∀p∈(bQ (bp dPt (bT c) L) L.length),GP p:=fun p h=>hG p ((kU _).mem_iff.1 (H4 (by rw[fL];exact cg _) h))
 have lD:(bQ (bp dPt (bT c) L) L.length).length≤L.length:=y7
 refine OkN.of (by kernel_rfl) Tryz.func124 rfl rfl ?_
 rw[show Tryz.f124.ntmps=47 from rfl]
 refine aa<|bm<|bU 1<|aU (eg rfl) ?_
 refine ed<|aa<|aa<|kO (t:=2) (k:=2) rfl rfl<|ag<|ar (qR (us:=[.p (aC c)]) rfl rfl) ?_
 refine ac rfl (adh vc ha hG lL hon)<|bz rfl<|aA<|aa<|bm<|aU (eg rfl) ?_
 refine bt<|aa<|ag<|ar (mw (us:=aC c) bO rfl (jm (qx (ai _))) (ai _) rfl) ?_
 refine pu (cZ bO rfl rfl rfl (ai _) rfl rfl) ?_
 refine aa<|aa<|ag<|ar (mw (us:=aC c) bO rfl (jm (qx (ai _))) (ai _) rfl) ?_
 refine ac rfl (adZ vc ha hG lL) ?_
 refine aE ?_
 refine bn (ι:=Sum ({n:Nat // n≤(bQ (bp dPt (bT c) L) L.length).length∧(Ae c (bQ (bp dPt (bT c) L) L.length) n)=[]}) ({x9:Nat×Nat×List CellD // x9.1≤(bQ (bp dPt (bT c) L) L.length).length∧(Ae c (bQ (bp dPt (bT c) L) L.length) x9.1).length≤x9.2.1∧x9.2.1≤maxLen∧x9.2.2.length=(x9.2.1-(Ae c (bQ (bp dPt (bT c) L) L.length) x9.1).length)*66})) (fun i=>match i with| .inl i=>⟨47,[(2,.v (.c (.p (aC c)))),(7,.p 7 0),(17,.v (.c (.s ((bQ (bp dPt (bT c) L) L.length).length) (ao aj (bQ (bp dPt (bT c) L) L.length))))),(6,.z),(18,.v (.c (.i .i64 (((bQ (bp dPt (bT c) L) L.length).length:Int))))),(19,.v (.c (.i .i64 (i.1:Int))))],[(7,49,aC ((c.ends (xl c (bQ (bp dPt (bT c) L) L.length) i.1) c.q)))]⟩| .inr i=>⟨47,[(2,.v (.c (.p (aC c)))),(7,.p 7 0),(17,.v (.c (.s ((bQ (bp dPt (bT c) L) L.length).length) (ao aj (bQ (bp dPt (bT c) L) L.length))))),(6,.o 41 ((Ae c (bQ (bp dPt (bT c) L) L.length) i.1.1).length) i.1.2.1),(18,.v (.c (.i .i64 (((bQ (bp dPt (bT c) L) L.length).length:Int))))),(19,.v (.c (.i .i64 (i.1.1:Int))))],[(7,49,aC ((c.ends (xl c (bQ (bp dPt (bT c) L) L.length) i.1.1) c.q))),(41,49,ao aC (G4 c (bQ (bp dPt (bT c) L) L.length) i.1.1)++i.1.2.2)]⟩) (fun i=>match i with| .inl i=>(bQ (bp dPt (bT c) L) L.length).length-i.1| .inr i=>(bQ (bp dPt (bT c) L) L.length).length-i.1.1) (.inl ⟨0,eF _,VP⟩) (ap ⟨rfl,rfl,rfl,rfl,rfl,rfl,trivial⟩ ⟨congrArg (fun q=>some (49,aC q)) (by rw[acN,NC]),trivial⟩ rfl) ?_
 rintro(⟨n,h2,h3⟩|⟨⟨n,c9,rs⟩,h2,h3,h4,h5⟩)
 ·replace h2:n≤(bQ (bp dPt (bT c) L) L.length).length:=h2
  replace h3:(Ae c (bQ (bp dPt (bT c) L) L.length) n)=[]:=h3
  dsimp only
  refine aa<|ag<|aa ?_
  refine aJ rfl (fun hc1=>?_) (fun hc1=>?_)
  ·have g1:n<(bQ (bp dPt (bT c) L) L.length).length:=by have:=of_decide_eq_true hc1;omega
   have hx:=hD _ (bd (d:=dPt) g1)
   refine aA<|aa<|aE<|aa<|ag<|ar (fl dPt ak g1 cE rfl)<|ar (iK ak bq rfl)<|aa<|aa<|ag ?_
   refine ar (uo J8 rfl rfl rfl) ?_
   refine ar (ck (us:=aj c.p) bq rfl (mY _) rfl rfl) ?_
   refine ac rfl (yN hx (iT vc.g)) ?_
   refine jU (bE rfl) (fun c2 hb2=>?_)
   cases c2
   ·refine ar (uo AD rfl rfl rfl) ?_
    refine ar (ck (us:=aj c.q) bq rfl (uC _) rfl rfl) ?_
    refine ac rfl (yN hx (sv vc.g)) ?_
    refine aJ rfl (fun hc3=>?_) (fun hc3=>?_)
    ·have g2:jB c ((bQ (bp dPt (bT c) L) L.length).getD n dPt)=false:=(F7 hb2).trans (by rw[hc3];rfl)
     refine bi<|ag<|ar (ca (by omega) rfl) ?_
     exact⟨.inl ⟨n+1,g1,by rw[rR g1 g2];exact h3⟩,ap ⟨rfl,rfl,rfl,rfl,rfl,rfl,trivial⟩ ⟨congrArg (fun q=>some (49,aC (c.ends q c.q))) (Fz g1 g2).symm,trivial⟩ rfl,by show(bQ (bp dPt (bT c) L) L.length).length-(n+1)<(bQ (bp dPt (bT c) L) L.length).length-n;omega⟩
    ·have g2:jB c ((bQ (bp dPt (bT c) L) L.length).getD n dPt)=true:=(F7 hb2).trans (by rw[hc3];rfl)
     refine aA<|aa<|ag ?_
     refine ar (kV (ai _) bO rfl) ?_
     refine pu (cZ bO rfl rfl rfl (ai _) rfl rfl) ?_
     refine aa<|dC 6 [10,7,999999] ?_
     refine DQ.mk<|iE (aY (us:=aC (((c.ends (xl c (bQ (bp dPt (bT c) L) L.length) n) c.q)).ends ((c.ends (xl c (bQ (bp dPt (bT c) L) L.length) n) c.q)).p ((((bQ (bp dPt (bT c) L) L.length).getD n dPt))))) bq rfl rfl rfl rfl (by rw[ai];decide) (wz _ _) rfl) rfl rfl rfl rfl<|dF ?_
     refine DQ.mk<|iE (aY (us:=aC (((c.ends (xl c (bQ (bp dPt (bT c) L) L.length) n) c.q)).setp ((((bQ (bp dPt (bT c) L) L.length).getD n dPt))))) bq rfl rfl rfl rfl (by rw[ai];decide) (wT _ _) rfl) rfl rfl rfl rfl<|dF ?_
     refine ag ?_
     refine ar (kV (ai _) bO rfl) ?_
     refine ar (bV (n:=1) (us:=aC (((c.ends (xl c (bQ (bp dPt (bT c) L) L.length) n) c.q)).ends ((c.ends (xl c (bQ (bp dPt (bT c) L) L.length) n) c.q)).p ((((bQ (bp dPt (bT c) L) L.length).getD n dPt))))) lp rfl (vh rfl (ai _)) (d7 (ai _)) (by decide) (by decide) rfl) ?_
     refine DL.mk<|lq (ys:=aC (((c.ends (xl c (bQ (bp dPt (bT c) L) L.length) n) c.q)).ends ((c.ends (xl c (bQ (bp dPt (bT c) L) L.length) n) c.q)).p ((((bQ (bp dPt (bT c) L) L.length).getD n dPt))))) lp rfl rfl (d7 (ai _)) (by decide) (by decide) (by decide) rfl rfl (fun cg4 rg4 hga4 hgb4 hgc4=>dZ ?_)
     refine ag<|ar (ca (by omega) rfl) ?_
     exact⟨.inr ⟨⟨n+1,cg4,rg4⟩,g1,by show(Ae c (bQ (bp dPt (bT c) L) L.length) (n+1)).length≤cg4;rw[rj g1 g2,h3];exact hga4,hgb4,by show rg4.length=(cg4-(Ae c (bQ (bp dPt (bT c) L) L.length) (n+1)).length)*66;rw[rj g1 g2,h3];exact hgc4⟩,ap ⟨rfl,rfl,rfl,congrArg (fun q=>some (DV.o 41 q cg4)) (by rw[rj g1 g2,h3];rfl),rfl,rfl,trivial⟩ ⟨congrArg (fun q=>some (49,aC q)) (by rw[EA,K5 g1 g2]),congrArg (fun q=>some (49,q++rg4)) (by rw[LI g1 g2,dB,dW,EH,show(G4 c (bQ (bp dPt (bT c) L) L.length) n)=[] from by unfold G4;rw[h3];rfl];rfl),trivial⟩ rfl,by show(bQ (bp dPt (bT c) L) L.length).length-(n+1)<(bQ (bp dPt (bT c) L) L.length).length-n;omega⟩
   ·have g2:jB c ((bQ (bp dPt (bT c) L) L.length).getD n dPt)=false:=Pg hb2
    refine dO rfl<|bi<|ag<|ar (ca (by omega) rfl) ?_
    exact⟨.inl ⟨n+1,g1,by rw[rR g1 g2];exact h3⟩,ap ⟨rfl,rfl,rfl,rfl,rfl,rfl,trivial⟩ ⟨congrArg (fun q=>some (49,aC (c.ends q c.q))) (Fz g1 g2).symm,trivial⟩ rfl,by show(bQ (bp dPt (bT c) L) L.length).length-(n+1)<(bQ (bp dPt (bT c) L) L.length).length-n;omega⟩
  ·have hp:n=(bQ (bp dPt (bT c) L) L.length).length:=by have:=of_decide_eq_false hc1;omega
   have hO:(G4 c (bQ (bp dPt (bT c) L) L.length) n)=[]:=by unfold G4;rw[h3];rfl
   have eC:(tX c (mu c L))=[c.ends (xl c (bQ (bp dPt (bT c) L) L.length) n) c.q]:=by show tX c ((bQ (bp dPt (bT c) L) L.length).filter (jB c))=_;rw[GI,←hp,hO];rfl
   have eN:(tX c (mu c L)).length=1:=by rw[eC];rfl
   refine bi<|aa<|ag ?_
   refine ar (kV (ai _) bO rfl) ?_
   refine ar (bV (n:=1) (us:=aC ((c.ends (xl c (bQ (bp dPt (bT c) L) L.length) n) c.q))) lp rfl (vh rfl (ai _)) (d7 (ai _)) (by decide) (by decide) rfl) ?_
   refine DL.mk<|lq (ys:=aC ((c.ends (xl c (bQ (bp dPt (bT c) L) L.length) n) c.q))) lp rfl rfl (d7 (ai _)) (by decide) (by decide) (by decide) rfl rfl (fun cg5 rg5 hga5 hgb5 hgc5=>dZ ?_)
   refine a7 ?_
   exact⟨.inr rfl,4,46,cg5,[.tmp 5],rg5,rfl,congrArg (fun q=>some (DV.o 46 q cg5)) (eN.symm),congrArg (fun q=>some (49,q++rg5)) (by rw[eC,dW]),by omega,by assumption,by rw[eN];assumption,(az ae)⟩
 ·dsimp only at h2 h3 h4 h5
  have h6:(Ae c (bQ (bp dPt (bT c) L) L.length) n).length≤12:=iO (tx _ _) (by rw[dH];omega)
  dsimp only
  refine aa<|ag<|aa ?_
  refine aJ rfl (fun hc6=>?_) (fun hc6=>?_)
  ·have g1:n<(bQ (bp dPt (bT c) L) L.length).length:=by have:=of_decide_eq_true hc6;omega
   have hx:=hD _ (bd (d:=dPt) g1)
   refine aA<|aa<|aE<|aa<|ag<|ar (fl dPt ak g1 cE rfl)<|ar (iK ak bq rfl)<|aa<|aa<|ag ?_
   refine ar (uo J8 rfl rfl rfl) ?_
   refine ar (ck (us:=aj c.p) bq rfl (mY _) rfl rfl) ?_
   refine ac rfl (yN hx (iT vc.g)) ?_
   refine jU (bE rfl) (fun c7 hb7=>?_)
   cases c7
   ·refine ar (uo AD rfl rfl rfl) ?_
    refine ar (ck (us:=aj c.q) bq rfl (uC _) rfl rfl) ?_
    refine ac rfl (yN hx (sv vc.g)) ?_
    refine aJ rfl (fun hc8=>?_) (fun hc8=>?_)
    ·have g2:jB c ((bQ (bp dPt (bT c) L) L.length).getD n dPt)=false:=(F7 hb7).trans (by rw[hc8];rfl)
     refine bi<|ag<|ar (ca (by omega) rfl) ?_
     exact⟨.inr ⟨⟨n+1,c9,rs⟩,g1,by show(Ae c (bQ (bp dPt (bT c) L) L.length) (n+1)).length≤c9;rw[rR g1 g2];exact h3,h4,by show rs.length=(c9-(Ae c (bQ (bp dPt (bT c) L) L.length) (n+1)).length)*66;rw[rR g1 g2];exact h5⟩,ap ⟨rfl,rfl,rfl,congrArg (fun q=>some (DV.o 41 (List.length q) c9)) (rR g1 g2).symm,rfl,rfl,trivial⟩ ⟨congrArg (fun q=>some (49,aC (c.ends q c.q))) (Fz g1 g2).symm,congrArg (fun q=>some (49,ao aC q++rs)) (Pm g1 g2).symm,trivial⟩ rfl,by show(bQ (bp dPt (bT c) L) L.length).length-(n+1)<(bQ (bp dPt (bT c) L) L.length).length-n;omega⟩
    ·have g2:jB c ((bQ (bp dPt (bT c) L) L.length).getD n dPt)=true:=(F7 hb7).trans (by rw[hc8];rfl)
     refine aA<|aa<|ag ?_
     refine ar (kV (ai _) bO rfl) ?_
     refine pu (cZ bO rfl rfl rfl (ai _) rfl rfl) ?_
     refine aa<|dC 6 [10,7,999999] ?_
     refine DQ.mk<|iE (aY (us:=aC (((c.ends (xl c (bQ (bp dPt (bT c) L) L.length) n) c.q)).ends ((c.ends (xl c (bQ (bp dPt (bT c) L) L.length) n) c.q)).p ((((bQ (bp dPt (bT c) L) L.length).getD n dPt))))) bq rfl rfl rfl rfl (by rw[ai];decide) (wz _ _) rfl) rfl rfl rfl rfl<|dF ?_
     refine DQ.mk<|iE (aY (us:=aC (((c.ends (xl c (bQ (bp dPt (bT c) L) L.length) n) c.q)).setp ((((bQ (bp dPt (bT c) L) L.length).getD n dPt))))) bq rfl rfl rfl rfl (by rw[ai];decide) (wT _ _) rfl) rfl rfl rfl rfl<|dF ?_
     refine ag ?_
     refine ar (kV (ai _) bO rfl) ?_
     refine ar (bV (n:=1) (us:=aC (((c.ends (xl c (bQ (bp dPt (bT c) L) L.length) n) c.q)).ends ((c.ends (xl c (bQ (bp dPt (bT c) L) L.length) n) c.q)).p ((((bQ (bp dPt (bT c) L) L.length).getD n dPt))))) lp rfl (vh rfl (ai _)) (d7 (ai _)) (by decide) (by decide) rfl) ?_
     refine DL.mk<|mh (us:=ao aC (G4 c (bQ (bp dPt (bT c) L) L.length) n)) (rest:=rs) (ys:=aC (((c.ends (xl c (bQ (bp dPt (bT c) L) L.length) n) c.q)).ends ((c.ends (xl c (bQ (bp dPt (bT c) L) L.length) n) c.q)).p ((((bQ (bp dPt (bT c) L) L.length).getD n dPt))))) lp rfl rfl rfl ((am ai _).trans (by rw[GF])) (by assumption) (d7 (ai _)) (by decide) (by omega) (by assumption) (by omega) (iQ (by omega)) (.inl rfl) rfl (fun cg9 rg9 hga9 hgb9 hgc9=>dZ ?_)
     refine ag<|ar (ca (by omega) rfl) ?_
     exact⟨.inr ⟨⟨n+1,cg9,rg9⟩,g1,by show(Ae c (bQ (bp dPt (bT c) L) L.length) (n+1)).length≤cg9;rw[rj g1 g2,dt];exact hga9,hgb9,by show rg9.length=(cg9-(Ae c (bQ (bp dPt (bT c) L) L.length) (n+1)).length)*66;rw[rj g1 g2,dt];exact hgc9⟩,ap ⟨rfl,rfl,rfl,congrArg (fun q=>some (DV.o 41 q cg9)) (by rw[rj g1 g2,dt];rfl),rfl,rfl,trivial⟩ ⟨congrArg (fun q=>some (49,aC q)) (by rw[EA,K5 g1 g2]),congrArg (fun q=>some (49,q++rg9)) (by rw[LI g1 g2,dB,dW,EH]),trivial⟩ rfl,by show(bQ (bp dPt (bT c) L) L.length).length-(n+1)<(bQ (bp dPt (bT c) L) L.length).length-n;omega⟩
   ·have g2:jB c ((bQ (bp dPt (bT c) L) L.length).getD n dPt)=false:=Pg hb7
    refine dO rfl<|bi<|ag<|ar (ca (by omega) rfl) ?_
    exact⟨.inr ⟨⟨n+1,c9,rs⟩,g1,by show(Ae c (bQ (bp dPt (bT c) L) L.length) (n+1)).length≤c9;rw[rR g1 g2];exact h3,h4,by show rs.length=(c9-(Ae c (bQ (bp dPt (bT c) L) L.length) (n+1)).length)*66;rw[rR g1 g2];exact h5⟩,ap ⟨rfl,rfl,rfl,congrArg (fun q=>some (DV.o 41 (List.length q) c9)) (rR g1 g2).symm,rfl,rfl,trivial⟩ ⟨congrArg (fun q=>some (49,aC (c.ends q c.q))) (Fz g1 g2).symm,congrArg (fun q=>some (49,ao aC q++rs)) (Pm g1 g2).symm,trivial⟩ rfl,by show(bQ (bp dPt (bT c) L) L.length).length-(n+1)<(bQ (bp dPt (bT c) L) L.length).length-n;omega⟩
  ·have hp:n=(bQ (bp dPt (bT c) L) L.length).length:=by have:=of_decide_eq_false hc6;omega
   have eN:(tX c (mu c L)).length=(Ae c (bQ (bp dPt (bT c) L) L.length) n).length+1:=by show(tX c ((bQ (bp dPt (bT c) L) L.length).filter (jB c))).length=_;rw[GI,←hp,dt,GF];rfl
   have eC:ao aC (G4 c (bQ (bp dPt (bT c) L) L.length) n)++aC (c.ends (xl c (bQ (bp dPt (bT c) L) L.length) n) c.q)=ao aC (tX c (mu c L)):=by show _=ao aC (tX c ((bQ (bp dPt (bT c) L) L.length).filter (jB c)));rw[GI,←hp,dB,dW]
   refine bi<|aa<|ag ?_
   refine ar (kV (ai _) bO rfl) ?_
   refine ar (bV (n:=1) (us:=aC ((c.ends (xl c (bQ (bp dPt (bT c) L) L.length) n) c.q))) lp rfl (vh rfl (ai _)) (d7 (ai _)) (by decide) (by decide) rfl) ?_
   refine DL.mk<|mh (us:=ao aC (G4 c (bQ (bp dPt (bT c) L) L.length) n)) (rest:=rs) (ys:=aC ((c.ends (xl c (bQ (bp dPt (bT c) L) L.length) n) c.q))) lp rfl rfl rfl ((am ai _).trans (by rw[GF])) (by assumption) (d7 (ai _)) (by decide) (by omega) (by assumption) (by omega) (iQ (by omega)) (.inr rfl) rfl (fun cg10 rg10 hga10 hgb10 hgc10=>dZ ?_)
   refine a7 ?_
   exact⟨.inr rfl,4,46,cg10,[.tmp 5],rg10,rfl,congrArg (fun q=>some (DV.o 46 q cg10)) (eN.symm),congrArg (fun q=>some (49,q++rg10)) (eC),by omega,by assumption,by rw[eN];assumption,(az ae)⟩
theorem Xo:Ok Tryz.prog 214 [] [.a (([.b false]++(cR 0++cR 0++cR 0)++(cR 0++cR 0++cR 0)++[.b false]++zP5++zP5))]:=by
 refine eo Tryz.func214 12 [.cell 0 49] rfl<|aa<|ag<|aa<|ag<|ac rfl ((show Ok Tryz.prog 70 [.c (.i .i64 0)] [dR 0] from gT (by decide) (by decide)))<|aa<|bm<|bU 3<|aU (aG (us:=(cR 0++cR 0++cR 0)) XJ U4 rfl rfl rfl) ?_
 refine bU 3<|aU (aG (us:=(cR 0++cR 0++cR 0)) Y3 VE rfl rfl rfl) ?_
 refine aU (aG (us:=([.b false]++(cR 0++cR 0++cR 0)++(cR 0++cR 0++cR 0)++[.b false]++zP5++zP5)) Tk F9 rfl rfl rfl) ?_
 refine ed<|a7 ?_
 exact ah (kK (us:=([.b false]++(cR 0++cR 0++cR 0)++(cR 0++cR 0++cR 0)++[.b false]++zP5++zP5)) bO rfl rfl (by kernel_rfl) (by kernel_rfl) ae)
theorem Uj (hk:GK k) (h0:0<k.q):Ok Tryz.prog 122 [.a (aV k)] [.c (.s 2 (ao (OC (cR 0++cR 0++cR 0)) (aw k)))]:=by
 refine eo Tryz.func122 26 [.tmp 2] rfl<|aa<|ag<|aa<|ag ?_
 refine ac rfl (Wo hk h0) ?_
 refine aa<|lX 7 rfl rfl<|ba (cb rfl (Xo))<|ba (JR (off:=1) (n:=12) (us:=(cR 0++cR 0++cR 0)) (by kernel_rfl) rfl rfl rfl) ?_
 refine cn 3<|ba (aG (us:=([.b true]++(cR 0++cR 0++cR 0)++aV k++[.b false]++aj (jT k)++aj (jE k))) Tk F9 rfl rfl rfl) ?_
 refine AS (jh F9 rfl) rfl<|ln<|tv<|ed<|aa<|ag ?_
 refine ar (gE bO rfl) ?_
 refine pu (eh bO rfl)<|aa<|dC 4 [6,999999] ?_
 refine DQ.mk<|iE (aY (us:=([.b true]++(cR 0++cR 0++cR 0)++aV k++[.b false]++aj (jE k)++aj (jE k))) bq rfl rfl rfl rfl (fe (by kernel_rfl)) (by kernel_rfl) rfl) rfl rfl rfl rfl<|dF ?_
 refine pu (aY (us:=([.b true]++(cR 0++cR 0++cR 0)++aV k++[.b false]++aj (jE k)++aj (jT k))) bq rfl rfl rfl rfl (fe (by kernel_rfl)) (by kernel_rfl) rfl) ?_
 refine aa<|ag ?_
 refine ar (gE bO rfl) ?_
 refine ar (gE bO rfl) ?_
 refine ar (bV (n:=2) (us:=([.b true]++(cR 0++cR 0++cR 0)++aV k++[.b false]++aj (jT k)++aj (jE k))++([.b true]++(cR 0++cR 0++cR 0)++aV k++[.b false]++aj (jE k)++aj (jT k))) lp rfl (by kernel_rfl) (by kernel_rfl) (by decide) (by decide) rfl) ?_
 refine a7 ?_
 exact ah (az ae)
theorem X6 (hk:GK k) (h0:0<k.q):Ok Tryz.prog 122 [.a (aV k)] [.c (.s ((aw k).length) (ao aC (aw k)))]:=(Uj hk h0).wks ((wkA rfl _ _ _ _).app ((wkA rfl _ _ _ _).app .nil))
theorem YW (vc:CvV c):Ok Tryz.prog 224 [.a (aC c)] [.a (aC c.rev)]:=by
 cases c with
 |seg l f t=>exact YF vc.g.1 vc.g.2.1 vc.g.2.2
 |arc k w f t=>exact RW vc.g.1 vc.g.2.1 vc.g.2.2
theorem Z8:OkS Tryz.prog 243 49 1 c9 (ao aC [e]++rs) (ao aC [e]++rs) [.c (.i .i64 0),.c (.i .i64 1),.c (.f 226)]:=by
 refine OkS.of (K:=100000) (by kernel_rfl) Tryz.func243 rfl rfl rfl rfl ?_
 rw[show Tryz.f243.ntmps=53 from rfl]
 refine aa<|ag<|ar (ju (r:=1) rfl rfl rfl rfl) ?_
 refine aE ?_
 refine bn (ι:=Nat) (fun i=>match i with|_=>⟨53,[(0,.o 100000 1 c9),(1,.v (.c (.i .i64 0))),(2,.v (.c (.i .i64 1))),(3,.v (.c (.f 226))),(8,.v (.c (.i .i64 1)))],[(100000,49,ao aC [e]++rs)]⟩) (fun i=>0-i) 0 (ap ⟨rfl,rfl,rfl,rfl,rfl,trivial⟩ ⟨rfl,trivial⟩ rfl) ?_
 intro i
 match i with
 |_=>
  show Dw _ _ ⟨53,[(0,.o 100000 1 c9),(1,.v (.c (.i .i64 0))),(2,.v (.c (.i .i64 1))),(3,.v (.c (.f 226))),(8,.v (.c (.i .i64 1)))],[(100000,49,ao aC [e]++rs)]⟩ _
  refine aa<|aa<|ag<|bz rfl<|bi ?_
  exact⟨.inl rfl,rfl⟩
theorem Zo:OkS Tryz.prog 311 49 1 c9 (ao aC [e]++rs) (ao aC [e]++rs) [.c (.i .i64 1),.c (.f 226)]:=by
 refine OkS.of (K:=100000) (by kernel_rfl) Tryz.func311 rfl rfl rfl rfl ?_
 rw[show Tryz.f311.ntmps=63 from rfl]
 refine aa<|ag<|aa<|ag<|aa<|aE ?_
 refine bn (ι:=Nat) (fun i=>match i with|_=>⟨63,[(0,.o 100000 1 c9),(1,.v (.c (.i .i64 1))),(2,.v (.c (.f 226))),(6,.v (.c (.i .i64 20))),(7,.v (.c (.i .i64 0))),(8,.v (.c (.i .i64 20)))],[(100000,49,ao aC [e]++rs)]⟩) (fun i=>0-i) 0 (ap ⟨rfl,rfl,rfl,rfl,rfl,rfl,trivial⟩ ⟨rfl,trivial⟩ rfl) ?_
 intro i
 match i with
 |_=>
  show Dw _ _ ⟨63,[(0,.o 100000 1 c9),(1,.v (.c (.i .i64 1))),(2,.v (.c (.f 226))),(6,.v (.c (.i .i64 20))),(7,.v (.c (.i .i64 0))),(8,.v (.c (.i .i64 20)))],[(100000,49,ao aC [e]++rs)]⟩ _
  refine aa<|aa<|ag<|bz rfl<|bi<|aa<|ag ?_
  refine DL.mk<|sO (kP rfl rfl rfl rfl rfl (Z8) rfl)<|dZ ?_
  refine aE ?_
  refine bn (ι:=Nat) (fun i=>match i with|_=>⟨63,[(0,.o 100000 1 c9),(1,.v (.c (.i .i64 1))),(2,.v (.c (.f 226))),(6,.v (.c (.i .i64 20))),(7,.v (.c (.i .i64 0))),(8,.v (.c (.i .i64 20)))],[(100000,49,ao aC [e]++rs)]⟩) (fun i=>0-i) 0 (ap ⟨rfl,rfl,rfl,rfl,rfl,rfl,trivial⟩ ⟨rfl,trivial⟩ rfl) ?_
  intro i
  match i with
  |_=>
   show Dw _ _ ⟨63,[(0,.o 100000 1 c9),(1,.v (.c (.i .i64 1))),(2,.v (.c (.f 226))),(6,.v (.c (.i .i64 20))),(7,.v (.c (.i .i64 0))),(8,.v (.c (.i .i64 20)))],[(100000,49,ao aC [e]++rs)]⟩ _
   refine aa<|aa<|ag<|bz rfl<|bi ?_
   exact⟨.inl rfl,rfl⟩
theorem Zv:OkS Tryz.prog 225 49 1 c9 (ao aC [e]++rs) (ao aC [e]++rs) [.c (.f 226)]:=by
 refine OkS.of (K:=100000) (by kernel_rfl) Tryz.func225 rfl rfl rfl rfl ?_
 rw[show Tryz.f225.ntmps=9 from rfl]
 refine ag<|ar (iq gP rfl rfl) ?_
 refine DL.mk<|sO (kP rfl rfl rfl rfl rfl (Zo) rfl)<|dZ ?_
 exact⟨.inl rfl,rfl⟩
theorem abc (vc:CvV (.arc k false f t)) (ea:(Cv.arc k false f t).inner (jT k)=false) (eb:(Cv.arc k false f t).inner (jE k)=false):Ok Tryz.prog 125 [.a (([.b true]++nr++aV k++[.b false]++aj f++aj t))] [.c (.s (([(Cv.arc k false f t).fwd]).length) (ao aC ([(Cv.arc k false f t).fwd])))]:=by
 have vR: ∀d∈([(Cv.arc k false f t)]:List Cv),CvV d:=fun d hd=>by rw[nD.1 hd];exact vc
 have lM:(([(Cv.arc k false f t)]:List Cv).map Cv.fwd).length=([(Cv.arc k false f t)]:List Cv).length:=rfl
 have hk:=vc.g.1
 have hf:=vc.g.2.1
 have ht:=vc.g.2.2
 have gL:=sj hk vc.pos
 have gR:=r8 hk vc.pos
 have z2:(VT++VT).length=(2-0)*20:=rfl
 have hm2:2≤maxLen:=by decide
 refine eo Tryz.func125 57 [.tmp 2] rfl<|aa<|ag<|aa<|ag ?_
 refine ar (gE bO rfl) ?_
 refine DL.mk<|pE (oM (us:=([.b true]++nr++aV k++[.b false]++aj f++aj t)) lp rfl rfl (by decide) (by decide) rfl) rfl<|dZ ?_
 refine m8 (ι:={x9:Nat×List CellD //([(Cv.arc k false f t)]:List Cv).length≤x9.1∧x9.1≤maxLen∧x9.2.length=(x9.1-([(Cv.arc k false f t)]:List Cv).length)*66}) (fun i=>⟨57,[(3,.o 29 (([(Cv.arc k false f t)]:List Cv).length) i.1.1)],[(29,49,ao aC ([(Cv.arc k false f t)]:List Cv)++i.1.2)]⟩) ?_ ?_
 ·refine aa<|ag ?_
  refine ar (gY lW rfl) ?_
  refine dO rfl<|aa<|ag ?_
  refine ar (cO (aV k) qK rfl (by kernel_rfl)) ?_
  refine ac rfl (Wo hk vc.pos) ?_
  refine aa<|kO (t:=1) (k:=1) rfl rfl<|bm<|bU 2 ?_
  refine pE (oM (us:=aj (jT k)++aj (jE k)) du rfl rfl (by decide) (by decide) rfl) rfl ?_
  refine aU (qR (us:=[.p (([.b true]++nr++aV k++[.b false]++aj f++aj t))]) rfl rfl) ?_
  refine Hi rfl rfl rfl rfl rfl (abV (c:=(Cv.arc k false f t)) vc rfl gL gR ea eb) rfl<|ed<|aa ?_
  refine cB (t:=6) (m:=20) (us:=([]:List CellD)) rfl rfl (jw (n:=0) (by first|exact am ai _|rfl) (by assumption) (by omega)) (by omega) (by assumption) (gn (by first|exact am ai _|rfl)) ?_
  refine bm<|aU (mw (us:=([.b true]++nr++aV k++[.b false]++aj f++aj t)) bO rfl rfl rfl rfl) ?_
  refine bU 1 ?_
  refine yB rfl rfl ((show OkN _ _ [.a (aC (Cv.arc k false f t)),.c (.s 0 [])] _ _ _ _ _ from Yf (c:=(Cv.arc k false f t)) (L:=[]) vc rfl (fun p h=>by cases h) (eF _) (fun p h=>by cases h))) rfl rfl (fun cg1 rg1 hga1 hgb1 hgc1=>?_)
  refine bU 1<|aU (DF rfl rfl) ?_
  refine aU (DB rfl rfl rfl) ?_
  refine ed<|aa<|ag<|dO rfl<|ag ?_
  exact⟨⟨⟨cg1,rg1⟩,hga1,hgb1,hgc1⟩,ap ⟨rfl,trivial⟩ ⟨rfl,trivial⟩ rfl⟩
 ·rintro⟨⟨c9,rs⟩,h1,h2,h3⟩
  dsimp only at h1 h2 h3
  dsimp only
  refine aa<|aa<|ag<|ar (iq gP rfl rfl) ?_
  refine aE<|bn (ι:={n:Nat // n≤([(Cv.arc k false f t)]:List Cv).length}) (fun i=>⟨57,[(3,.o 29 (([(Cv.arc k false f t)]:List Cv).length) c9),(35,.o 29 (([(Cv.arc k false f t)]:List Cv).length) c9),(36,.v (.c (.i .i64 ((([(Cv.arc k false f t)]:List Cv).length:Int))))),(37,.v (.c (.i .i64 (i.1:Int))))],[(29,49,ao aC (Jw ([(Cv.arc k false f t)]:List Cv) i.1)++rs)]⟩) (fun i=>([(Cv.arc k false f t)]:List Cv).length-i.1) ⟨0,eF _⟩ (ap ⟨rfl,rfl,rfl,rfl,trivial⟩ ⟨congrArg (fun q=>some (49,ao aC q++rs)) (acJ.symm),trivial⟩ rfl) ?_
  rintro⟨n,h4⟩
  replace h4:n≤([(Cv.arc k false f t)]:List Cv).length:=h4
  dsimp only
  refine aa<|ag<|aa ?_
  refine aJ rfl (fun hc2=>?_) (fun hc2=>?_)
  ·have g1:n<([(Cv.arc k false f t)]:List Cv).length:=by have:=of_decide_eq_true hc2;omega
   have n1:n<1:=g1
   have hX:CvV (([(Cv.arc k false f t)]:List Cv).getD n aX):=vR _ (bd g1)
   refine aA<|aa<|aE<|aa<|bm<|bU 1<|aU (bo gP rfl rfl (by omega) rfl) ?_
   refine aU (ce (us:=aC (([(Cv.arc k false f t)]:List Cv).getD n aX)) bO rfl rfl ((jP (e:=aX) (O:=(Jw ([(Cv.arc k false f t)]:List Cv) n)) ai (by rw[zV h4];exact g1)).trans (congrArg aC (Pf g1))) (ai _) rfl) ?_
   refine rZ (jh F9 rfl) rfl<|bU 1<|gi (cZ bO rfl rfl rfl (ai _) rfl rfl) ?_
   refine bt<|aa<|ag ?_
   refine ar (ce (us:=aj ((([(Cv.arc k false f t)]:List Cv).getD n aX)).p) bq rfl rfl (mY _) rfl rfl) ?_
   refine ar (ce (us:=aj ((([(Cv.arc k false f t)]:List Cv).getD n aX)).q) bq rfl rfl (uC _) rfl rfl) ?_
   refine ac rfl (Pz (iT hX.g) (sv hX.g)) ?_
   refine aJ rfl (fun hc3=>?_) (fun hc3=>?_)
   ·have m2:=Mj hc3
    refine bm<|bU 2<|aU (kV (ai _) bO rfl)<|aU (cb rfl ((show Ok _ _ [.a (aC (([(Cv.arc k false f t)]:List Cv).getD n aX))] [.a (aC (([(Cv.arc k false f t)]:List Cv).getD n aX).rev)] from YW hX)))<|aU (bo gP rfl rfl (by omega) rfl) ?_
    refine gi (aY (us:=ao aC ((Jw ([(Cv.arc k false f t)]:List Cv) n).set n (([(Cv.arc k false f t)]:List Cv).getD n aX).rev)++rs) bO rfl rfl rfl (ai _) (by rw[dt,am ai,zV h4];omega) (wD ai (by rw[zV h4];exact g1) _) rfl) ?_
    refine bt<|ag<|ar (ca (by omega) rfl) ?_
    exact⟨⟨n+1,g1⟩,ap ⟨rfl,rfl,rfl,rfl,trivial⟩ ⟨congrArg (fun q=>some (49,ao aC q++rs)) (by rw[←MR g1,m2]),trivial⟩ rfl,by show([(Cv.arc k false f t)]:List Cv).length-(n+1)<([(Cv.arc k false f t)]:List Cv).length-n;omega⟩
   ·have m2:=MM hc3
    refine aA<|ag<|ar (ca (by omega) rfl) ?_
    exact⟨⟨n+1,g1⟩,ap ⟨rfl,rfl,rfl,rfl,trivial⟩ ⟨congrArg (fun q=>some (49,ao aC q++rs)) (Pu g1 m2),trivial⟩ rfl,by show([(Cv.arc k false f t)]:List Cv).length-(n+1)<([(Cv.arc k false f t)]:List Cv).length-n;omega⟩
  ·have hp:n=1:=by have:=of_decide_eq_false hc2;have h4:n≤1:=h4;have h5: ¬(n:Int)<((1:Nat):Int):=this;omega
   have h3m:rs.length=(c9-(([(Cv.arc k false f t)]:List Cv).map Cv.fwd).length)*66:=h3
   refine lh (σ':=⟨57,[(3,.o 29 ((([(Cv.arc k false f t)]:List Cv).map Cv.fwd).length) c9)],[(29,49,ao aC (([(Cv.arc k false f t)]:List Cv).map Cv.fwd)++rs)]⟩) (ap ⟨rfl,trivial⟩ ⟨congrArg (fun q=>some (49,ao aC q++rs)) (by rw[hp];exact VD (R:=([(Cv.arc k false f t)]:List Cv))),trivial⟩ rfl) ?_
   refine bi<|aa<|ag ?_
   refine DL.mk<|sO (kP rfl rfl rfl rfl rfl (Zv (e:=(Cv.arc k false f t).fwd)) rfl)<|dZ ?_
   refine aa<|ag ?_
   refine cB (t:=2) (m:=66) (us:=ao aC (([(Cv.arc k false f t)]:List Cv).map Cv.fwd)) rfl rfl (jw (n:=(([(Cv.arc k false f t)]:List Cv).map Cv.fwd).length) (by first|exact am ai _|rfl) (by assumption) (by omega)) (by omega) (by assumption) (gn (by first|exact am ai _|rfl)) ?_
   refine a7 ?_
   exact ah (az ae)
theorem adf (hp:GP p) (hx:Rz 148000 x):Ok Tryz.prog 139 [.a ((cR p.a1++cR p.b1++cR (zc p.b1 p.c))),.a ((cR x++cR 0++cR 0))] [.c (.i .i64 (mO p x))]:=
 cA (mG (hp.a1.mono (by decide)) (hp.b1.mono (by decide)) (ij (hp.c.mono (by decide)) (by decide)) (hx.mono (by decide)) (dJ (by decide)) (dJ (by decide)) ((hp.a1.sub hx).mono (by decide)) (kZ (cm hp)) tI) (BX (kZ (cm hp)))
theorem ac2 (hp:GP p) (hx:Rz 148000 x):Ok Tryz.prog 139 [.a ((cR x++cR 0++cR 0)),.a ((cR p.a1++cR p.b1++cR (zc p.b1 p.c)))] [.c (.i .i64 (-mO p x))]:=
 cA (mG (hx.mono (by decide)) (dJ (by decide)) (dJ (by decide)) (hp.a1.mono (by decide)) (hp.b1.mono (by decide)) (ij (hp.c.mono (by decide)) (by decide)) ((hx.sub hp.a1).mono (by decide)) tI (kZ (cm hp))) (by
  rw[nP tI (kZ (cm hp)),oH (cm hp),←cj]
  exact congrArg aT (br fun n=>by unfold pX xB aB;simp only[aQ,aI,aR,bc,bD];grind))
theorem zu (hc:c.good) (hx:Rz 148000 x):Ok Tryz.prog 232 [.a (aC c),.a ((cR x++cR 0++cR 0))] [.c (.b (li c x))]:=by
 refine bX Tryz.func232 rfl<|cJ 15 [] ?_
 refine aq (ce (us:=aj c.p) bq rfl rfl (mY _) rfl rfl) ?_
 refine aK rfl (qc) ?_
 refine aK rfl (adf (iT hc) hx) ?_
 refine BD (bE rfl) (fun c1 hb1=>?_)
 cases c1
 ·refine ah ?_
  rw[show li c x=false from by unfold li;rw[hb1];rfl]
  exact az ae
 ·refine aq (ce (us:=aj c.q) bq rfl rfl (uC _) rfl rfl) ?_
  refine aK rfl (qc)<|aK rfl (ac2 (sv hc) hx)<|ah ?_
  rw[show li c x=decide (-mO c.q x≤0) from by unfold li;rw[hb1];rfl]
  exact az ae
theorem ro (hk:GK k) (hx:Rz 148000 x):Rz 300000 (mK k x):=(hk.q.sub ((hx.sub hk.x).mul (hx.sub hk.x))).mono (by decide)
theorem ZW (vc:CvV (Cv.seg l f t)) (hx:Rz 148000 x) (hb:yu (Cv.seg l f t) x=false):Ok Tryz.prog 128 [.a (([.b false]++iI l++rQ++[.b false]++aj f++aj t)),dR x] [.a (rQ),.c (.i .i64 1)]:=by
 have hf:=vc.g.2.1
 have ht:=vc.g.2.2
 have hl:=vc.g.1
 have hB:=hb
 rw[lQ] at hB
 refine bX Tryz.func128 rfl<|cJ 9 [] ?_
 refine aq (gE bO rfl) ?_
 refine aK rfl (MS hl hf ht) ?_
 refine BD (bE rfl) (fun c1 hb1=>?_)
 cases c1
 ·refine aq (gE bO rfl) ?_
  refine aK rfl (gK) ?_
  refine aK rfl (zu (c:=(Cv.seg l f t)) vc.g (hx.m_)) ?_
  refine dk rfl (fun hc2=>?_) (fun hc2=>?_)
  ·refine ar (aG (us:=rQ) lU jL rfl rfl rfl) ?_
   exact ah (aS df rfl (az ae))
  ·exact absurd hB (by rw[show(Cv.seg l f t).vert=false from hb1,show li (Cv.seg l f t) x=true from by simpa using hc2];decide)
 ·refine sy rfl<|ar (aG (us:=rQ) lU jL rfl rfl rfl) ?_
  exact ah (aS df rfl (az ae))
theorem X9 (vc:CvV (Cv.seg l f t)) (hx:Rz 148000 x) (hb:yu (Cv.seg l f t) x=true):Ok Tryz.prog 128 [.a (([.b false]++iI l++rQ++[.b false]++aj f++aj t)),dR x] [.a ((cR ((l.c-l.a*x)/l.b)++cR 0++cR 0)),.c (.i .i64 0)]:=by
 have hf:=vc.g.2.1
 have ht:=vc.g.2.2
 have hl:=vc.g.1
 have hB:=hb
 rw[lQ] at hB
 refine bX Tryz.func128 rfl<|cJ 9 [] ?_
 refine aq (gE bO rfl) ?_
 refine aK rfl (MS hl hf ht) ?_
 refine BD (bE rfl) (fun c1 hb1=>?_)
 cases c1
 ·refine aq (gE bO rfl) ?_
  refine aK rfl (gK) ?_
  refine aK rfl (zu (c:=(Cv.seg l f t)) vc.g (hx.m_)) ?_
  refine dk rfl (fun hc2=>?_) (fun hc2=>?_)
  ·exact absurd hB (by rw[show li (Cv.seg l f t) x=false from by simpa using hc2,nj];decide)
  ·have hv:cx f t≠0:=fun e=>absurd (show(Cv.seg l f t).vert=false from hb1) (by show ¬(cx f t==0)=false;rw[e];decide)
   have hb0:l.b≠0:=fun e=>hv ((Km hl hf ht (by have:=vc.sp;simpa [Cv.supp,Cv.p] using this) (by have:=vc.sq;simpa [Cv.supp,Cv.q] using this) vc.ne).2 e)
   refine ar (gY lW rfl)<|sy rfl<|cJ 19 [6,999999] ?_
   refine aq (cO (cR l.c) aZ rfl (by kernel_rfl)) ?_
   refine aq (cO (cR l.a) aZ rfl (by kernel_rfl)) ?_
   refine aK rfl (cX (aO (hl.a)) (aO hx)) ?_
   refine aK rfl (eZ (aO (hl.c)) (aO (aP (hl.a) hx))) ?_
   refine aq (cO (cR l.b) aZ rfl (by kernel_rfl)) ?_
   refine aK rfl (qt ((hl.c.sub (hl.a.mul hx)).m_) (hl.b.m_) hb0) ?_
   refine DQ.mk<|f5 (eh aZ rfl) rfl rfl rfl rfl<|dF ?_
   refine ac rfl (gK) ?_
   exact ah (aS df rfl (az ae))
 ·exact absurd hB (by rw[show(Cv.seg l f t).vert=true from hb1];exact Bool.false_ne_true)
theorem Y8 (vc:CvV (Cv.arc k w f t)) (hx:Rz 148000 x) (hb:yu (Cv.arc k w f t) x=false):Ok Tryz.prog 128 [.a (([.b true]++nr++aV k++[.b w]++aj f++aj t)),dR x] [.a (rQ),.c (.i .i64 1)]:=by
 have hf:=vc.g.2.1
 have ht:=vc.g.2.2
 have hk:=vc.g.1
 have hB:=hb
 rw[lQ] at hB
 refine bX Tryz.func128 rfl<|cJ 9 [] ?_
 refine aq (gE bO rfl) ?_
 refine aK rfl ((show Ok _ _ _ [.c (.b false)] from GR hk hf ht)) ?_
 refine aq (bE rfl) ?_
 refine aq (gE bO rfl) ?_
 refine aK rfl (gK) ?_
 refine aK rfl (zu (c:=(Cv.arc k w f t)) vc.g (hx.m_)) ?_
 refine dk rfl (fun hc1=>?_) (fun hc1=>?_)
 ·refine ar (aG (us:=rQ) lU jL rfl rfl rfl) ?_
  exact ah (aS df rfl (az ae))
 ·exact absurd hB (by rw[show(Cv.arc k w f t).vert=false from rfl,show li (Cv.arc k w f t) x=true from by simpa using hc1];decide)
theorem Ty (vc:CvV (Cv.arc k w f t)) (hx:Rz 148000 x) (hb:yu (Cv.arc k w f t) x=true) (hs:je (mK k x)=true):Ok Tryz.prog 128 [.a (([.b true]++nr++aV k++[.b w]++aj f++aj t)),dR x] [.a ((cR (k.y+sW w*rt (mK k x))++cR 0++cR 0)),.c (.i .i64 0)]:=by
 have hf:=vc.g.2.1
 have ht:=vc.g.2.2
 have hk:=vc.g.1
 have hB:=hb
 rw[lQ] at hB
 have ofk:OnK k f:=⟨hf,b5.1 vc.sp⟩
 have otk:OnK k t:=⟨ht,b5.1 vc.sq⟩
 have hm0: ¬mK k x<0:=by
  have hb2:=hb
  unfold yu at hb2
  rw[dL,dL] at hb2
  have:=Ct ofk otk (of_decide_eq_true hb2.2.1) (of_decide_eq_true hb2.2.2)
  grind
 refine bX Tryz.func128 rfl<|cJ 9 [] ?_
 refine aq (gE bO rfl) ?_
 refine aK rfl ((show Ok _ _ _ [.c (.b false)] from GR hk hf ht)) ?_
 refine aq (bE rfl) ?_
 refine aq (gE bO rfl) ?_
 refine aK rfl (gK) ?_
 refine aK rfl (zu (c:=(Cv.arc k w f t)) vc.g (hx.m_)) ?_
 refine dk rfl (fun hc1=>?_) (fun hc1=>?_)
 ·exact absurd hB (by rw[show li (Cv.arc k w f t) x=false from by simpa using hc1,nj];decide)
 ·refine ar (gY lW rfl)<|sb rfl<|ar (cO (cR k.x) aZ rfl (by kernel_rfl))<|ac rfl (eZ (aO hx) (aO (hk.x)))<|ar (gY lW rfl) ?_
  refine dk rfl (fun hc2=>?_) (fun hc2=>?_)
  ·have e9:((1:Int):Rat)=sW w:=Va hc2
   refine cJ 15 [] ?_
   refine aq (cO (cR k.y) aZ rfl (by kernel_rfl)) ?_
   refine aK rfl (jJ (gT (by decide) (by decide)) e9) ?_
   refine aq (cO (cR k.q) aZ rfl (by kernel_rfl)) ?_
   refine aK rfl (cX (aO (cT hx (hk.x))) (aO (cT hx (hk.x)))) ?_
   refine aK rfl (eZ (aO (hk.q)) (aO (aP (cT hx (hk.x)) (cT hx (hk.x))))) ?_
   refine aK rfl (w8 (c:=mK k x) (hk.y.m_) ((xA w).m_) ((ro hk hx).m_) hm0 hs) ?_
   exact ah (aS df rfl (az ae))
  ·have e9:((-1:Int):Rat)=sW w:=Ut hc2
   refine cJ 15 [] ?_
   refine aq (cO (cR k.y) aZ rfl (by kernel_rfl)) ?_
   refine aK rfl (jJ (gT (by decide) (by decide)) e9) ?_
   refine aq (cO (cR k.q) aZ rfl (by kernel_rfl)) ?_
   refine aK rfl (cX (aO (cT hx (hk.x))) (aO (cT hx (hk.x)))) ?_
   refine aK rfl (eZ (aO (hk.q)) (aO (aP (cT hx (hk.x)) (cT hx (hk.x))))) ?_
   refine aK rfl (w8 (c:=mK k x) (hk.y.m_) ((xA w).m_) ((ro hk hx).m_) hm0 hs) ?_
   exact ah (aS df rfl (az ae))
theorem UI (vc:CvV (Cv.arc k w f t)) (hx:Rz 148000 x) (hb:yu (Cv.arc k w f t) x=true) (hs:je (mK k x)=false):Ok Tryz.prog 128 [.a (([.b true]++nr++aV k++[.b w]++aj f++aj t)),dR x] [.a ((cR k.y++cR (sW w)++cR (zc (sW w) (mK k x)))),.c (.i .i64 0)]:=by
 have hf:=vc.g.2.1
 have ht:=vc.g.2.2
 have hk:=vc.g.1
 have hB:=hb
 rw[lQ] at hB
 have ofk:OnK k f:=⟨hf,b5.1 vc.sp⟩
 have otk:OnK k t:=⟨ht,b5.1 vc.sq⟩
 have hm0: ¬mK k x<0:=by
  have hb2:=hb
  unfold yu at hb2
  rw[dL,dL] at hb2
  have:=Ct ofk otk (of_decide_eq_true hb2.2.1) (of_decide_eq_true hb2.2.2)
  grind
 refine bX Tryz.func128 rfl<|cJ 9 [] ?_
 refine aq (gE bO rfl) ?_
 refine aK rfl ((show Ok _ _ _ [.c (.b false)] from GR hk hf ht)) ?_
 refine aq (bE rfl) ?_
 refine aq (gE bO rfl) ?_
 refine aK rfl (gK) ?_
 refine aK rfl (zu (c:=(Cv.arc k w f t)) vc.g (hx.m_)) ?_
 refine dk rfl (fun hc1=>?_) (fun hc1=>?_)
 ·exact absurd hB (by rw[show li (Cv.arc k w f t) x=false from by simpa using hc1,nj];decide)
 ·refine ar (gY lW rfl)<|sb rfl<|ar (cO (cR k.x) aZ rfl (by kernel_rfl))<|ac rfl (eZ (aO hx) (aO (hk.x)))<|ar (gY lW rfl) ?_
  refine dk rfl (fun hc2=>?_) (fun hc2=>?_)
  ·have e9:((1:Int):Rat)=sW w:=Va hc2
   refine cJ 15 [] ?_
   refine aq (cO (cR k.y) aZ rfl (by kernel_rfl)) ?_
   refine aK rfl (jJ (gT (by decide) (by decide)) e9) ?_
   refine aq (cO (cR k.q) aZ rfl (by kernel_rfl)) ?_
   refine aK rfl (cX (aO (cT hx (hk.x))) (aO (cT hx (hk.x)))) ?_
   refine aK rfl (eZ (aO (hk.q)) (aO (aP (cT hx (hk.x)) (cT hx (hk.x))))) ?_
   refine aK rfl (wX (c:=mK k x) (hk.y.m_) ((xA w).m_) ((ro hk hx).m_) hm0 hs) ?_
   exact ah (aS df rfl (az ae))
  ·have e9:((-1:Int):Rat)=sW w:=Ut hc2
   refine cJ 15 [] ?_
   refine aq (cO (cR k.y) aZ rfl (by kernel_rfl)) ?_
   refine aK rfl (jJ (gT (by decide) (by decide)) e9) ?_
   refine aq (cO (cR k.q) aZ rfl (by kernel_rfl)) ?_
   refine aK rfl (cX (aO (cT hx (hk.x))) (aO (cT hx (hk.x)))) ?_
   refine aK rfl (eZ (aO (hk.q)) (aO (aP (cT hx (hk.x)) (cT hx (hk.x))))) ?_
   refine aK rfl (wX (c:=mK k x) (hk.y.m_) ((xA w).m_) ((ro hk hx).m_) hm0 hs) ?_
   exact ah (aS df rfl (az ae))
theorem Zm (vc:CvV c) (hx:Rz 148000 x):Ok Tryz.prog 128 [.a (aC c),dR x] (if yu c x then[.a (We c x),.c (.i .i64 0)] else[.a rQ,.c (.i .i64 1)]):=by
 cases hb:yu c x with
 |false=>
  rw[if_neg (by decide)]
  cases c with
  |seg l f t=>exact ZW vc hx hb
  |arc k w f t=>exact Y8 vc hx hb
 |true=>
  rw[if_pos rfl]
  cases c with
  |seg l f t=>exact X9 vc hx hb
  |arc k w f t=>
   cases hs:je (mK k x) with
   |true=>rw[Ry hs];exact Ty vc hx hb hs
   |false=>rw[Qw hs];exact UI vc hx hb hs
theorem Lx (w:Bool):sW w≠0:=by cases w<;>decide+kernel
theorem QH (h:je m=false):m≠0:=fun e=>by rw[e,Rq] at h;cases h
theorem VV (h:je m=false):rB (sW w) m=sW w:=ack (Lx w) (QH h)
theorem Xd (h:je m=false):rC (sW w) m=zc (sW w) m:=by unfold rC;rw[if_neg (fun e=>e.elim (Lx w) (QH h)),oY (Lx w)]
theorem adS (hp:GP p) (hx:Rz 7000 x):Ok Tryz.prog 83 [.a ((cR p.a1++cR p.b1++cR (zc p.b1 p.c))),.a ((cR x++cR 0++cR 0))] [.c (.i .i64 (mO p x))]:=cA (zZ (hp.a1.mono (by decide)) (hp.b1.mono (by decide)) (ij (hp.c.mono (by decide)) (by decide)) (hx.mono (by decide)) (dJ (by decide)) (dJ (by decide))) (BX (kZ (cm hp)))
theorem ac0 (hp:GP p) (hx:Rz 7000 x):Ok Tryz.prog 83 [.a ((cR x++cR 0++cR 0)),.a ((cR p.a1++cR p.b1++cR (zc p.b1 p.c)))] [.c (.i .i64 (-mO p x))]:=cA (zZ (hx.mono (by decide)) (dJ (by decide)) (dJ (by decide)) (hp.a1.mono (by decide)) (hp.b1.mono (by decide)) (ij (hp.c.mono (by decide)) (by decide))) (by
 rw[nP tI (kZ (cm hp)),oH (cm hp),←cj]
 exact congrArg aT (br fun n=>by unfold pX xB aB;simp only[aQ,aI,aR,bc,bD];grind))
theorem DG (hc:c.good) (hx:Rz 7000 x):Ok Tryz.prog 341 [.a (aC c),.a ((cR x++cR 0++cR 0))] [.c (.b (li c x))]:=by
 refine bX Tryz.func341 rfl<|cJ 15 [] ?_
 refine aq (ce (us:=aj c.p) bq rfl rfl (mY _) rfl rfl) ?_
 refine aK rfl (pd) ?_
 refine aK rfl (adS (iT hc) hx) ?_
 refine BD (bE rfl) (fun c1 hb1=>?_)
 cases c1
 ·refine ah ?_
  rw[show li c x=false from by unfold li;rw[hb1];rfl]
  exact az ae
 ·refine aq (ce (us:=aj c.q) bq rfl rfl (uC _) rfl rfl) ?_
  refine aK rfl (pd)<|aK rfl (ac0 (sv hc) hx)<|ah ?_
  rw[show li c x=decide (-mO c.q x≤0) from by unfold li;rw[hb1];rfl]
  exact az ae
theorem Zb (vc:CvV (Cv.seg l f t)) (hx:Rz 7000 x) (hb:yu (Cv.seg l f t) x=false):Ok Tryz.prog 271 [.a (([.b false]++iI l++rQ++[.b false]++aj f++aj t)),dR x] [.a (rQ),.c (.i .i64 1)]:=by
 have hf:=vc.g.2.1
 have ht:=vc.g.2.2
 have hl:=vc.g.1
 have hB:=hb
 rw[lQ] at hB
 refine bX Tryz.func271 rfl<|cJ 9 [] ?_
 refine aq (gE bO rfl) ?_
 refine aK rfl (FG hl hf ht) ?_
 refine BD (bE rfl) (fun c1 hb1=>?_)
 cases c1
 ·refine aq (gE bO rfl) ?_
  refine aK rfl (fu) ?_
  refine aK rfl (DG (c:=(Cv.seg l f t)) vc.g (hx.m_)) ?_
  refine dk rfl (fun hc2=>?_) (fun hc2=>?_)
  ·refine ar (aG (us:=rQ) lU jL rfl rfl rfl) ?_
   exact ah (aS df rfl (az ae))
  ·exact absurd hB (by rw[show(Cv.seg l f t).vert=false from hb1,show li (Cv.seg l f t) x=true from by simpa using hc2];decide)
 ·refine sy rfl<|ar (aG (us:=rQ) lU jL rfl rfl rfl) ?_
  exact ah (aS df rfl (az ae))
theorem ZD (vc:CvV (Cv.seg l f t)) (hx:Rz 7000 x) (hb:yu (Cv.seg l f t) x=true):Ok Tryz.prog 271 [.a (([.b false]++iI l++rQ++[.b false]++aj f++aj t)),dR x] [.a ((cR ((l.c-l.a*x)/l.b)++cR 0++cR 0)),.c (.i .i64 0)]:=by
 have hf:=vc.g.2.1
 have ht:=vc.g.2.2
 have hl:=vc.g.1
 have hB:=hb
 rw[lQ] at hB
 refine bX Tryz.func271 rfl<|cJ 9 [] ?_
 refine aq (gE bO rfl) ?_
 refine aK rfl (FG hl hf ht) ?_
 refine BD (bE rfl) (fun c1 hb1=>?_)
 cases c1
 ·refine aq (gE bO rfl) ?_
  refine aK rfl (fu) ?_
  refine aK rfl (DG (c:=(Cv.seg l f t)) vc.g (hx.m_)) ?_
  refine dk rfl (fun hc2=>?_) (fun hc2=>?_)
  ·exact absurd hB (by rw[show li (Cv.seg l f t) x=false from by simpa using hc2,nj];decide)
  ·have hv:cx f t≠0:=fun e=>absurd (show(Cv.seg l f t).vert=false from hb1) (by show ¬(cx f t==0)=false;rw[e];decide)
   have hb0:l.b≠0:=fun e=>hv ((Km hl hf ht (by have:=vc.sp;simpa [Cv.supp,Cv.p] using this) (by have:=vc.sq;simpa [Cv.supp,Cv.q] using this) vc.ne).2 e)
   refine ar (gY lW rfl)<|sy rfl<|cJ 19 [6,999999] ?_
   refine aq (cO (cR l.c) aZ rfl (by kernel_rfl)) ?_
   refine aq (cO (cR l.a) aZ rfl (by kernel_rfl)) ?_
   refine aK rfl (co (aO (hl.a)) (aO hx)) ?_
   refine aK rfl (dM (aO (hl.c)) (aO (aP (hl.a) hx))) ?_
   refine aq (cO (cR l.b) aZ rfl (by kernel_rfl)) ?_
   refine aK rfl (oB ((hl.c.sub (hl.a.mul hx)).m_) (hl.b.m_) hb0) ?_
   refine DQ.mk<|f5 (eh aZ rfl) rfl rfl rfl rfl<|dF ?_
   refine ac rfl (fu) ?_
   exact ah (aS df rfl (az ae))
 ·exact absurd hB (by rw[show(Cv.seg l f t).vert=true from hb1];exact Bool.false_ne_true)
theorem ZY (vc:CvV (Cv.arc k w f t)) (hx:Rz 7000 x) (hb:yu (Cv.arc k w f t) x=false):Ok Tryz.prog 271 [.a (([.b true]++nr++aV k++[.b w]++aj f++aj t)),dR x] [.a (rQ),.c (.i .i64 1)]:=by
 have hf:=vc.g.2.1
 have ht:=vc.g.2.2
 have hk:=vc.g.1
 have hB:=hb
 rw[lQ] at hB
 refine bX Tryz.func271 rfl<|cJ 9 [] ?_
 refine aq (gE bO rfl) ?_
 refine aK rfl ((show Ok _ _ _ [.c (.b false)] from BU hk hf ht)) ?_
 refine aq (bE rfl) ?_
 refine aq (gE bO rfl) ?_
 refine aK rfl (fu) ?_
 refine aK rfl (DG (c:=(Cv.arc k w f t)) vc.g (hx.m_)) ?_
 refine dk rfl (fun hc1=>?_) (fun hc1=>?_)
 ·refine ar (aG (us:=rQ) lU jL rfl rfl rfl) ?_
  exact ah (aS df rfl (az ae))
 ·exact absurd hB (by rw[show(Cv.arc k w f t).vert=false from rfl,show li (Cv.arc k w f t) x=true from by simpa using hc1];decide)
theorem UY (vc:CvV (Cv.arc k w f t)) (hx:Rz 7000 x) (hb:yu (Cv.arc k w f t) x=true) (hs:je (mK k x)=true):Ok Tryz.prog 271 [.a (([.b true]++nr++aV k++[.b w]++aj f++aj t)),dR x] [.a ((cR (k.y+sW w*rt (mK k x))++cR 0++cR 0)),.c (.i .i64 0)]:=by
 have hf:=vc.g.2.1
 have ht:=vc.g.2.2
 have hk:=vc.g.1
 have hB:=hb
 rw[lQ] at hB
 have ofk:OnK k f:=⟨hf,b5.1 vc.sp⟩
 have otk:OnK k t:=⟨ht,b5.1 vc.sq⟩
 have hm0: ¬mK k x<0:=by
  have hb2:=hb
  unfold yu at hb2
  rw[dL,dL] at hb2
  have:=Ct ofk otk (of_decide_eq_true hb2.2.1) (of_decide_eq_true hb2.2.2)
  grind
 refine eo Tryz.func271 64 [.cell 4 129,.tmp 5] rfl<|aa<|ag<|aa<|aa<|dC 9 [] ?_
 refine aq (gE bO rfl) ?_
 refine aK rfl ((show Ok _ _ _ [.c (.b false)] from BU hk hf ht)) ?_
 refine aq (bE rfl) ?_
 refine aq (gE bO rfl) ?_
 refine aK rfl (fu) ?_
 refine aK rfl (DG (c:=(Cv.arc k w f t)) vc.g (hx.m_)) ?_
 refine aJ rfl (fun hc1=>?_) (fun hc1=>?_)
 ·exact absurd hB (by rw[show li (Cv.arc k w f t) x=false from by simpa using hc1,nj];decide)
 ·refine aA<|aa<|aa<|ag ?_
  refine ar (gY lW rfl) ?_
  refine bz rfl<|aA<|aa<|ag ?_
  refine ar (cO (cR k.x) aZ rfl (by kernel_rfl)) ?_
  refine ac rfl (dM (aO hx) (aO (hk.x)))<|aa<|ag ?_
  refine ac rfl (eE (by decide) (by decide)) ?_
  refine aa<|aa<|ag ?_
  refine ar (gY lW rfl) ?_
  refine aJ rfl (fun hc2=>?_) (fun hc2=>?_)
  ·have e9:((1:Int):Rat)=sW w:=Va hc2
   refine ag<|ac rfl (jJ (eE (by decide) (by decide)) e9) ?_
   refine aa<|dC 14 [] ?_
   refine aq (cO (cR k.y) aZ rfl (by kernel_rfl)) ?_
   refine aq (cO (cR k.q) aZ rfl (by kernel_rfl)) ?_
   refine aK rfl (co (aO (cT hx (hk.x))) (aO (cT hx (hk.x)))) ?_
   refine aK rfl (dM (aO (hk.q)) (aO (aP (cT hx (hk.x)) (cT hx (hk.x))))) ?_
   refine aK rfl (xS (c:=mK k x) (hk.y.m_) ((xA w).m_) ((ro hk (hx.m_)).m_) (fun h=>absurd h hm0) hs)<|a7 ?_
   exact ah (aS df rfl (az ae))
  ·have e9:((-1:Int):Rat)=sW w:=Ut hc2
   refine lh (σ':=⟨64,[(2,.p 2 0),(3,.p 3 0),(4,.p 4 0),(8,.p 8 0),(9,.p 9 0)],[(2,49,([.b true]++nr++aV k++[.b w]++aj f++aj t)),(3,38,cR x),(4,129,rQ),(8,38,cR (x-k.x)),(9,38,cR (sW w))]⟩) (ap ⟨rfl,rfl,rfl,rfl,rfl,trivial⟩ ⟨rfl,rfl,rfl,rfl,congrArg (fun q=>some (38,cR q)) e9,trivial⟩ rfl) ?_
   refine aA<|aa<|dC 14 [] ?_
   refine aq (cO (cR k.y) aZ rfl (by kernel_rfl)) ?_
   refine aq (cO (cR k.q) aZ rfl (by kernel_rfl)) ?_
   refine aK rfl (co (aO (cT hx (hk.x))) (aO (cT hx (hk.x)))) ?_
   refine aK rfl (dM (aO (hk.q)) (aO (aP (cT hx (hk.x)) (cT hx (hk.x))))) ?_
   refine aK rfl (xS (c:=mK k x) (hk.y.m_) ((xA w).m_) ((ro hk (hx.m_)).m_) (fun h=>absurd h hm0) hs)<|a7 ?_
   exact ah (aS df rfl (az ae))
theorem UE (vc:CvV (Cv.arc k w f t)) (hx:Rz 7000 x) (hb:yu (Cv.arc k w f t) x=true) (hs:je (mK k x)=false):Ok Tryz.prog 271 [.a (([.b true]++nr++aV k++[.b w]++aj f++aj t)),dR x] [.a ((cR k.y++cR (sW w)++cR (zc (sW w) (mK k x)))),.c (.i .i64 0)]:=by
 have hf:=vc.g.2.1
 have ht:=vc.g.2.2
 have hk:=vc.g.1
 have hB:=hb
 rw[lQ] at hB
 have ofk:OnK k f:=⟨hf,b5.1 vc.sp⟩
 have otk:OnK k t:=⟨ht,b5.1 vc.sq⟩
 have hm0: ¬mK k x<0:=by
  have hb2:=hb
  unfold yu at hb2
  rw[dL,dL] at hb2
  have:=Ct ofk otk (of_decide_eq_true hb2.2.1) (of_decide_eq_true hb2.2.2)
  grind
 refine eo Tryz.func271 64 [.cell 4 129,.tmp 5] rfl<|aa<|ag<|aa<|aa<|dC 9 [] ?_
 refine aq (gE bO rfl) ?_
 refine aK rfl ((show Ok _ _ _ [.c (.b false)] from BU hk hf ht)) ?_
 refine aq (bE rfl) ?_
 refine aq (gE bO rfl) ?_
 refine aK rfl (fu) ?_
 refine aK rfl (DG (c:=(Cv.arc k w f t)) vc.g (hx.m_)) ?_
 refine aJ rfl (fun hc1=>?_) (fun hc1=>?_)
 ·exact absurd hB (by rw[show li (Cv.arc k w f t) x=false from by simpa using hc1,nj];decide)
 ·refine aA<|aa<|aa<|ag ?_
  refine ar (gY lW rfl) ?_
  refine bz rfl<|aA<|aa<|ag ?_
  refine ar (cO (cR k.x) aZ rfl (by kernel_rfl)) ?_
  refine ac rfl (dM (aO hx) (aO (hk.x)))<|aa<|ag ?_
  refine ac rfl (eE (by decide) (by decide)) ?_
  refine aa<|aa<|ag ?_
  refine ar (gY lW rfl) ?_
  refine aJ rfl (fun hc2=>?_) (fun hc2=>?_)
  ·have e9:((1:Int):Rat)=sW w:=Va hc2
   refine ag<|ac rfl (jJ (eE (by decide) (by decide)) e9) ?_
   refine aa<|dC 14 [] ?_
   refine aq (cO (cR k.y) aZ rfl (by kernel_rfl)) ?_
   refine aq (cO (cR k.q) aZ rfl (by kernel_rfl)) ?_
   refine aK rfl (co (aO (cT hx (hk.x))) (aO (cT hx (hk.x)))) ?_
   refine aK rfl (dM (aO (hk.q)) (aO (aP (cT hx (hk.x)) (cT hx (hk.x))))) ?_
   refine aK rfl (wN (xP (c:=mK k x) (hk.y.m_) ((xA w).m_) ((ro hk (hx.m_)).m_) (fun h=>absurd h hm0) hs) rfl (VV hs) (Xd hs))<|a7 ?_
   exact ah (aS df rfl (az ae))
  ·have e9:((-1:Int):Rat)=sW w:=Ut hc2
   refine lh (σ':=⟨64,[(2,.p 2 0),(3,.p 3 0),(4,.p 4 0),(8,.p 8 0),(9,.p 9 0)],[(2,49,([.b true]++nr++aV k++[.b w]++aj f++aj t)),(3,38,cR x),(4,129,rQ),(8,38,cR (x-k.x)),(9,38,cR (sW w))]⟩) (ap ⟨rfl,rfl,rfl,rfl,rfl,trivial⟩ ⟨rfl,rfl,rfl,rfl,congrArg (fun q=>some (38,cR q)) e9,trivial⟩ rfl) ?_
   refine aA<|aa<|dC 14 [] ?_
   refine aq (cO (cR k.y) aZ rfl (by kernel_rfl)) ?_
   refine aq (cO (cR k.q) aZ rfl (by kernel_rfl)) ?_
   refine aK rfl (co (aO (cT hx (hk.x))) (aO (cT hx (hk.x)))) ?_
   refine aK rfl (dM (aO (hk.q)) (aO (aP (cT hx (hk.x)) (cT hx (hk.x))))) ?_
   refine aK rfl (wN (xP (c:=mK k x) (hk.y.m_) ((xA w).m_) ((ro hk (hx.m_)).m_) (fun h=>absurd h hm0) hs) rfl (VV hs) (Xd hs))<|a7 ?_
   exact ah (aS df rfl (az ae))
theorem Y4 (vc:CvV c) (hx:Rz 7000 x):Ok Tryz.prog 271 [.a (aC c),dR x] (if yu c x then[.a (We c x),.c (.i .i64 0)] else[.a rQ,.c (.i .i64 1)]):=by
 cases hb:yu c x with
 |false=>
  rw[if_neg (by decide)]
  cases c with
  |seg l f t=>exact Zb vc hx hb
  |arc k w f t=>exact ZY vc hx hb
 |true=>
  rw[if_pos rfl]
  cases c with
  |seg l f t=>exact ZD vc hx hb
  |arc k w f t=>
   cases hs:je (mK k x) with
   |true=>rw[Ry hs];exact UY vc hx hb hs
   |false=>rw[Qw hs];exact UE vc hx hb hs
end Go.Proofs.YtegpmhlfjkhjmaaGreat
