/-Plain:a list of points made shorter in place:each value once. -/
import Derived.Test.YtegpmhlfjkhjmaaGreatYgR
namespace Go.Proofs.YtegpmhlfjkhjmaaGreat
open Go Go.RowKit
variable {w:Bool}{k:Ci}{c e:Cv}{cs rs us:List CellD}{L L' M S:List Pt}{l:Ln}{c9 j off s:Nat}{f p q t:Pt}{m x:Rat}
structure CpS (S:List Pt) (m:Nat) (Y:List Pt):Prop where
 len:Y.length=S.length
 m1:1≤m
 mn:m≤S.length
 lt:(bt S m).length<m
 fst:Y.take (bt S m).length=bt S m
 rst:Y.drop (m-1)=S.drop (m-1)
section
variable {S Y:List Pt}{m:Nat}
theorem CpS.get (h:CpS S m Y) (hj:m-1≤j):Y.getD j dPt=S.getD j dPt:=by
 have e: ∀L:List Pt,L.getD j dPt=(L.drop (m-1)).getD (j-(m-1)) dPt:=fun L=>by
  rw[List.getD,List.getD,List.getElem?_drop];congr 2;omega
 rw[e,h.rst,←e]
theorem CpS.start {k:Nat}(h0:0<k) (hk:k<S.length) (hS: ∀i,i+1<k→cP (S.getD (i+1) dPt) (S.getD i dPt)≠0) (he:cP (S.getD k dPt) (S.getD (k-1) dPt)=0):CpS S (k+1) S∧(bt S (k+1)).length=k:=by
 have e1:bt S (k+1)=S.take k:=(HC h0 he).trans (A8 hS (by omega))
 have e2:(bt S (k+1)).length=k:=by rw[e1,gz];omega
 exact⟨⟨rfl,by omega,by omega,by omega,by rw[e2,e1],rfl⟩,e2⟩
theorem CpS.old (h:CpS S m Y) (hm:m<S.length) (he:cP (S.getD m dPt) (S.getD (m-1) dPt)=0):CpS S (m+1) Y∧bt S (m+1)=bt S m:=by
 have e1:=HC (S:=S) h.m1 he
 have hr:Y.drop m=S.drop m:=by
  have:=congrArg (List.drop 1) h.rst
  rw[List.drop_drop,List.drop_drop,show m-1+1=m from by have:=h.m1;omega] at this
  exact this
 have:=h.lt
 exact⟨⟨h.len,by omega,by omega,by rw[e1];omega,by rw[e1];exact h.fst,hr⟩,e1⟩
theorem CpS.new (h:CpS S m Y) (hm:m<S.length) (he:cP (S.getD m dPt) (S.getD (m-1) dPt)≠0):CpS S (m+1) (Y.set (bt S m).length (S.getD m dPt))∧(bt S (m+1)).length=(bt S m).length+1:=by
 have e1:=Gk (S:=S) he
 have e2:(bt S (m+1)).length=(bt S m).length+1:=by rw[e1,dj];rfl
 have hlt:=h.lt
 have hl:=h.len
 have hr:Y.drop m=S.drop m:=by
  have:=congrArg (List.drop 1) h.rst
  rw[List.drop_drop,List.drop_drop,show m-1+1=m from by have:=h.m1;omega] at this
  exact this
 refine⟨⟨by rw[wQ];exact hl,by omega,by omega,by omega,?_,?_⟩,e2⟩
 ·rw[e2,e1,r6 (d:=dPt) (by rw[wQ];omega),List.take_set_of_le (cj _),h.fst]
  congr 1
  simp[List.getD,show(bt S m).length<Y.length by omega]
 ·rw[show m+1-1=m from rfl,Ba (by omega),hr]
theorem IC (h:S.length≤1):bt S S.length=S:=by
 rw[A8 (fun i hi=>by omega) (cj _),pS]
theorem M9 (hS: ∀i,i+1<S.length→cP (S.getD (i+1) dPt) (S.getD i dPt)≠0):bt S S.length=S:=by
 rw[A8 hS (cj _),pS]
def X1 (n:Nat):List CellD:=(List.replicate n Us).flatten
theorem SX (n:Nat):(X1 n).length=n*20:=by
 unfold X1
 induction n with
 |zero=>rfl
 |succ n ih=>rw[List.replicate_succ,List.flatten_cons,dj,ih,show Us.length=20 from rfl];omega
theorem CpS.clr (h:CpS S m Y):(aJ ai Y++rs).take ((bt S m).length*20)++X1 (S.length-(bt S m).length)++(aJ ai Y++rs).drop ((bt S m).length*20+(S.length-(bt S m).length)*20)=aJ ai (bt S m)++(X1 (S.length-(bt S m).length)++rs):=by
 have hl:=aM aT Y
 have h1:=h.lt
 have h2:=h.mn
 have h3:=h.len
 rw[show(bt S m).length*20+(S.length-(bt S m).length)*20=(aJ ai Y).length from by omega,List.drop_left,xA (by omega),Du aT,h.fst,qc]
end
def yU (c:Cv) (D:List Pt) (n:Nat):List Pt:=(D.take n).filter (gP c)
def wj (c:Cv) (D:List Pt) (n:Nat):Pt:=(c.p::yU c D n).getD (yU c D n).length dPt
def FM (c:Cv) (D:List Pt) (n:Nat):List Cv:=jX c (c.p::yU c D n)
section
variable {c:Cv}{D:List Pt}{n:Nat}
theorem Ed:(FM c D n).length=(yU c D n).length:=by unfold FM;rw[sb];rfl
theorem qT (h:n<D.length) (g:gP c (D.getD n dPt)=false):yU c D (n+1)=yU c D n:=by
 unfold yU
 rw[r6 (d:=dPt) h,zY,List.filter_cons,if_neg (by rw[g];decide)]
 simp
theorem qK (h:n<D.length) (g:gP c (D.getD n dPt)=true):yU c D (n+1)=yU c D n++[D.getD n dPt]:=by
 unfold yU
 rw[r6 (d:=dPt) h,zY,List.filter_cons,if_pos g]
 simp
theorem FB (h:n<D.length) (g:gP c (D.getD n dPt)=false):wj c D (n+1)=wj c D n:=by unfold wj;rw[qT h g]
theorem Kn (h:n<D.length) (g:gP c (D.getD n dPt)=true):wj c D (n+1)=D.getD n dPt:=by
 unfold wj;rw[qK h g]
 simp[List.getD]
theorem Qt (h:n<D.length) (g:gP c (D.getD n dPt)=false):FM c D (n+1)=FM c D n:=by unfold FM;rw[qT h g]
theorem KI (h:n<D.length) (g:gP c (D.getD n dPt)=true):FM c D (n+1)=FM c D n++[c.ends (wj c D n) (D.getD n dPt)]:=by
 unfold FM wj;rw[qK h g,xy]
theorem UO:yU c D 0=[]:=by unfold yU;simp
theorem Z0:wj c D 0=c.p:=by unfold wj;rw[UO];rfl
theorem ED:q8 c (D.filter (gP c))=FM c D D.length++[c.ends (wj c D D.length) c.q]:=by
 unfold q8 FM wj yU
 rw[pS,xy]
theorem OU {x:Pt}(h:(cP x c.p==0)=true):gP c x=false:=by unfold gP;rw[h];rfl
theorem Ew {x:Pt}(h:(cP x c.p==0)=false):gP c x= !(cP x c.q==0):=by unfold gP;rw[h];rfl
end
section
variable {P:Program}{ops:Array Oper}{T:TF}{B:BF}{dst:Option Nat}{x i:Operand}{U:TypeId}{ty:TypeId}{pos:String}{af:Array Edge}{g:Option (Nat×Bool)}{n m c k q:Nat}{ki:IntKind}
theorem yz (hU:wW P U=some m) (hx:cO T x=some (.o k n c)) (hh:cO T i=some (.v (.c (.i ki q)))) (hq:q<n) (hnc:n≤c) (hg:gd ops ⟨dst,.slice U x (some i) none none,ty,pos,af,g⟩ T=some true):
 Sem P ops ⟨dst,.slice U x (some i) none none,ty,pos,af,g⟩ T B (.r (.w k (q*m) (n-q) (c-q))):=by
 have h:=Ai (P:=P) (ops:=ops) (T:=T) (B:=B) (dst:=dst) (ty:=ty) (pos:=pos) (af:=af) (g:=g) (ki:=ki) hU hx hh (Nat.le_of_lt hq) hnc hg
 rw[if_pos (by omega)] at h
 exact h
theorem ub {j:Int}(hU:wW P U=some m) (hx:cO T x=some (.w k (q*m) n c)) (hi:cO T i=some (.v (.c (.i ki j)))) (hj:0≤j∧j<n) (hs:(q:Int)+j=s) (hg:gd ops ⟨dst,.indexAddr U x i,ty,pos,af,g⟩ T=some true):
 Sem P ops ⟨dst,.indexAddr U x i,ty,pos,af,g⟩ T B (.r (.p k (s*m))):=
 bG hg (fun k' e=>by
  obtain rfl:k=k':=by injection e
  exact m9 (ops:=ops) (o:=⟨dst,.indexAddr U x i,ty,pos,af,g⟩) (by simp[Op.operands]) hx rfl) (fun V β a w hs'=>by
  have e:a.eval x=.slice (some ⟨β k,q*m,none⟩) n c:=ap hs' (x:=x) (by simp[Op.operands]) hx
  have h2:=fO (ap hs' (x:=i) (by simp[Op.operands]) hi)
  unfold wW at hU
  split at hU
  case h_2=>cases hU
  rename_i el hul
  cases hinf:P.info? el with
  |none=>rw[hinf] at hU;cases hU
  |some inf=>
   rw[hinf] at hU
   simp at hU
   have es:s*m=q*m+j.toNat*m:=by rw[←tF];congr 1;omega
   refine⟨.pointer (some ⟨β k,s*m,none⟩),?_,rfl⟩
   have hso: ∀w,(sizeOf el).run P w=.ok m w:=fun w=>by unfold sizeOf typeInfo;simp[program,Sem.run,hinf,hU]
   rw[es]
   simp[execOp,Instr.indexAt,e,h2,asIntOf,run_underlying hul,hj.1,hj.2,hso,jB])
theorem Mi (hU:wW P U=some m) (hx:cO T x=some (.w k off n c)) (hg:gd ops ⟨dst,.call ⟨.builtin .len,#[x],#[U]⟩,ty,pos,af,g⟩ T=some true):
 Sem P ops ⟨dst,.call ⟨.builtin .len,#[x],#[U]⟩,ty,pos,af,g⟩ T B (.r (.v (.c (.i .i64 n)))):=
 bG hg (qo rfl) (fun V β a w hs=>by
  have e:a.eval x=.slice (some ⟨β k,off,none⟩) n c:=ap hs (x:=x) (by simp[Op.operands,Call.operands]) hx
  unfold wW at hU
  split at hU
  ·rename_i el hu
   refine⟨.int .i64 n,?_,.i _ _⟩
   simp[execOp,resolve,invoke,builtin,Builtin.len_,e,run_underlying hu,goInt]
  ·cases hU)
def fvB (P:Program) (U:TypeId) (f:Nat):Option (Nat×Nat):=
 match P.underlying U with
 |some (.struct fs)=>match fs[f]? with
  |some fd=>match sw P fd.type with
   |some (true,n)=>some (fd.offset,n)
   |_=>none
  |none=>none
 |_=>none
theorem Ic {f:Nat}(hU:fvB P U f=some (off,n)) (hx:cO T x=some (.v (.a cs))) (hu:(cs.drop off).take n=us) (hg:gd ops ⟨dst,.field U x f,ty,pos,af,g⟩ T=some true):
 Sem P ops ⟨dst,.field U x f,ty,pos,af,g⟩ T B (.r (.v (.a us))):=
 bG hg (qo rfl) (fun V β a w hs=>by
  obtain⟨vs,e,hr⟩:=ap hs (x:=x) (by simp[Op.operands]) hx
  unfold fvB at hU
  split at hU
  case h_2=>cases hU
  rename_i fs hul
  split at hU
  case h_2=>cases hU
  rename_i fd hf
  split at hU
  case h_2=>cases hU
  rename_i m ht
  cases hU
  obtain⟨h1,h2⟩:=vF ht w
  refine⟨.agg (vs.extract fd.offset (fd.offset+n)),?_,_,rfl,?_⟩
  ·simp only[execOp,Instr.field,eH,run_underlying hul,fa,hf,e,asAgg,fQ,part,h1,h2,if_true]
  ·rw[←hu]
   have:=(hr.drop fd.offset).take n
   rw[show(vs.extract fd.offset (fd.offset+n)).toList=(vs.toList.drop fd.offset).take n from by simp[List.take_drop]]
   exact this)
end
theorem aa9 (hS: ∀p∈S,GP p) (lS:S.length≤12) (hc9:S.length≤c9):OkT Tryz.prog 310 47 S.length c9 ((bt S S.length).length) (aJ ai S++rs) (aJ ai (bt S S.length)++(X1 (S.length-(bt S S.length).length)++rs)) [.c (.f 220)]:=by
 refine OkT.of (K:=100000) (by kernel_rfl) Tryz.func310 rfl rfl rfl ?_
 rw[show Tryz.f310.ntmps=66 from rfl]
 refine ae<|ag<|ae<|ae<|ag<|ar (iJ fD rfl rfl) ?_
 refine aS rfl (fun hc1=>?_) (fun hc1=>?_)
 ·refine ae<|ag<|a9 ?_
  rw[IC (by have:=of_decide_eq_true hc1;omega),Nat.sub_self]
  exact⟨.inr rfl,rfl,4,rfl,rfl⟩
 ·have h2:2≤S.length:=by have:=of_decide_eq_false hc1;omega
  refine aB<|ae<|ae<|ag<|aP<|bF (ι:={k:Nat // 1≤k∧k≤S.length∧ ∀i,i+1<k→cP (S.getD (i+1) dPt) (S.getD i dPt)≠0}) (fun i=>⟨66,[(0,.o 100000 S.length c9),(1,.v (.c (.f 220))),(5,.v (.c (.i .i64 (i.1:Int))))],[(100000,47,aJ ai S++rs)]⟩) (fun i=>S.length-i.1) ⟨1,cj _,by omega,fun i hi=>absurd hi (by omega)⟩ (aA ⟨rfl,rfl,rfl,trivial⟩ ⟨rfl,trivial⟩ rfl) ?_
  rintro⟨k,hk1,hk2,hk3⟩
  replace hk1:1≤k:=hk1
  replace hk2:k≤S.length:=hk2
  replace hk3: ∀i,i+1<k→cP (S.getD (i+1) dPt) (S.getD i dPt)≠0:=hk3
  dsimp only
  refine ae<|ae<|ag<|ar (iJ fD rfl rfl) ?_
  refine aS rfl (fun hc2=>?_) (fun hc2=>?_)
  ·have g1:k<S.length:=by have:=of_decide_eq_true hc2;omega
   refine aB<|ae<|aP<|ae<|nu 11 rfl rfl<|cE 3<|bh (bk fD rfl rfl (by omega) rfl) ?_
   refine bh (cg (us:=ai (S.getD k dPt)) bE rfl rfl ((jt (e:=dPt) (O:=S) aT (by omega))) (aT _) rfl) ?_
   refine cE 2<|bh (bZ (((k-1:Nat):Int)) ((bI (by omega) (by omega)).trans (congrArg some (by omega))) rfl)<|bh (bk fD rfl rfl (by omega) rfl) ?_
   refine bh (cg (us:=ai (S.getD (k-1) dPt)) bE rfl rfl ((jt (e:=dPt) (O:=S) aT (by omega))) (aT _) rfl) ?_
   refine bh (cb rfl (xQ (GP.getD hS k) (GP.getD hS (k-1))))<|mT<|dN<|bD ?_
   refine aS rfl (fun hc3=>?_) (fun hc3=>?_)
   ·have g2:cP (S.getD k dPt) (S.getD (k-1) dPt)=0:=by simpa using hc3
    obtain⟨cs1,cs2⟩:=CpS.start (by omega) g1 hk3 g2
    refine ae<|ag<|ar (yz (q:=k) fD rfl rfl (by omega) (by omega) rfl) ?_
    refine ae<|ae<|ag<|aP<|bF (ι:={x9:Nat×List Pt // 1≤x9.1∧CpS S (k+x9.1) x9.2}) (fun i=>⟨66,[(0,.o 100000 S.length c9),(1,.v (.c (.f 220))),(5,.v (.c (.i .i64 (((bt S (k+i.1.1)).length:Int))))),(6,.w 100000 (k*20) (S.length-k) (c9-k)),(7,.v (.c (.i .i64 (i.1.1:Int))))],[(100000,47,aJ ai i.1.2++rs)]⟩) (fun i=>S.length-(k+i.1.1)) ⟨(1,S),cj _,cs1⟩ (aA ⟨rfl,rfl,congrArg (fun q=>some (DV.v (.c (.i .i64 ((q:Nat):Int))))) cs2.symm,rfl,rfl,trivial⟩ ⟨rfl,trivial⟩ rfl) ?_
    rintro⟨⟨q,Y⟩,hq1,hC⟩
    replace hq1:1≤q:=hq1
    replace hC:CpS S (k+q) Y:=hC
    have hY:=hC.len
    have hlt:=hC.lt
    have hmn:=hC.mn
    dsimp only
    refine ae<|ae<|ag<|ar (Mi fD rfl rfl) ?_
    refine aS rfl (fun hc4=>?_) (fun hc4=>?_)
    ·have g3:k+q<S.length:=by have:=of_decide_eq_true hc4;omega
     refine aB<|ae<|aP<|ae<|nu 12 rfl rfl<|cE 3<|bh (ub (s:=(k+q)) fD rfl rfl (⟨by omega,by omega⟩) (by omega) rfl) ?_
     refine bh (cg (us:=ai (S.getD (k+q) dPt)) bE rfl rfl ((jt (e:=dPt) (O:=Y) aT (by omega)).trans (congrArg ai (hC.get (by omega)))) (aT _) rfl) ?_
     refine cE 2<|bh (bZ (((q-1:Nat):Int)) ((bI (by omega) (by omega)).trans (congrArg some (by omega))) rfl)<|bh (ub (s:=(k+q-1)) fD rfl rfl (⟨by omega,by omega⟩) (by omega) rfl) ?_
     refine bh (cg (us:=ai (S.getD (k+q-1) dPt)) bE rfl rfl ((jt (e:=dPt) (O:=Y) aT (by omega)).trans (congrArg ai (hC.get (by omega)))) (aT _) rfl) ?_
     refine bh (cb rfl (xQ (GP.getD hS (k+q)) (GP.getD hS (k+q-1))))<|Aq<|dN<|bD ?_
     refine aS rfl (fun hc5=>?_) (fun hc5=>?_)
     ·have g4:cP (S.getD (k+q) dPt) (S.getD (k+q-1) dPt)≠0:=by simpa using hc5
      obtain⟨n1,n2⟩:=hC.new g3 g4
      refine ae<|bz<|bQ 4<|aW (ub (s:=(k+q)) fD rfl rfl (⟨by omega,by omega⟩) (by omega) rfl) ?_
      refine aW (cg (us:=ai (S.getD (k+q) dPt)) bE rfl rfl ((jt (e:=dPt) (O:=Y) aT (by omega)).trans (congrArg ai (hC.get (by omega)))) (aT _) rfl) ?_
      refine aW (bk fD rfl rfl (by omega) rfl) ?_
      refine iu (aY (us:=(aJ ai (Y.set (bt S (k+q)).length (S.getD (k+q) dPt)))++rs) bE rfl rfl rfl (aT _) (by rw[dj,aM aT];omega) (v5 aT (by omega) _) rfl) ?_
      refine bD<|ag<|ar (bZ ((((bt S (k+q)).length+1:Nat):Int)) ((bm (by omega) (by omega)).trans (congrArg some (by omega))) rfl)<|ag<|ar (eu (by omega) rfl) ?_
      exact⟨⟨(q+1,_),by show 1≤q+1;omega,n1⟩,aA ⟨rfl,rfl,congrArg (fun q=>some (DV.v (.c (.i .i64 ((q:Nat):Int))))) n2.symm,rfl,rfl,trivial⟩ ⟨rfl,trivial⟩ rfl,by show S.length-(k+(q+1))<S.length-(k+q);omega⟩
     ·have g4:cP (S.getD (k+q) dPt) (S.getD (k+q-1) dPt)=0:=by simpa using hc5
      obtain⟨n1,n2⟩:=hC.old g3 g4
      refine aB<|ag<|ar (eu (by omega) rfl) ?_
      exact⟨⟨(q+1,Y),by show 1≤q+1;omega,n1⟩,aA ⟨rfl,rfl,congrArg (fun q=>some (DV.v (.c (.i .i64 ((List.length q:Nat):Int))))) n2.symm,rfl,rfl,trivial⟩ ⟨rfl,trivial⟩ rfl,by show S.length-(k+(q+1))<S.length-(k+q);omega⟩
    ·have hm:k+q=S.length:=by have:=of_decide_eq_false hc4;omega
     refine b7<|ae<|ag<|ar (yz (q:=(((bt S (k+q)).length:Int)).toNat) fD rfl rfl (by omega) (by omega) rfl) ?_
     refine nM (DI (cs':=aJ ai (bt S (k+q))++(X1 (S.length-(bt S (k+q)).length)++rs)) jD rfl rfl (by rw[dj,aM aT];omega) (hC.clr) rfl) ?_
     refine ae<|ag<|ar (u9 (q:=(((bt S (k+q)).length:Int)).toNat) fD rfl rfl (by omega) rfl) ?_
     refine a9 ?_
     rw[show bt S S.length=bt S (k+q) from by rw[hm]]
     exact⟨.inr rfl,rfl,4,rfl,rfl⟩
   ·have g2:cP (S.getD k dPt) (S.getD (k-1) dPt)≠0:=by simpa using hc3
    refine aB<|ag<|ar (eu (by omega) rfl) ?_
    exact⟨⟨k+1,by omega,g1,fun i hi=>(kH (i+1) k).elim (hk3 i) fun e=>by rw[show i+1=k from by omega,show i=k-1 from by omega];exact g2⟩,aA ⟨rfl,rfl,rfl,trivial⟩ ⟨rfl,trivial⟩ rfl,by show S.length-(k+1)<S.length-k;omega⟩
  ·have hk:k=S.length:=by have:=of_decide_eq_false hc2;omega
   have hN: ∀i,i+1<S.length→cP (S.getD (i+1) dPt) (S.getD i dPt)≠0:=fun i hi=>hk3 i (by omega)
   refine b7<|ae<|ag<|a9 ?_
   rw[M9 hN,Nat.sub_self]
   exact⟨.inr rfl,rfl,4,rfl,rfl⟩
theorem abp:Ok Tryz.prog 219 [.a (aG c),.c (.s 0 [])] [.c (.s 0 [])]:=by
 refine ex Tryz.func219 12 [.tmp 4] rfl<|ae<|ag<|ae<|ag<|ac rfl (abv)<|ae<|jT (t:=2) (k:=2) rfl rfl<|ag<|ar (pM (us:=[.p (aG c)]) rfl rfl) ?_
 refine ac rfl (Xb)<|ae<|ag<|ac rfl ((show Ok _ _ _ [.c (.s 0 [])] from aa6 (S:=[]) (fun p h=>by cases h) (ju _) (fun i h=>by cases h)))<|a9 ?_
 exact ah (ak aa)
theorem m7 (hp:0≤p.c) (hq:0≤q.c) (h:cP p q=0):cP q p=0:=by rw[fg hp hq,h];rfl
theorem zu {r:Pt}(hp:0≤p.c) (hq:0≤q.c) (hr:0≤r.c) (h:cP p q=0) (g:cP q r=0):cP p r=0:=by
 obtain⟨g1,g2⟩:=d8.1 g
 exact d8.2 ⟨(vY hp hq h hr).trans g1,(AJ hp hq h hr).trans g2⟩
def jS (c:Cv) (L:List Pt):List Pt:=(bt (bc dPt (br c) L) L.length).filter (gP c)
section
variable {k:Ci}{w:Bool}{f t:Pt}(vc:CvV (.arc k w f t))
include vc
theorem Gr (hM:M.Pairwise fun p q=>(Cv.arc k w f t).ord p q<0) (hI: ∀x∈M,OnK k x∧(Cv.arc k w f t).inner x=true):(f::(M++[t])).Pairwise (fun p q=>(Cv.arc k w f t).ord p q<0)∧ ∀p∈f::(M++[t]),OnK k p:=by
 have of:=(CK vc).1
 have ot:=(CK vc).2
 have hon: ∀x,(Cv.arc k w f t).on x=true→OnK k x→(Cv.arc k w f t).ord x t≤0:=fun x hx ox=>(Cu.1 hx).2.2
 refine⟨List.pairwise_cons.2 ⟨fun x hx=>?_,xw.2 ⟨hM,Bf _ _,fun x hx y hy=>?_⟩⟩,fun x hx=>?_⟩
 ·rcases ol.1 hx with hx|hx
  ·exact I9 vc of (hI x hx).1 (yR of (hI x hx).1) (oW.1 (hI x hx).2).2.1
  ·rw[kj.1 hx];exact I9 vc of ot (yR of ot) vc.ne
 ·rw[kj.1 hy]
  exact I9 vc (hI x hx).1 ot (hon x (Nz (hI x hx).2) (hI x hx).1) (OI vc.g (hI x hx).1.1 (hI x hx).2).2
 ·rcases dM.1 hx with rfl|hx
  ·exact of
  ·rcases ol.1 hx with hx|hx
   ·exact(hI x hx).1
   ·rw[kj.1 hx];exact ot
theorem Me (hM:M.Pairwise fun p q=>(Cv.arc k w f t).ord p q<0) (hI: ∀x∈M,OnK k x∧(Cv.arc k w f t).inner x=true):qy (.arc k w f t) ([f,t]++M)=f::(M++[t]):=by
 have of:=(CK vc).1
 obtain⟨h1,h2⟩:=Gr vc hM hI
 have hTL:(f::(M++[t])).Perm ([f,t]++M):=List.Perm.cons f List.perm_append_comm
 have hLon: ∀y∈ [f,t]++M,OnK k y:=fun y hy=>h2 y (hTL.mem_iff.2 hy)
 obtain⟨g1,g2⟩:=zG (k:=k) (w:=w) (f:=f) (t:=t) vc.pos of hLon
 have hne: ∀ {a b:Pt},OnK k a→OnK k b→(Cv.arc k w f t).ord a b<0→cP a b≠0:=fun oa ob h=>rd vc.g oa.1 ob.1 h
 have hself: ∀x,OnK k x→ ¬(Cv.arc k w f t).ord x x<0:=fun x ox h=>hne ox ox h (kX (a7 ox))
 have pw:(f::(M++[t])).Pairwise fun a b=>cP a b≠0:=ti (fun{a b} ha hb h=>hne (h2 a ha) (h2 b hb) h) h1
 have same:=KP (fun a ha b hb e=>m7 (a7 (h2 a ha)) (a7 (h2 b hb)) e) pw
 have nd: ∀ {L:List Pt},(∀y∈L,OnK k y)→L.Pairwise (fun p q=>(Cv.arc k w f t).ord p q<0)→L.Nodup:=fun ho hs=>ti (fun{a b} ha _ hab e=>by subst e;exact hself a (ho a ha) hab) hs
 have hm: ∀z∈qy (.arc k w f t) ([f,t]++M),z∈f::(M++[t]):=fun z hz=>hTL.mem_iff.2 (mX hz)
 refine Cj (fun a ha b hb g g3=>?_) ((List.perm_ext_iff_of_nodup (nd (fun y hy=>h2 y (hm y hy)) g1) (nd h2 h1)).2 fun z=>⟨hm z,fun hz=>?_⟩) g1 h1
 ·have:=jy (w:=w) (t:=t) of (h2 a (hm a ha)) (h2 b (hm b hb))
  omega
 ·obtain⟨y,hy,e⟩:=g2 z (hTL.mem_iff.1 hz)
  rw[←same y (hm y hy) z hz e];exact hy
section
variable {L:List Pt}(hL: ∀p∈L,GP p∧(Cv.arc k w f t).on p=true)
include hL
theorem Ez:(jS (.arc k w f t) L).Pairwise (fun p q=>(Cv.arc k w f t).ord p q<0)∧(∀x∈jS (.arc k w f t) L,(OnK k x∧(Cv.arc k w f t).inner x=true)∧x∈L)∧ ∀x∈L,(∃y∈jS (.arc k w f t) L,cP y x=0)∨cP f x=0∨cP t x=0:=by
 have of:=(CK vc).1
 have ot:=(CK vc).2
 have hp:=iI (e:=dPt) (C:=br (.arc k w f t)) L
 have hlen:=fk (e:=dPt) (C:=br (.arc k w f t)) L
 have oL: ∀x∈L,OnK k x:=fun x hx=>zF (hL x hx).1 (hL x hx).2
 have heq: ∀x∈L,∀y∈L,br (.arc k w f t) x y=(Cv.arc k w f t).ord x y:=fun x hx y hy=>SK vc rfl (hL x hx).1 (hL y hy).1 (hL x hx).2 (hL y hy).2
 have hs:=v8 (e:=dPt) (C:=br (.arc k w f t)) (G:=fun p=>p∈L) (fun x y hx hy=>by
  rw[heq x hx y hy,heq y hy x hx];exact jy of (oL x hx) (oL y hy)) (fun x y z hx hy hz h1 h2=>by
  rw[heq x hx y hy] at h1
  rw[heq y hy z hz] at h2
  rw[heq x hx z hz]
  exact GU (sB of (oL x hx) (oL y hy) (oL z hz)) h1 h2) L (O:=[]) (fun y hy=>hy) (fun y hy=>by cases hy) .nil
 have hs:(bc dPt (br (.arc k w f t)) L).Pairwise fun a b=>(Cv.arc k w f t).ord a b≤0:=ti (fun{a b} ha hb g=>by rw[←heq a (hp.mem_iff.1 ha) b (hp.mem_iff.1 hb)];exact g) hs
 have oS: ∀x∈bc dPt (br (.arc k w f t)) L,OnK k x:=fun x hx=>oL x (hp.mem_iff.1 hx)
 have hn:L.length≤(bc dPt (br (.arc k w f t)) L).length:=by omega
 have hd:=Nu (C:=(Cv.arc k w f t).ord) (G:=OnK k) (fun x y hx hy=>jy of hx hy) (fun x y z hx hy hz h1 h2=>GU (sB of hx hy hz) h1 h2) (fun x y hx hy e=>m7 (a7 hx) (a7 hy) (uC vc.pos of hx hy e)) oS hs hn
 have mL: ∀x∈bt (bc dPt (br (.arc k w f t)) L) L.length,x∈L:=fun x hx=>hp.mem_iff.1 (B9 hn hx)
 have nz: ∀ {a b:Pt},OnK k a→OnK k b→(!(cP a b==0))=true→cP b a≠0:=fun oa ob h e=>by
  rw[m7 (a7 ob) (a7 oa) e] at h;cases h
 refine⟨List.Pairwise.filter _ hd,fun x hx=>?_,fun x hx=>?_⟩
 ·obtain⟨h1,h2⟩:=ln.1 hx
  have hxL:=mL x h1
  unfold gP at h2
  rw[dF] at h2
  exact⟨⟨oL x hxL,oW.2 ⟨(hL x hxL).2,nz (oL x hxL) of h2.1,nz (oL x hxL) ot h2.2⟩⟩,hxL⟩
 ·obtain⟨i,hi,e⟩:=List.mem_iff_getElem.1 (hp.mem_iff.2 hx)
  obtain⟨y,hy,e2⟩:=Ot (S:=bc dPt (br (.arc k w f t)) L) (fun p h=>a7 (oS p h)) hn (show i<L.length by omega)
  rw[show(bc dPt (br (.arc k w f t)) L).getD i dPt=x from by rw[List.getD,ip hi];exact e] at e2
  have oy:=oL y (mL y hy)
  cases g:gP (.arc k w f t) y with
  |true=>exact .inl ⟨y,ln.2 ⟨hy,g⟩,e2⟩
  |false=>
   unfold gP at g
   have ox:=oL x hx
   cases g1:cP y f==0 with
   |true=>
    have z:cP y f=0:=beq_iff_eq.1 g1
    exact .inr (.inl (zu (a7 of) (a7 oy) (a7 ox) (m7 (a7 oy) (a7 of) z) e2))
   |false=>
    have z:cP y t=0:=by
     have g:(!(cP y f==0)&& !(cP y t==0))=false:=g
     rw[g1] at g
     simpa using g
    exact .inr (.inr (zu (a7 ot) (a7 oy) (a7 ox) (m7 (a7 oy) (a7 ot) z) e2))
theorem BQ:q8 (.arc k w f t) (jS (.arc k w f t) L)=mN (.arc k w f t) (jS (.arc k w f t) L):=by
 obtain⟨h1,h2,_⟩:=Ez vc hL
 show jX _ (f::(jS (.arc k w f t) L++[t]))=jX _ (qy (.arc k w f t) ([f,t]++jS (.arc k w f t) L))
 rw[Me vc h1 fun x hx=>(h2 x hx).1]
theorem Rg (hL': ∀p∈L',GP p∧(Cv.arc k w f t).on p=true) (h12: ∀x∈L,∃y∈L',cP x y=0) (h21: ∀y∈L',∃x∈L,cP y x=0):
 ∃T T':List Pt,q8 (.arc k w f t) (jS (.arc k w f t) L)=jX (.arc k w f t) T∧mN (.arc k w f t) L'=jX (.arc k w f t) T'∧T.length=T'.length∧2≤T.length∧T.length≤L.length+2∧(∀i,i<T.length→cP (T.getD i dPt) (T'.getD i dPt)=0)∧
  (∀x∈T,OnK k x)∧(∀x∈T',OnK k x)∧T.Pairwise (fun p q=>(Cv.arc k w f t).ord p q<0)∧T'.Pairwise (fun p q=>(Cv.arc k w f t).ord p q<0)∧T.getD 0 dPt=f∧T.getD (T.length-1) dPt=t:=by
 have of:=(CK vc).1
 have ot:=(CK vc).2
 obtain⟨h1,h2,h3⟩:=Ez vc hL
 obtain⟨s1,s2⟩:=Gr vc h1 fun x hx=>(h2 x hx).1
 have oL': ∀y∈ [f,t]++L',OnK k y:=fun y hy=>by
  rcases ol.1 hy with hy|hy
  ·simp only[dM,rm,or_false] at hy
   rcases hy with rfl|rfl<;>assumption
  ·exact zF (hL' y hy).1 (hL' y hy).2
 obtain⟨g1,g2⟩:=zG (k:=k) (w:=w) (f:=f) (t:=t) vc.pos of oL'
 have o2: ∀y∈qy (.arc k w f t) ([f,t]++L'),OnK k y:=fun y hy=>oL' y (mX hy)
 have z0: ∀ {a b:Pt},OnK k a→OnK k b→cP a b=0→(Cv.arc k w f t).ord a b=0:=fun oa ob h=>uY (a7 oa) (a7 ob) h vc.g
 have hlen:(f::(jS (.arc k w f t) L++[t])).length=(jS (.arc k w f t) L).length+2:=by simp
 have hle:(jS (.arc k w f t) L).length≤L.length:=mM (rg _ _) yO
 have k1: ∀a∈f::(jS (.arc k w f t) L++[t]),∃b∈qy (.arc k w f t) ([f,t]++L'),(Cv.arc k w f t).ord a b=0:=by
  intro a ha
  have oa:=s2 a ha
  have fnd: ∀y∈ [f,t]++L',cP a y=0→ ∃b∈qy (.arc k w f t) ([f,t]++L'),(Cv.arc k w f t).ord a b=0:=fun y hy e=>by
   obtain⟨z,hz,e3⟩:=g2 y hy
   have oy:=oL' y hy
   have oz:=o2 z hz
   exact⟨z,hz,z0 oa oz (zu (a7 oa) (a7 oy) (a7 oz) e (m7 (a7 oz) (a7 oy) e3))⟩
  rcases dM.1 ha with rfl|ha
  ·exact fnd a (by simp) (kX (a7 oa))
  ·rcases ol.1 ha with ha|ha
   ·obtain⟨y,hy,e⟩:=h12 a (h2 a ha).2
    exact fnd y (by simp[hy]) e
   ·rw[kj.1 ha] at fnd⊢
    exact fnd t (by simp) (kX (a7 ot))
 have k2: ∀b∈qy (.arc k w f t) ([f,t]++L'),∃a∈f::(jS (.arc k w f t) L++[t]),(Cv.arc k w f t).ord a b=0:=by
  intro b hb
  have ob:=o2 b hb
  have inT: ∀x∈f::(jS (.arc k w f t) L++[t]),cP x b=0→ ∃a∈f::(jS (.arc k w f t) L++[t]),(Cv.arc k w f t).ord a b=0:=fun x hx e=>⟨x,hx,z0 (s2 x hx) ob e⟩
  rcases ol.1 (mX hb) with hb2|hb2
  ·simp only[dM,rm,or_false] at hb2
   rcases hb2 with rfl|rfl
   ·exact inT b (by simp) (kX (a7 ob))
   ·exact inT b (by simp) (kX (a7 ob))
  ·obtain⟨x,hx,e⟩:=h21 b hb2
   have ox:=zF (hL x hx).1 (hL x hx).2
   have e':=m7 (a7 ob) (a7 ox) e
   rcases h3 x hx with⟨y,hy,ey⟩|ey|ey
   ·exact inT y (by simp[hy]) (zu (a7 (h2 y hy).1.1) (a7 ox) (a7 ob) ey e')
   ·exact inT f (by simp) (zu (a7 of) (a7 ox) (a7 ob) ey e')
   ·exact inT t (by simp) (zu (a7 ot) (a7 ox) (a7 ob) ey e')
 obtain⟨e1,e2⟩:=JL (e:=dPt) (C:=(Cv.arc k w f t).ord) (G:=OnK k) (fun x y hx hy=>jy of hx hy) (fun x y z hx hy hz h1 h2=>GU (sB of hx hy hz) h1 h2) s2 o2 s1 g1 k1 k2
 refine⟨f::(jS (.arc k w f t) L++[t]),qy (.arc k w f t) ([f,t]++L'),rfl,rfl,e1,by omega,by omega,fun i hi=>?_,s2,o2,s1,g1,rfl,?_⟩
 ·exact uC vc.pos of (s2 _ (bJ hi)) (o2 _ (bJ (by omega))) (e2 i hi)
 ·rw[hlen,show(jS (.arc k w f t) L).length+2-1=(jS (.arc k w f t) L).length+1 from by omega]
  simp[List.getD]
end
end
theorem Jh (c:Cv): ∀ {T:List Pt}{i:Nat},i+1<T.length→(jX c T).getD i bL=c.ends (T.getD i dPt) (T.getD (i+1) dPt)
 |p::q::l,0,_=>rfl
 |p::q::l,i+1,h=>Jh c (T:=q::l) (by simpa using h)
 |[_],i,h=>by simp at h
 |[],i,h=>by simp at h
theorem Yh (vc:CvV c) (ha:c.isArc=true) (hG: ∀p∈L,GP p) (lL:L.length≤12) (hl:0<L.length):Ok Tryz.prog 219 [.a (aG c),.c (.s ((L).length) (aJ ai (L)))] [.c (.s ((bt (bc dPt (br c) L) L.length).length) (aJ ai (bt (bc dPt (br c) L) L.length)))]:=by
 have hS: ∀p∈(bc dPt (br c) L),GP p:=fun p h=>hG p ((iI _).mem_iff.1 h)
 have lS:(bc dPt (br c) L).length≤12:=by rw[fk];exact lL
 have lD:(bt (bc dPt (br c) L) L.length).length≤L.length:=yO
 refine ex Tryz.func219 12 [.tmp 4] rfl<|ae<|ag<|ae<|bz<|bQ 1 ?_
 refine yT rfl rfl (abG hl lL) rfl rfl (fun cg1 rg1 hga1 hgb1 hgc1=>?_)
 refine fL<|ae<|jT (t:=2) (k:=2) rfl rfl<|ag<|ar (pM (us:=[.p (aG c)]) rfl rfl) ?_
 refine DL.mk<|r5 (jO rfl rfl rfl rfl rfl (ZR vc ha hl lL hG) rfl)<|eQ ?_
 refine ae<|bz<|bQ 1<|FZ rfl rfl rfl rfl rfl ((by have h9:=aa9 (S:=(bc dPt (br c) L)) (c9:=cg1) (rs:=rg1) hS lS (by rw[fk];exact hga1);rw[fk] at h9;exact h9)) rfl ?_
 refine fL<|fu (t:=4) (m:=20) (us:=aJ ai (bt (bc dPt (br c) L) L.length)) rfl rfl (tP (n:=(bt (bc dPt (br c) L) L.length).length) (aM aT _) (by rw[dj,SX];omega) (by omega)) (by omega) (by assumption) (nQ (aM aT _))<|a9 ?_
 exact ah (ak aa)
theorem abq (vc:CvV c) (ha:c.isArc=true) (hG: ∀p∈L,GP p) (lL:L.length≤12):Ok Tryz.prog 219 [.a (aG c),.c (.s ((L).length) (aJ ai (L)))] [.c (.s ((bt (bc dPt (br c) L) L.length).length) (aJ ai (bt (bc dPt (br c) L) L.length)))]:=by
 rcases jd L.length with h|h
 ·obtain rfl:=mI.1 h
  exact abp
 ·exact Yh vc ha hG lL h
theorem Vn (vc:CvV c) (ha:c.isArc=true) (hG: ∀p∈L,GP p) (lL:L.length≤12) (hon: ∀p∈L,c.on p=true):OkN Tryz.prog 124 [.a (aG c),.c (.s ((L).length) (aJ ai (L)))] 49 ((q8 c (jS c L)).length) 66 (aJ aG (q8 c (jS c L))) [.c (.i .i64 0)]:=by
 have hD: ∀p∈(bt (bc dPt (br c) L) L.length),GP p:=fun p h=>hG p ((iI _).mem_iff.1 (B9 (by rw[fk];exact cj _) h))
 have lD:(bt (bc dPt (br c) L) L.length).length≤L.length:=yO
 refine OkN.of (by kernel_rfl) Tryz.func124 rfl rfl ?_
 rw[show Tryz.f124.ntmps=47 from rfl]
 refine ae<|bz<|bQ 1<|aW (i9 rfl) ?_
 refine fL<|ae<|ae<|jT (t:=2) (k:=2) rfl rfl<|ag<|ar (pM (us:=[.p (aG c)]) rfl rfl) ?_
 refine ac rfl (abt vc ha hG lL hon)<|bn rfl<|aB<|ae<|bz<|aW (i9 rfl) ?_
 refine bD<|ae<|ag<|ar (lp (us:=aG c) bT rfl (jY (tS (aj _))) (aj _) rfl) ?_
 refine nM (du bT rfl rfl rfl (aj _) rfl rfl) ?_
 refine ae<|ae<|ag<|ar (lp (us:=aG c) bT rfl (jY (tS (aj _))) (aj _) rfl) ?_
 refine ac rfl (abq vc ha hG lL) ?_
 refine aP ?_
 refine bF (ι:=Sum ({n:Nat // n≤(bt (bc dPt (br c) L) L.length).length∧(yU c (bt (bc dPt (br c) L) L.length) n)=[]}) ({x9:Nat×Nat×List CellD // x9.1≤(bt (bc dPt (br c) L) L.length).length∧(yU c (bt (bc dPt (br c) L) L.length) x9.1).length≤x9.2.1∧x9.2.1≤maxLen∧x9.2.2.length=(x9.2.1-(yU c (bt (bc dPt (br c) L) L.length) x9.1).length)*66})) (fun i=>match i with| .inl i=>⟨47,[(2,.v (.c (.p (aG c)))),(7,.p 7 0),(17,.v (.c (.s ((bt (bc dPt (br c) L) L.length).length) (aJ ai (bt (bc dPt (br c) L) L.length))))),(6,.z),(18,.v (.c (.i .i64 (((bt (bc dPt (br c) L) L.length).length:Int))))),(19,.v (.c (.i .i64 (i.1:Int))))],[(7,49,aG ((c.ends (wj c (bt (bc dPt (br c) L) L.length) i.1) c.q)))]⟩| .inr i=>⟨47,[(2,.v (.c (.p (aG c)))),(7,.p 7 0),(17,.v (.c (.s ((bt (bc dPt (br c) L) L.length).length) (aJ ai (bt (bc dPt (br c) L) L.length))))),(6,.o 41 ((yU c (bt (bc dPt (br c) L) L.length) i.1.1).length) i.1.2.1),(18,.v (.c (.i .i64 (((bt (bc dPt (br c) L) L.length).length:Int))))),(19,.v (.c (.i .i64 (i.1.1:Int))))],[(7,49,aG ((c.ends (wj c (bt (bc dPt (br c) L) L.length) i.1.1) c.q))),(41,49,aJ aG (FM c (bt (bc dPt (br c) L) L.length) i.1.1)++i.1.2.2)]⟩) (fun i=>match i with| .inl i=>(bt (bc dPt (br c) L) L.length).length-i.1| .inr i=>(bt (bc dPt (br c) L) L.length).length-i.1.1) (.inl ⟨0,ju _,UO⟩) (aA ⟨rfl,rfl,rfl,rfl,rfl,rfl,trivial⟩ ⟨congrArg (fun q=>some (49,aG q)) (by rw[Z0,LA]),trivial⟩ rfl) ?_
 rintro(⟨n,h2,h3⟩|⟨⟨n,c9,rs⟩,h2,h3,h4,h5⟩)
 ·replace h2:n≤(bt (bc dPt (br c) L) L.length).length:=h2
  replace h3:(yU c (bt (bc dPt (br c) L) L.length) n)=[]:=h3
  dsimp only
  refine ae<|ag<|ae ?_
  refine aS rfl (fun hc1=>?_) (fun hc1=>?_)
  ·have g1:n<(bt (bc dPt (br c) L) L.length).length:=by have:=of_decide_eq_true hc1;omega
   have hx:=hD _ (bJ (d:=dPt) g1)
   refine aB<|ae<|aP<|ae<|ag<|ar (tX dPt aT g1 fD rfl)<|ar (qh aT bE rfl)<|ae<|ae<|ag ?_
   refine ar (tg I0 rfl rfl rfl) ?_
   refine ar (gF (us:=ai c.p) bE rfl (qa _) rfl rfl) ?_
   refine ac rfl (xQ hx (jK vc.g)) ?_
   refine jC (bq rfl) (fun c2 hb2=>?_)
   cases c2
   ·refine ar (tg Ef rfl rfl rfl) ?_
    refine ar (gF (us:=ai c.q) bE rfl (uu _) rfl rfl) ?_
    refine ac rfl (xQ hx (s8 vc.g)) ?_
    refine aS rfl (fun hc3=>?_) (fun hc3=>?_)
    ·have g2:gP c ((bt (bc dPt (br c) L) L.length).getD n dPt)=false:=(Ew hb2).trans (by rw[hc3];rfl)
     refine b7<|ag<|ar (eu (by omega) rfl) ?_
     exact⟨.inl ⟨n+1,g1,by rw[qT g1 g2];exact h3⟩,aA ⟨rfl,rfl,rfl,rfl,rfl,rfl,trivial⟩ ⟨congrArg (fun q=>some (49,aG (c.ends q c.q))) (FB g1 g2).symm,trivial⟩ rfl,by show(bt (bc dPt (br c) L) L.length).length-(n+1)<(bt (bc dPt (br c) L) L.length).length-n;omega⟩
    ·have g2:gP c ((bt (bc dPt (br c) L) L.length).getD n dPt)=true:=(Ew hb2).trans (by rw[hc3];rfl)
     refine aB<|ae<|ag ?_
     refine ar (oG (aj _) bT rfl) ?_
     refine nM (du bT rfl rfl rfl (aj _) rfl rfl) ?_
     refine ae<|fb 6 [10,7,999999] ?_
     refine DQ.mk<|iM (aY (us:=aG (((c.ends (wj c (bt (bc dPt (br c) L) L.length) n) c.q)).ends ((c.ends (wj c (bt (bc dPt (br c) L) L.length) n) c.q)).p ((((bt (bc dPt (br c) L) L.length).getD n dPt))))) bE rfl rfl rfl rfl (by rw[aj];decide) (DA _ _) rfl) rfl rfl rfl rfl<|dc ?_
     refine DQ.mk<|iM (aY (us:=aG (((c.ends (wj c (bt (bc dPt (br c) L) L.length) n) c.q)).setp ((((bt (bc dPt (br c) L) L.length).getD n dPt))))) bE rfl rfl rfl rfl (by rw[aj];decide) (DY _ _) rfl) rfl rfl rfl rfl<|dc ?_
     refine ag ?_
     refine ar (oG (aj _) bT rfl) ?_
     refine ar (da (n:=1) (us:=aG (((c.ends (wj c (bt (bc dPt (br c) L) L.length) n) c.q)).ends ((c.ends (wj c (bt (bc dPt (br c) L) L.length) n) c.q)).p ((((bt (bc dPt (br c) L) L.length).getD n dPt))))) wh rfl (C9 rfl (aj _)) (je (aj _)) (by decide) (by decide) rfl) ?_
     refine DL.mk<|rJ (ys:=aG (((c.ends (wj c (bt (bc dPt (br c) L) L.length) n) c.q)).ends ((c.ends (wj c (bt (bc dPt (br c) L) L.length) n) c.q)).p ((((bt (bc dPt (br c) L) L.length).getD n dPt))))) wh rfl rfl (je (aj _)) (by decide) (by decide) (by decide) rfl rfl (fun cg4 rg4 hga4 hgb4 hgc4=>eQ ?_)
     refine ag<|ar (eu (by omega) rfl) ?_
     exact⟨.inr ⟨⟨n+1,cg4,rg4⟩,g1,by show(yU c (bt (bc dPt (br c) L) L.length) (n+1)).length≤cg4;rw[qK g1 g2,h3];exact hga4,hgb4,by show rg4.length=(cg4-(yU c (bt (bc dPt (br c) L) L.length) (n+1)).length)*66;rw[qK g1 g2,h3];exact hgc4⟩,aA ⟨rfl,rfl,rfl,congrArg (fun q=>some (DV.o 41 q cg4)) (by rw[qK g1 g2,h3];rfl),rfl,rfl,trivial⟩ ⟨congrArg (fun q=>some (49,aG q)) (by rw[DO,Kn g1 g2]),congrArg (fun q=>some (49,q++rg4)) (by rw[KI g1 g2,gW,jc,DK,show(FM c (bt (bc dPt (br c) L) L.length) n)=[] from by unfold FM;rw[h3];rfl];rfl),trivial⟩ rfl,by show(bt (bc dPt (br c) L) L.length).length-(n+1)<(bt (bc dPt (br c) L) L.length).length-n;omega⟩
   ·have g2:gP c ((bt (bc dPt (br c) L) L.length).getD n dPt)=false:=OU hb2
    refine dG rfl<|b7<|ag<|ar (eu (by omega) rfl) ?_
    exact⟨.inl ⟨n+1,g1,by rw[qT g1 g2];exact h3⟩,aA ⟨rfl,rfl,rfl,rfl,rfl,rfl,trivial⟩ ⟨congrArg (fun q=>some (49,aG (c.ends q c.q))) (FB g1 g2).symm,trivial⟩ rfl,by show(bt (bc dPt (br c) L) L.length).length-(n+1)<(bt (bc dPt (br c) L) L.length).length-n;omega⟩
  ·have hp:n=(bt (bc dPt (br c) L) L.length).length:=by have:=of_decide_eq_false hc1;omega
   have hO:(FM c (bt (bc dPt (br c) L) L.length) n)=[]:=by unfold FM;rw[h3];rfl
   have eC:(q8 c (jS c L))=[c.ends (wj c (bt (bc dPt (br c) L) L.length) n) c.q]:=by show q8 c ((bt (bc dPt (br c) L) L.length).filter (gP c))=_;rw[ED,←hp,hO];rfl
   have eN:(q8 c (jS c L)).length=1:=by rw[eC];rfl
   refine b7<|ae<|ag ?_
   refine ar (oG (aj _) bT rfl) ?_
   refine ar (da (n:=1) (us:=aG ((c.ends (wj c (bt (bc dPt (br c) L) L.length) n) c.q))) wh rfl (C9 rfl (aj _)) (je (aj _)) (by decide) (by decide) rfl) ?_
   refine DL.mk<|rJ (ys:=aG ((c.ends (wj c (bt (bc dPt (br c) L) L.length) n) c.q))) wh rfl rfl (je (aj _)) (by decide) (by decide) (by decide) rfl rfl (fun cg5 rg5 hga5 hgb5 hgc5=>eQ ?_)
   refine a9 ?_
   exact⟨.inr rfl,4,46,cg5,[.tmp 5],rg5,rfl,congrArg (fun q=>some (DV.o 46 q cg5)) (eN.symm),congrArg (fun q=>some (49,q++rg5)) (by rw[eC,jc]),by omega,by assumption,by rw[eN];assumption,(ak aa)⟩
 ·dsimp only at h2 h3 h4 h5
  have h6:(yU c (bt (bc dPt (br c) L) L.length) n).length≤12:=mM (rg _ _) (by rw[gz];omega)
  dsimp only
  refine ae<|ag<|ae ?_
  refine aS rfl (fun hc6=>?_) (fun hc6=>?_)
  ·have g1:n<(bt (bc dPt (br c) L) L.length).length:=by have:=of_decide_eq_true hc6;omega
   have hx:=hD _ (bJ (d:=dPt) g1)
   refine aB<|ae<|aP<|ae<|ag<|ar (tX dPt aT g1 fD rfl)<|ar (qh aT bE rfl)<|ae<|ae<|ag ?_
   refine ar (tg I0 rfl rfl rfl) ?_
   refine ar (gF (us:=ai c.p) bE rfl (qa _) rfl rfl) ?_
   refine ac rfl (xQ hx (jK vc.g)) ?_
   refine jC (bq rfl) (fun c7 hb7=>?_)
   cases c7
   ·refine ar (tg Ef rfl rfl rfl) ?_
    refine ar (gF (us:=ai c.q) bE rfl (uu _) rfl rfl) ?_
    refine ac rfl (xQ hx (s8 vc.g)) ?_
    refine aS rfl (fun hc8=>?_) (fun hc8=>?_)
    ·have g2:gP c ((bt (bc dPt (br c) L) L.length).getD n dPt)=false:=(Ew hb7).trans (by rw[hc8];rfl)
     refine b7<|ag<|ar (eu (by omega) rfl) ?_
     exact⟨.inr ⟨⟨n+1,c9,rs⟩,g1,by show(yU c (bt (bc dPt (br c) L) L.length) (n+1)).length≤c9;rw[qT g1 g2];exact h3,h4,by show rs.length=(c9-(yU c (bt (bc dPt (br c) L) L.length) (n+1)).length)*66;rw[qT g1 g2];exact h5⟩,aA ⟨rfl,rfl,rfl,congrArg (fun q=>some (DV.o 41 (List.length q) c9)) (qT g1 g2).symm,rfl,rfl,trivial⟩ ⟨congrArg (fun q=>some (49,aG (c.ends q c.q))) (FB g1 g2).symm,congrArg (fun q=>some (49,aJ aG q++rs)) (Qt g1 g2).symm,trivial⟩ rfl,by show(bt (bc dPt (br c) L) L.length).length-(n+1)<(bt (bc dPt (br c) L) L.length).length-n;omega⟩
    ·have g2:gP c ((bt (bc dPt (br c) L) L.length).getD n dPt)=true:=(Ew hb7).trans (by rw[hc8];rfl)
     refine aB<|ae<|ag ?_
     refine ar (oG (aj _) bT rfl) ?_
     refine nM (du bT rfl rfl rfl (aj _) rfl rfl) ?_
     refine ae<|fb 6 [10,7,999999] ?_
     refine DQ.mk<|iM (aY (us:=aG (((c.ends (wj c (bt (bc dPt (br c) L) L.length) n) c.q)).ends ((c.ends (wj c (bt (bc dPt (br c) L) L.length) n) c.q)).p ((((bt (bc dPt (br c) L) L.length).getD n dPt))))) bE rfl rfl rfl rfl (by rw[aj];decide) (DA _ _) rfl) rfl rfl rfl rfl<|dc ?_
     refine DQ.mk<|iM (aY (us:=aG (((c.ends (wj c (bt (bc dPt (br c) L) L.length) n) c.q)).setp ((((bt (bc dPt (br c) L) L.length).getD n dPt))))) bE rfl rfl rfl rfl (by rw[aj];decide) (DY _ _) rfl) rfl rfl rfl rfl<|dc ?_
     refine ag ?_
     refine ar (oG (aj _) bT rfl) ?_
     refine ar (da (n:=1) (us:=aG (((c.ends (wj c (bt (bc dPt (br c) L) L.length) n) c.q)).ends ((c.ends (wj c (bt (bc dPt (br c) L) L.length) n) c.q)).p ((((bt (bc dPt (br c) L) L.length).getD n dPt))))) wh rfl (C9 rfl (aj _)) (je (aj _)) (by decide) (by decide) rfl) ?_
     refine DL.mk<|vt (us:=aJ aG (FM c (bt (bc dPt (br c) L) L.length) n)) (rest:=rs) (ys:=aG (((c.ends (wj c (bt (bc dPt (br c) L) L.length) n) c.q)).ends ((c.ends (wj c (bt (bc dPt (br c) L) L.length) n) c.q)).p ((((bt (bc dPt (br c) L) L.length).getD n dPt))))) wh rfl rfl rfl ((aM aj _).trans (by rw[Ed])) (by assumption) (je (aj _)) (by decide) (by omega) (by assumption) (by omega) (wC (by omega)) (.inl rfl) rfl (fun cg9 rg9 hga9 hgb9 hgc9=>eQ ?_)
     refine ag<|ar (eu (by omega) rfl) ?_
     exact⟨.inr ⟨⟨n+1,cg9,rg9⟩,g1,by show(yU c (bt (bc dPt (br c) L) L.length) (n+1)).length≤cg9;rw[qK g1 g2,dj];exact hga9,hgb9,by show rg9.length=(cg9-(yU c (bt (bc dPt (br c) L) L.length) (n+1)).length)*66;rw[qK g1 g2,dj];exact hgc9⟩,aA ⟨rfl,rfl,rfl,congrArg (fun q=>some (DV.o 41 q cg9)) (by rw[qK g1 g2,dj];rfl),rfl,rfl,trivial⟩ ⟨congrArg (fun q=>some (49,aG q)) (by rw[DO,Kn g1 g2]),congrArg (fun q=>some (49,q++rg9)) (by rw[KI g1 g2,gW,jc,DK]),trivial⟩ rfl,by show(bt (bc dPt (br c) L) L.length).length-(n+1)<(bt (bc dPt (br c) L) L.length).length-n;omega⟩
   ·have g2:gP c ((bt (bc dPt (br c) L) L.length).getD n dPt)=false:=OU hb7
    refine dG rfl<|b7<|ag<|ar (eu (by omega) rfl) ?_
    exact⟨.inr ⟨⟨n+1,c9,rs⟩,g1,by show(yU c (bt (bc dPt (br c) L) L.length) (n+1)).length≤c9;rw[qT g1 g2];exact h3,h4,by show rs.length=(c9-(yU c (bt (bc dPt (br c) L) L.length) (n+1)).length)*66;rw[qT g1 g2];exact h5⟩,aA ⟨rfl,rfl,rfl,congrArg (fun q=>some (DV.o 41 (List.length q) c9)) (qT g1 g2).symm,rfl,rfl,trivial⟩ ⟨congrArg (fun q=>some (49,aG (c.ends q c.q))) (FB g1 g2).symm,congrArg (fun q=>some (49,aJ aG q++rs)) (Qt g1 g2).symm,trivial⟩ rfl,by show(bt (bc dPt (br c) L) L.length).length-(n+1)<(bt (bc dPt (br c) L) L.length).length-n;omega⟩
  ·have hp:n=(bt (bc dPt (br c) L) L.length).length:=by have:=of_decide_eq_false hc6;omega
   have eN:(q8 c (jS c L)).length=(yU c (bt (bc dPt (br c) L) L.length) n).length+1:=by show(q8 c ((bt (bc dPt (br c) L) L.length).filter (gP c))).length=_;rw[ED,←hp,dj,Ed];rfl
   have eC:aJ aG (FM c (bt (bc dPt (br c) L) L.length) n)++aG (c.ends (wj c (bt (bc dPt (br c) L) L.length) n) c.q)=aJ aG (q8 c (jS c L)):=by show _=aJ aG (q8 c ((bt (bc dPt (br c) L) L.length).filter (gP c)));rw[ED,←hp,gW,jc]
   refine b7<|ae<|ag ?_
   refine ar (oG (aj _) bT rfl) ?_
   refine ar (da (n:=1) (us:=aG ((c.ends (wj c (bt (bc dPt (br c) L) L.length) n) c.q))) wh rfl (C9 rfl (aj _)) (je (aj _)) (by decide) (by decide) rfl) ?_
   refine DL.mk<|vt (us:=aJ aG (FM c (bt (bc dPt (br c) L) L.length) n)) (rest:=rs) (ys:=aG ((c.ends (wj c (bt (bc dPt (br c) L) L.length) n) c.q))) wh rfl rfl rfl ((aM aj _).trans (by rw[Ed])) (by assumption) (je (aj _)) (by decide) (by omega) (by assumption) (by omega) (wC (by omega)) (.inr rfl) rfl (fun cg10 rg10 hga10 hgb10 hgc10=>eQ ?_)
   refine a9 ?_
   exact⟨.inr rfl,4,46,cg10,[.tmp 5],rg10,rfl,congrArg (fun q=>some (DV.o 46 q cg10)) (eN.symm),congrArg (fun q=>some (49,q++rg10)) (eC),by omega,by assumption,by rw[eN];assumption,(ak aa)⟩
theorem WC:Ok Tryz.prog 214 [] [.a (([.b false]++(cR 0++cR 0++cR 0)++(cR 0++cR 0++cR 0)++[.b false]++X4++X4))]:=by
 refine ex Tryz.func214 12 [.cell 0 49] rfl<|ae<|ag<|ae<|ag<|ac rfl ((show Ok Tryz.prog 70 [.c (.i .i64 0)] [dR 0] from fX (by decide) (by decide)))<|ae<|bz<|bQ 3<|aW (az (us:=(cR 0++cR 0++cR 0)) YM W7 rfl rfl rfl) ?_
 refine bQ 3<|aW (az (us:=(cR 0++cR 0++cR 0)) Z9 Wr rfl rfl rfl) ?_
 refine aW (az (us:=([.b false]++(cR 0++cR 0++cR 0)++(cR 0++cR 0++cR 0)++[.b false]++X4++X4)) aaB PF rfl rfl rfl) ?_
 refine fL<|a9 ?_
 exact ah (jM (us:=([.b false]++(cR 0++cR 0++cR 0)++(cR 0++cR 0++cR 0)++[.b false]++X4++X4)) bT rfl rfl (by kernel_rfl) (by kernel_rfl) aa)
theorem Ra (hk:GK k) (h0:0<k.q):Ok Tryz.prog 122 [.a (bo k)] [.c (.s 2 (aJ (TU (cR 0++cR 0++cR 0)) (bi k)))]:=by
 refine ex Tryz.func122 26 [.tmp 2] rfl<|ae<|ag<|ae<|ag ?_
 refine ac rfl (UG hk h0) ?_
 refine ae<|nu 7 rfl rfl<|bh (cb rfl (WC))<|bh (Ic (off:=1) (n:=12) (us:=(cR 0++cR 0++cR 0)) (by kernel_rfl) rfl rfl rfl) ?_
 refine cE 3<|bh (az (us:=([.b true]++(cR 0++cR 0++cR 0)++bo k++[.b false]++ai (fY k)++ai (fR k))) aaB PF rfl rfl rfl) ?_
 refine zr (jR PF rfl) rfl<|mT<|zK<|fL<|ae<|ag ?_
 refine ar (fU bT rfl) ?_
 refine nM (dL bT rfl)<|ae<|fb 4 [6,999999] ?_
 refine DQ.mk<|iM (aY (us:=([.b true]++(cR 0++cR 0++cR 0)++bo k++[.b false]++ai (fR k)++ai (fR k))) bE rfl rfl rfl rfl (dO (by kernel_rfl)) (by kernel_rfl) rfl) rfl rfl rfl rfl<|dc ?_
 refine nM (aY (us:=([.b true]++(cR 0++cR 0++cR 0)++bo k++[.b false]++ai (fR k)++ai (fY k))) bE rfl rfl rfl rfl (dO (by kernel_rfl)) (by kernel_rfl) rfl) ?_
 refine ae<|ag ?_
 refine ar (fU bT rfl) ?_
 refine ar (fU bT rfl) ?_
 refine ar (da (n:=2) (us:=([.b true]++(cR 0++cR 0++cR 0)++bo k++[.b false]++ai (fY k)++ai (fR k))++([.b true]++(cR 0++cR 0++cR 0)++bo k++[.b false]++ai (fR k)++ai (fY k))) wh rfl (by kernel_rfl) (by kernel_rfl) (by decide) (by decide) rfl) ?_
 refine a9 ?_
 exact ah (ak aa)
theorem Xl (hk:GK k) (h0:0<k.q):Ok Tryz.prog 122 [.a (bo k)] [.c (.s ((bi k).length) (aJ aG (bi k)))]:=(Ra hk h0).wks ((wkA rfl _ _ _ _).app ((wkA rfl _ _ _ _).app .nil))
theorem VW (vc:CvV c):Ok Tryz.prog 224 [.a (aG c)] [.a (aG c.rev)]:=by
 cases c with
 |seg l f t=>exact Ve vc.g.1 vc.g.2.1 vc.g.2.2
 |arc k w f t=>exact M8 vc.g.1 vc.g.2.1 vc.g.2.2
theorem VH:OkS Tryz.prog 243 49 1 c9 (aJ aG [e]++rs) (aJ aG [e]++rs) [.c (.i .i64 0),.c (.i .i64 1),.c (.f 226)]:=by
 refine OkS.of (K:=100000) (by kernel_rfl) Tryz.func243 rfl rfl rfl rfl ?_
 rw[show Tryz.f243.ntmps=53 from rfl]
 refine ae<|ag<|ar (mj (r:=1) rfl rfl rfl rfl) ?_
 refine aP ?_
 refine bF (ι:=Nat) (fun i=>match i with|_=>⟨53,[(0,.o 100000 1 c9),(1,.v (.c (.i .i64 0))),(2,.v (.c (.i .i64 1))),(3,.v (.c (.f 226))),(8,.v (.c (.i .i64 1)))],[(100000,49,aJ aG [e]++rs)]⟩) (fun i=>0-i) 0 (aA ⟨rfl,rfl,rfl,rfl,rfl,trivial⟩ ⟨rfl,trivial⟩ rfl) ?_
 intro i
 match i with
 |_=>
  show Dw _ _ ⟨53,[(0,.o 100000 1 c9),(1,.v (.c (.i .i64 0))),(2,.v (.c (.i .i64 1))),(3,.v (.c (.f 226))),(8,.v (.c (.i .i64 1)))],[(100000,49,aJ aG [e]++rs)]⟩ _
  refine ae<|ae<|ag<|bn rfl<|b7 ?_
  exact⟨.inl rfl,rfl⟩
theorem XM:OkS Tryz.prog 311 49 1 c9 (aJ aG [e]++rs) (aJ aG [e]++rs) [.c (.i .i64 1),.c (.f 226)]:=by
 refine OkS.of (K:=100000) (by kernel_rfl) Tryz.func311 rfl rfl rfl rfl ?_
 rw[show Tryz.f311.ntmps=63 from rfl]
 refine ae<|ag<|ae<|ag<|ae<|aP ?_
 refine bF (ι:=Nat) (fun i=>match i with|_=>⟨63,[(0,.o 100000 1 c9),(1,.v (.c (.i .i64 1))),(2,.v (.c (.f 226))),(6,.v (.c (.i .i64 20))),(7,.v (.c (.i .i64 0))),(8,.v (.c (.i .i64 20)))],[(100000,49,aJ aG [e]++rs)]⟩) (fun i=>0-i) 0 (aA ⟨rfl,rfl,rfl,rfl,rfl,rfl,trivial⟩ ⟨rfl,trivial⟩ rfl) ?_
 intro i
 match i with
 |_=>
  show Dw _ _ ⟨63,[(0,.o 100000 1 c9),(1,.v (.c (.i .i64 1))),(2,.v (.c (.f 226))),(6,.v (.c (.i .i64 20))),(7,.v (.c (.i .i64 0))),(8,.v (.c (.i .i64 20)))],[(100000,49,aJ aG [e]++rs)]⟩ _
  refine ae<|ae<|ag<|bn rfl<|b7<|ae<|ag ?_
  refine DL.mk<|r5 (jO rfl rfl rfl rfl rfl (VH) rfl)<|eQ ?_
  refine aP ?_
  refine bF (ι:=Nat) (fun i=>match i with|_=>⟨63,[(0,.o 100000 1 c9),(1,.v (.c (.i .i64 1))),(2,.v (.c (.f 226))),(6,.v (.c (.i .i64 20))),(7,.v (.c (.i .i64 0))),(8,.v (.c (.i .i64 20)))],[(100000,49,aJ aG [e]++rs)]⟩) (fun i=>0-i) 0 (aA ⟨rfl,rfl,rfl,rfl,rfl,rfl,trivial⟩ ⟨rfl,trivial⟩ rfl) ?_
  intro i
  match i with
  |_=>
   show Dw _ _ ⟨63,[(0,.o 100000 1 c9),(1,.v (.c (.i .i64 1))),(2,.v (.c (.f 226))),(6,.v (.c (.i .i64 20))),(7,.v (.c (.i .i64 0))),(8,.v (.c (.i .i64 20)))],[(100000,49,aJ aG [e]++rs)]⟩ _
   refine ae<|ae<|ag<|bn rfl<|b7 ?_
   exact⟨.inl rfl,rfl⟩
theorem Xc:OkS Tryz.prog 225 49 1 c9 (aJ aG [e]++rs) (aJ aG [e]++rs) [.c (.f 226)]:=by
 refine OkS.of (K:=100000) (by kernel_rfl) Tryz.func225 rfl rfl rfl rfl ?_
 rw[show Tryz.f225.ntmps=9 from rfl]
 refine ag<|ar (iJ lB rfl rfl) ?_
 refine DL.mk<|r5 (jO rfl rfl rfl rfl rfl (XM) rfl)<|eQ ?_
 exact⟨.inl rfl,rfl⟩
theorem YB (vc:CvV (.arc k false f t)) (ea:(Cv.arc k false f t).inner (fY k)=false) (eb:(Cv.arc k false f t).inner (fR k)=false):Ok Tryz.prog 125 [.a (([.b true]++mw++bo k++[.b false]++ai f++ai t))] [.c (.s (([(Cv.arc k false f t).fwd]).length) (aJ aG ([(Cv.arc k false f t).fwd])))]:=by
 have vR: ∀d∈([(Cv.arc k false f t)]:List Cv),CvV d:=fun d hd=>by rw[kj.1 hd];exact vc
 have lM:(([(Cv.arc k false f t)]:List Cv).map Cv.fwd).length=([(Cv.arc k false f t)]:List Cv).length:=rfl
 have hk:=vc.g.1
 have hf:=vc.g.2.1
 have ht:=vc.g.2.2
 have gL:=qZ hk vc.pos
 have gR:=q5 hk vc.pos
 have z2:(Us++Us).length=(2-0)*20:=rfl
 have hm2:2≤maxLen:=by decide
 refine ex Tryz.func125 57 [.tmp 2] rfl<|ae<|ag<|ae<|ag ?_
 refine ar (fU bT rfl) ?_
 refine DL.mk<|pD (qd (us:=([.b true]++mw++bo k++[.b false]++ai f++ai t)) wh rfl rfl (by decide) (by decide) rfl) rfl<|eQ ?_
 refine oO (ι:={x9:Nat×List CellD //([(Cv.arc k false f t)]:List Cv).length≤x9.1∧x9.1≤maxLen∧x9.2.length=(x9.1-([(Cv.arc k false f t)]:List Cv).length)*66}) (fun i=>⟨57,[(3,.o 29 (([(Cv.arc k false f t)]:List Cv).length) i.1.1)],[(29,49,aJ aG ([(Cv.arc k false f t)]:List Cv)++i.1.2)]⟩) ?_ ?_
 ·refine ae<|ag ?_
  refine ar (gn mv rfl) ?_
  refine dG rfl<|ae<|ag ?_
  refine ar (co (bo k) sI rfl (by kernel_rfl)) ?_
  refine ac rfl (UG hk vc.pos) ?_
  refine ae<|jT (t:=1) (k:=1) rfl rfl<|bz<|bQ 2 ?_
  refine pD (qd (us:=ai (fY k)++ai (fR k)) jD rfl rfl (by decide) (by decide) rfl) rfl ?_
  refine aW (pM (us:=[.p (([.b true]++mw++bo k++[.b false]++ai f++ai t))]) rfl rfl) ?_
  refine FZ rfl rfl rfl rfl rfl (ZP (c:=(Cv.arc k false f t)) vc rfl gL gR ea eb) rfl<|fL<|ae ?_
  refine fu (t:=6) (m:=20) (us:=([]:List CellD)) rfl rfl (tP (n:=0) (by first|exact aM aj _|rfl) (by assumption) (by omega)) (by omega) (by assumption) (nQ (by first|exact aM aj _|rfl)) ?_
  refine bz<|aW (lp (us:=([.b true]++mw++bo k++[.b false]++ai f++ai t)) bT rfl rfl rfl rfl) ?_
  refine bQ 1 ?_
  refine yT rfl rfl ((show OkN _ _ [.a (aG (Cv.arc k false f t)),.c (.s 0 [])] _ _ _ _ _ from Vn (c:=(Cv.arc k false f t)) (L:=[]) vc rfl (fun p h=>by cases h) (ju _) (fun p h=>by cases h))) rfl rfl (fun cg1 rg1 hga1 hgb1 hgc1=>?_)
  refine bQ 1<|aW (Cs rfl rfl) ?_
  refine aW (B8 rfl rfl rfl) ?_
  refine fL<|ae<|ag<|dG rfl<|ag ?_
  exact⟨⟨⟨cg1,rg1⟩,hga1,hgb1,hgc1⟩,aA ⟨rfl,trivial⟩ ⟨rfl,trivial⟩ rfl⟩
 ·rintro⟨⟨c9,rs⟩,h1,h2,h3⟩
  dsimp only at h1 h2 h3
  dsimp only
  refine ae<|ae<|ag<|ar (iJ lB rfl rfl) ?_
  refine aP<|bF (ι:={n:Nat // n≤([(Cv.arc k false f t)]:List Cv).length}) (fun i=>⟨57,[(3,.o 29 (([(Cv.arc k false f t)]:List Cv).length) c9),(35,.o 29 (([(Cv.arc k false f t)]:List Cv).length) c9),(36,.v (.c (.i .i64 ((([(Cv.arc k false f t)]:List Cv).length:Int))))),(37,.v (.c (.i .i64 (i.1:Int))))],[(29,49,aJ aG (H6 ([(Cv.arc k false f t)]:List Cv) i.1)++rs)]⟩) (fun i=>([(Cv.arc k false f t)]:List Cv).length-i.1) ⟨0,ju _⟩ (aA ⟨rfl,rfl,rfl,rfl,trivial⟩ ⟨congrArg (fun q=>some (49,aJ aG q++rs)) (Zc.symm),trivial⟩ rfl) ?_
  rintro⟨n,h4⟩
  replace h4:n≤([(Cv.arc k false f t)]:List Cv).length:=h4
  dsimp only
  refine ae<|ag<|ae ?_
  refine aS rfl (fun hc2=>?_) (fun hc2=>?_)
  ·have g1:n<([(Cv.arc k false f t)]:List Cv).length:=by have:=of_decide_eq_true hc2;omega
   have n1:n<1:=g1
   have hX:CvV (([(Cv.arc k false f t)]:List Cv).getD n bL):=vR _ (bJ g1)
   refine aB<|ae<|aP<|ae<|bz<|bQ 1<|aW (bk lB rfl rfl (by omega) rfl) ?_
   refine aW (cg (us:=aG (([(Cv.arc k false f t)]:List Cv).getD n bL)) bT rfl rfl ((jt (e:=bL) (O:=(H6 ([(Cv.arc k false f t)]:List Cv) n)) aj (by rw[yI h4];exact g1)).trans (congrArg aG (Qi g1))) (aj _) rfl) ?_
   refine uX (jR PF rfl) rfl<|bQ 1<|iu (du bT rfl rfl rfl (aj _) rfl rfl) ?_
   refine bD<|ae<|ag ?_
   refine ar (cg (us:=ai ((([(Cv.arc k false f t)]:List Cv).getD n bL)).p) bE rfl rfl (qa _) rfl rfl) ?_
   refine ar (cg (us:=ai ((([(Cv.arc k false f t)]:List Cv).getD n bL)).q) bE rfl rfl (uu _) rfl rfl) ?_
   refine ac rfl (ON (jK hX.g) (s8 hX.g)) ?_
   refine aS rfl (fun hc3=>?_) (fun hc3=>?_)
   ·have m2:=HE hc3
    refine bz<|bQ 2<|aW (oG (aj _) bT rfl)<|aW (cb rfl ((show Ok _ _ [.a (aG (([(Cv.arc k false f t)]:List Cv).getD n bL))] [.a (aG (([(Cv.arc k false f t)]:List Cv).getD n bL).rev)] from VW hX)))<|aW (bk lB rfl rfl (by omega) rfl) ?_
    refine iu (aY (us:=aJ aG ((H6 ([(Cv.arc k false f t)]:List Cv) n).set n (([(Cv.arc k false f t)]:List Cv).getD n bL).rev)++rs) bT rfl rfl rfl (aj _) (by rw[dj,aM aj,yI h4];omega) (v5 aj (by rw[yI h4];exact g1) _) rfl) ?_
    refine bD<|ag<|ar (eu (by omega) rfl) ?_
    exact⟨⟨n+1,g1⟩,aA ⟨rfl,rfl,rfl,rfl,trivial⟩ ⟨congrArg (fun q=>some (49,aJ aG q++rs)) (by rw[←KK g1,m2]),trivial⟩ rfl,by show([(Cv.arc k false f t)]:List Cv).length-(n+1)<([(Cv.arc k false f t)]:List Cv).length-n;omega⟩
   ·have m2:=HU hc3
    refine aB<|ag<|ar (eu (by omega) rfl) ?_
    exact⟨⟨n+1,g1⟩,aA ⟨rfl,rfl,rfl,rfl,trivial⟩ ⟨congrArg (fun q=>some (49,aJ aG q++rs)) (Np g1 m2),trivial⟩ rfl,by show([(Cv.arc k false f t)]:List Cv).length-(n+1)<([(Cv.arc k false f t)]:List Cv).length-n;omega⟩
  ·have hp:n=1:=by have:=of_decide_eq_false hc2;have h4:n≤1:=h4;have h5: ¬(n:Int)<((1:Nat):Int):=this;omega
   have h3m:rs.length=(c9-(([(Cv.arc k false f t)]:List Cv).map Cv.fwd).length)*66:=h3
   refine oC (σ':=⟨57,[(3,.o 29 ((([(Cv.arc k false f t)]:List Cv).map Cv.fwd).length) c9)],[(29,49,aJ aG (([(Cv.arc k false f t)]:List Cv).map Cv.fwd)++rs)]⟩) (aA ⟨rfl,trivial⟩ ⟨congrArg (fun q=>some (49,aJ aG q++rs)) (by rw[hp];exact Tk (R:=([(Cv.arc k false f t)]:List Cv))),trivial⟩ rfl) ?_
   refine b7<|ae<|ag ?_
   refine DL.mk<|r5 (jO rfl rfl rfl rfl rfl (Xc (e:=(Cv.arc k false f t).fwd)) rfl)<|eQ ?_
   refine ae<|ag ?_
   refine fu (t:=2) (m:=66) (us:=aJ aG (([(Cv.arc k false f t)]:List Cv).map Cv.fwd)) rfl rfl (tP (n:=(([(Cv.arc k false f t)]:List Cv).map Cv.fwd).length) (by first|exact aM aj _|rfl) (by assumption) (by omega)) (by omega) (by assumption) (nQ (by first|exact aM aj _|rfl)) ?_
   refine a9 ?_
   exact ah (ak aa)
theorem abk (hp:GP p) (hx:Rz 148000 x):Ok Tryz.prog 139 [.a ((cR p.a1++cR p.b1++cR (zc p.b1 p.c))),.a ((cR x++cR 0++cR 0))] [.c (.i .i64 (jm p x))]:=
 bX (lk (hp.a1.mono (by decide)) (hp.b1.mono (by decide)) (gw (hp.c.mono (by decide)) (by decide)) (hx.mono (by decide)) (eK (by decide)) (eK (by decide)) ((hp.a1.sub hx).mono (by decide)) (jW (b9 hp)) kO) (AT (jW (b9 hp)))
theorem abg (hp:GP p) (hx:Rz 148000 x):Ok Tryz.prog 139 [.a ((cR x++cR 0++cR 0)),.a ((cR p.a1++cR p.b1++cR (zc p.b1 p.c)))] [.c (.i .i64 (-jm p x))]:=
 bX (lk (hx.mono (by decide)) (eK (by decide)) (eK (by decide)) (hp.a1.mono (by decide)) (hp.b1.mono (by decide)) (gw (hp.c.mono (by decide)) (by decide)) ((hx.sub hp.a1).mono (by decide)) kO (jW (b9 hp))) (by
  rw[mW kO (jW (b9 hp)),nC (b9 hp),←b8]
  exact congrArg aO (ba fun n=>by unfold pX wt am;simp only[aI,ao,aD,aV,bg];grind))
theorem yK (hc:c.good) (hx:Rz 148000 x):Ok Tryz.prog 232 [.a (aG c),.a ((cR x++cR 0++cR 0))] [.c (.b (j5 c x))]:=by
 refine bW Tryz.func232 rfl<|cz 15 [] ?_
 refine aq (cg (us:=ai c.p) bE rfl rfl (qa _) rfl rfl) ?_
 refine aC rfl (p6) ?_
 refine aC rfl (abk (jK hc) hx) ?_
 refine AG (bq rfl) (fun c1 hb1=>?_)
 cases c1
 ·refine ah ?_
  rw[show j5 c x=false from by unfold j5;rw[hb1];rfl]
  exact ak aa
 ·refine aq (cg (us:=ai c.q) bE rfl rfl (uu _) rfl rfl) ?_
  refine aC rfl (p6)<|aC rfl (abg (s8 hc) hx)<|ah ?_
  rw[show j5 c x=decide (-jm c.q x≤0) from by unfold j5;rw[hb1];rfl]
  exact ak aa
theorem qF (hk:GK k) (hx:Rz 148000 x):Rz 300000 (jZ k x):=(hk.q.sub ((hx.sub hk.x).mul (hx.sub hk.x))).mono (by decide)
theorem VV (vc:CvV (Cv.seg l f t)) (hx:Rz 148000 x) (hb:wH (Cv.seg l f t) x=false):Ok Tryz.prog 128 [.a (([.b false]++jq l++tK++[.b false]++ai f++ai t)),dR x] [.a (tK),.c (.i .i64 1)]:=by
 have hf:=vc.g.2.1
 have ht:=vc.g.2.2
 have hl:=vc.g.1
 have hB:=hb
 rw[kh] at hB
 refine bW Tryz.func128 rfl<|cz 9 [] ?_
 refine aq (fU bT rfl) ?_
 refine aC rfl (Kl hl hf ht) ?_
 refine AG (bq rfl) (fun c1 hb1=>?_)
 cases c1
 ·refine aq (fU bT rfl) ?_
  refine aC rfl (fT) ?_
  refine aC rfl (yK (c:=(Cv.seg l f t)) vc.g (hx.m_)) ?_
  refine df rfl (fun hc2=>?_) (fun hc2=>?_)
  ·refine ar (az (us:=tK) kT js rfl rfl rfl) ?_
   exact ah (aQ cG rfl (ak aa))
  ·exact absurd hB (by rw[show(Cv.seg l f t).vert=false from hb1,show j5 (Cv.seg l f t) x=true from by simpa using hc2];decide)
 ·refine rx rfl<|ar (az (us:=tK) kT js rfl rfl rfl) ?_
  exact ah (aQ cG rfl (ak aa))
theorem WF (vc:CvV (Cv.seg l f t)) (hx:Rz 148000 x) (hb:wH (Cv.seg l f t) x=true):Ok Tryz.prog 128 [.a (([.b false]++jq l++tK++[.b false]++ai f++ai t)),dR x] [.a ((cR ((l.c-l.a*x)/l.b)++cR 0++cR 0)),.c (.i .i64 0)]:=by
 have hf:=vc.g.2.1
 have ht:=vc.g.2.2
 have hl:=vc.g.1
 have hB:=hb
 rw[kh] at hB
 refine bW Tryz.func128 rfl<|cz 9 [] ?_
 refine aq (fU bT rfl) ?_
 refine aC rfl (Kl hl hf ht) ?_
 refine AG (bq rfl) (fun c1 hb1=>?_)
 cases c1
 ·refine aq (fU bT rfl) ?_
  refine aC rfl (fT) ?_
  refine aC rfl (yK (c:=(Cv.seg l f t)) vc.g (hx.m_)) ?_
  refine df rfl (fun hc2=>?_) (fun hc2=>?_)
  ·exact absurd hB (by rw[show j5 (Cv.seg l f t) x=false from by simpa using hc2,lU];decide)
  ·have hv:cx f t≠0:=fun e=>absurd (show(Cv.seg l f t).vert=false from hb1) (by show ¬(cx f t==0)=false;rw[e];decide)
   have hb0:l.b≠0:=fun e=>hv ((Iq hl hf ht (by have:=vc.sp;simpa [Cv.supp,Cv.p] using this) (by have:=vc.sq;simpa [Cv.supp,Cv.q] using this) vc.ne).2 e)
   refine ar (gn mv rfl)<|rx rfl<|cz 19 [6,999999] ?_
   refine aq (co (cR l.c) aX rfl (by kernel_rfl)) ?_
   refine aq (co (cR l.a) aX rfl (by kernel_rfl)) ?_
   refine aC rfl (cB (aE (hl.a)) (aE hx)) ?_
   refine aC rfl (ei (aE (hl.c)) (aE (aF (hl.a) hx))) ?_
   refine aq (co (cR l.b) aX rfl (by kernel_rfl)) ?_
   refine aC rfl (o7 ((hl.c.sub (hl.a.mul hx)).m_) (hl.b.m_) hb0) ?_
   refine DQ.mk<|fp (dL aX rfl) rfl rfl rfl rfl<|dc ?_
   refine ac rfl (fT) ?_
   exact ah (aQ cG rfl (ak aa))
 ·exact absurd hB (by rw[show(Cv.seg l f t).vert=true from hb1];exact Bool.false_ne_true)
theorem Wu (vc:CvV (Cv.arc k w f t)) (hx:Rz 148000 x) (hb:wH (Cv.arc k w f t) x=false):Ok Tryz.prog 128 [.a (([.b true]++mw++bo k++[.b w]++ai f++ai t)),dR x] [.a (tK),.c (.i .i64 1)]:=by
 have hf:=vc.g.2.1
 have ht:=vc.g.2.2
 have hk:=vc.g.1
 have hB:=hb
 rw[kh] at hB
 refine bW Tryz.func128 rfl<|cz 9 [] ?_
 refine aq (fU bT rfl) ?_
 refine aC rfl ((show Ok _ _ _ [.c (.b false)] from Fh hk hf ht)) ?_
 refine aq (bq rfl) ?_
 refine aq (fU bT rfl) ?_
 refine aC rfl (fT) ?_
 refine aC rfl (yK (c:=(Cv.arc k w f t)) vc.g (hx.m_)) ?_
 refine df rfl (fun hc1=>?_) (fun hc1=>?_)
 ·refine ar (az (us:=tK) kT js rfl rfl rfl) ?_
  exact ah (aQ cG rfl (ak aa))
 ·exact absurd hB (by rw[show(Cv.arc k w f t).vert=false from rfl,show j5 (Cv.arc k w f t) x=true from by simpa using hc1];decide)
theorem RL (vc:CvV (Cv.arc k w f t)) (hx:Rz 148000 x) (hb:wH (Cv.arc k w f t) x=true) (hs:iC (jZ k x)=true):Ok Tryz.prog 128 [.a (([.b true]++mw++bo k++[.b w]++ai f++ai t)),dR x] [.a ((cR (k.y+sW w*rt (jZ k x))++cR 0++cR 0)),.c (.i .i64 0)]:=by
 have hf:=vc.g.2.1
 have ht:=vc.g.2.2
 have hk:=vc.g.1
 have hB:=hb
 rw[kh] at hB
 have ofk:OnK k f:=⟨hf,bH.1 vc.sp⟩
 have otk:OnK k t:=⟨ht,bH.1 vc.sq⟩
 have hm0: ¬jZ k x<0:=by
  have hb2:=hb
  unfold wH at hb2
  rw[dF,dF] at hb2
  have:=Cr ofk otk (of_decide_eq_true hb2.2.1) (of_decide_eq_true hb2.2.2)
  grind
 refine bW Tryz.func128 rfl<|cz 9 [] ?_
 refine aq (fU bT rfl) ?_
 refine aC rfl ((show Ok _ _ _ [.c (.b false)] from Fh hk hf ht)) ?_
 refine aq (bq rfl) ?_
 refine aq (fU bT rfl) ?_
 refine aC rfl (fT) ?_
 refine aC rfl (yK (c:=(Cv.arc k w f t)) vc.g (hx.m_)) ?_
 refine df rfl (fun hc1=>?_) (fun hc1=>?_)
 ·exact absurd hB (by rw[show j5 (Cv.arc k w f t) x=false from by simpa using hc1,lU];decide)
 ·refine ar (gn mv rfl)<|qg rfl<|ar (co (cR k.x) aX rfl (by kernel_rfl))<|ac rfl (ei (aE hx) (aE (hk.x)))<|ar (gn mv rfl) ?_
  refine df rfl (fun hc2=>?_) (fun hc2=>?_)
  ·have e9:((1:Int):Rat)=sW w:=SS hc2
   refine cz 15 [] ?_
   refine aq (co (cR k.y) aX rfl (by kernel_rfl)) ?_
   refine aC rfl (lh (fX (by decide) (by decide)) e9) ?_
   refine aq (co (cR k.q) aX rfl (by kernel_rfl)) ?_
   refine aC rfl (cB (aE (cT hx (hk.x))) (aE (cT hx (hk.x)))) ?_
   refine aC rfl (ei (aE (hk.q)) (aE (aF (cT hx (hk.x)) (cT hx (hk.x))))) ?_
   refine aC rfl (vp (c:=jZ k x) (hk.y.m_) ((wD w).m_) ((qF hk hx).m_) hm0 hs) ?_
   exact ah (aQ cG rfl (ak aa))
  ·have e9:((-1:Int):Rat)=sW w:=RR hc2
   refine cz 15 [] ?_
   refine aq (co (cR k.y) aX rfl (by kernel_rfl)) ?_
   refine aC rfl (lh (fX (by decide) (by decide)) e9) ?_
   refine aq (co (cR k.q) aX rfl (by kernel_rfl)) ?_
   refine aC rfl (cB (aE (cT hx (hk.x))) (aE (cT hx (hk.x)))) ?_
   refine aC rfl (ei (aE (hk.q)) (aE (aF (cT hx (hk.x)) (cT hx (hk.x))))) ?_
   refine aC rfl (vp (c:=jZ k x) (hk.y.m_) ((wD w).m_) ((qF hk hx).m_) hm0 hs) ?_
   exact ah (aQ cG rfl (ak aa))
theorem S8 (vc:CvV (Cv.arc k w f t)) (hx:Rz 148000 x) (hb:wH (Cv.arc k w f t) x=true) (hs:iC (jZ k x)=false):Ok Tryz.prog 128 [.a (([.b true]++mw++bo k++[.b w]++ai f++ai t)),dR x] [.a ((cR k.y++cR (sW w)++cR (zc (sW w) (jZ k x)))),.c (.i .i64 0)]:=by
 have hf:=vc.g.2.1
 have ht:=vc.g.2.2
 have hk:=vc.g.1
 have hB:=hb
 rw[kh] at hB
 have ofk:OnK k f:=⟨hf,bH.1 vc.sp⟩
 have otk:OnK k t:=⟨ht,bH.1 vc.sq⟩
 have hm0: ¬jZ k x<0:=by
  have hb2:=hb
  unfold wH at hb2
  rw[dF,dF] at hb2
  have:=Cr ofk otk (of_decide_eq_true hb2.2.1) (of_decide_eq_true hb2.2.2)
  grind
 refine bW Tryz.func128 rfl<|cz 9 [] ?_
 refine aq (fU bT rfl) ?_
 refine aC rfl ((show Ok _ _ _ [.c (.b false)] from Fh hk hf ht)) ?_
 refine aq (bq rfl) ?_
 refine aq (fU bT rfl) ?_
 refine aC rfl (fT) ?_
 refine aC rfl (yK (c:=(Cv.arc k w f t)) vc.g (hx.m_)) ?_
 refine df rfl (fun hc1=>?_) (fun hc1=>?_)
 ·exact absurd hB (by rw[show j5 (Cv.arc k w f t) x=false from by simpa using hc1,lU];decide)
 ·refine ar (gn mv rfl)<|qg rfl<|ar (co (cR k.x) aX rfl (by kernel_rfl))<|ac rfl (ei (aE hx) (aE (hk.x)))<|ar (gn mv rfl) ?_
  refine df rfl (fun hc2=>?_) (fun hc2=>?_)
  ·have e9:((1:Int):Rat)=sW w:=SS hc2
   refine cz 15 [] ?_
   refine aq (co (cR k.y) aX rfl (by kernel_rfl)) ?_
   refine aC rfl (lh (fX (by decide) (by decide)) e9) ?_
   refine aq (co (cR k.q) aX rfl (by kernel_rfl)) ?_
   refine aC rfl (cB (aE (cT hx (hk.x))) (aE (cT hx (hk.x)))) ?_
   refine aC rfl (ei (aE (hk.q)) (aE (aF (cT hx (hk.x)) (cT hx (hk.x))))) ?_
   refine aC rfl (vV (c:=jZ k x) (hk.y.m_) ((wD w).m_) ((qF hk hx).m_) hm0 hs) ?_
   exact ah (aQ cG rfl (ak aa))
  ·have e9:((-1:Int):Rat)=sW w:=RR hc2
   refine cz 15 [] ?_
   refine aq (co (cR k.y) aX rfl (by kernel_rfl)) ?_
   refine aC rfl (lh (fX (by decide) (by decide)) e9) ?_
   refine aq (co (cR k.q) aX rfl (by kernel_rfl)) ?_
   refine aC rfl (cB (aE (cT hx (hk.x))) (aE (cT hx (hk.x)))) ?_
   refine aC rfl (ei (aE (hk.q)) (aE (aF (cT hx (hk.x)) (cT hx (hk.x))))) ?_
   refine aC rfl (vV (c:=jZ k x) (hk.y.m_) ((wD w).m_) ((qF hk hx).m_) hm0 hs) ?_
   exact ah (aQ cG rfl (ak aa))
theorem Vy (vc:CvV c) (hx:Rz 148000 x):Ok Tryz.prog 128 [.a (aG c),dR x] (if wH c x then[.a (TG c x),.c (.i .i64 0)] else[.a tK,.c (.i .i64 1)]):=by
 cases hb:wH c x with
 |false=>
  rw[if_neg (by decide)]
  cases c with
  |seg l f t=>exact VV vc hx hb
  |arc k w f t=>exact Wu vc hx hb
 |true=>
  rw[if_pos rfl]
  cases c with
  |seg l f t=>exact WF vc hx hb
  |arc k w f t=>
   cases hs:iC (jZ k x) with
   |true=>rw[N9 hs];exact RL vc hx hb hs
   |false=>rw[OY hs];exact S8 vc hx hb hs
theorem JR (w:Bool):sW w≠0:=by cases w<;>decide+kernel
theorem Qe (h:iC m=false):m≠0:=fun e=>by rw[e,Nt] at h;cases h
theorem US (h:iC m=false):rB (sW w) m=sW w:=YG (JR w) (Qe h)
theorem UT (h:iC m=false):rC (sW w) m=zc (sW w) m:=by unfold rC;rw[if_neg (fun e=>e.elim (JR w) (Qe h)),nF (JR w)]
theorem aa7 (hp:GP p) (hx:Rz 7000 x):Ok Tryz.prog 83 [.a ((cR p.a1++cR p.b1++cR (zc p.b1 p.c))),.a ((cR x++cR 0++cR 0))] [.c (.i .i64 (jm p x))]:=bX (vk (hp.a1.mono (by decide)) (hp.b1.mono (by decide)) (gw (hp.c.mono (by decide)) (by decide)) (hx.mono (by decide)) (eK (by decide)) (eK (by decide))) (AT (jW (b9 hp)))
theorem aby (hp:GP p) (hx:Rz 7000 x):Ok Tryz.prog 83 [.a ((cR x++cR 0++cR 0)),.a ((cR p.a1++cR p.b1++cR (zc p.b1 p.c)))] [.c (.i .i64 (-jm p x))]:=bX (vk (hx.mono (by decide)) (eK (by decide)) (eK (by decide)) (hp.a1.mono (by decide)) (hp.b1.mono (by decide)) (gw (hp.c.mono (by decide)) (by decide))) (by
 rw[mW kO (jW (b9 hp)),nC (b9 hp),←b8]
 exact congrArg aO (ba fun n=>by unfold pX wt am;simp only[aI,ao,aD,aV,bg];grind))
theorem Cw (hc:c.good) (hx:Rz 7000 x):Ok Tryz.prog 341 [.a (aG c),.a ((cR x++cR 0++cR 0))] [.c (.b (j5 c x))]:=by
 refine bW Tryz.func341 rfl<|cz 15 [] ?_
 refine aq (cg (us:=ai c.p) bE rfl rfl (qa _) rfl rfl) ?_
 refine aC rfl (n5) ?_
 refine aC rfl (aa7 (jK hc) hx) ?_
 refine AG (bq rfl) (fun c1 hb1=>?_)
 cases c1
 ·refine ah ?_
  rw[show j5 c x=false from by unfold j5;rw[hb1];rfl]
  exact ak aa
 ·refine aq (cg (us:=ai c.q) bE rfl rfl (uu _) rfl rfl) ?_
  refine aC rfl (n5)<|aC rfl (aby (s8 hc) hx)<|ah ?_
  rw[show j5 c x=decide (-jm c.q x≤0) from by unfold j5;rw[hb1];rfl]
  exact ak aa
theorem WL (vc:CvV (Cv.seg l f t)) (hx:Rz 7000 x) (hb:wH (Cv.seg l f t) x=false):Ok Tryz.prog 271 [.a (([.b false]++jq l++tK++[.b false]++ai f++ai t)),dR x] [.a (tK),.c (.i .i64 1)]:=by
 have hf:=vc.g.2.1
 have ht:=vc.g.2.2
 have hl:=vc.g.1
 have hB:=hb
 rw[kh] at hB
 refine bW Tryz.func271 rfl<|cz 9 [] ?_
 refine aq (fU bT rfl) ?_
 refine aC rfl (Ek hl hf ht) ?_
 refine AG (bq rfl) (fun c1 hb1=>?_)
 cases c1
 ·refine aq (fU bT rfl) ?_
  refine aC rfl (eF) ?_
  refine aC rfl (Cw (c:=(Cv.seg l f t)) vc.g (hx.m_)) ?_
  refine df rfl (fun hc2=>?_) (fun hc2=>?_)
  ·refine ar (az (us:=tK) kT js rfl rfl rfl) ?_
   exact ah (aQ cG rfl (ak aa))
  ·exact absurd hB (by rw[show(Cv.seg l f t).vert=false from hb1,show j5 (Cv.seg l f t) x=true from by simpa using hc2];decide)
 ·refine rx rfl<|ar (az (us:=tK) kT js rfl rfl rfl) ?_
  exact ah (aQ cG rfl (ak aa))
theorem VO (vc:CvV (Cv.seg l f t)) (hx:Rz 7000 x) (hb:wH (Cv.seg l f t) x=true):Ok Tryz.prog 271 [.a (([.b false]++jq l++tK++[.b false]++ai f++ai t)),dR x] [.a ((cR ((l.c-l.a*x)/l.b)++cR 0++cR 0)),.c (.i .i64 0)]:=by
 have hf:=vc.g.2.1
 have ht:=vc.g.2.2
 have hl:=vc.g.1
 have hB:=hb
 rw[kh] at hB
 refine bW Tryz.func271 rfl<|cz 9 [] ?_
 refine aq (fU bT rfl) ?_
 refine aC rfl (Ek hl hf ht) ?_
 refine AG (bq rfl) (fun c1 hb1=>?_)
 cases c1
 ·refine aq (fU bT rfl) ?_
  refine aC rfl (eF) ?_
  refine aC rfl (Cw (c:=(Cv.seg l f t)) vc.g (hx.m_)) ?_
  refine df rfl (fun hc2=>?_) (fun hc2=>?_)
  ·exact absurd hB (by rw[show j5 (Cv.seg l f t) x=false from by simpa using hc2,lU];decide)
  ·have hv:cx f t≠0:=fun e=>absurd (show(Cv.seg l f t).vert=false from hb1) (by show ¬(cx f t==0)=false;rw[e];decide)
   have hb0:l.b≠0:=fun e=>hv ((Iq hl hf ht (by have:=vc.sp;simpa [Cv.supp,Cv.p] using this) (by have:=vc.sq;simpa [Cv.supp,Cv.q] using this) vc.ne).2 e)
   refine ar (gn mv rfl)<|rx rfl<|cz 19 [6,999999] ?_
   refine aq (co (cR l.c) aX rfl (by kernel_rfl)) ?_
   refine aq (co (cR l.a) aX rfl (by kernel_rfl)) ?_
   refine aC rfl (cm (aE (hl.a)) (aE hx)) ?_
   refine aC rfl (eo (aE (hl.c)) (aE (aF (hl.a) hx))) ?_
   refine aq (co (cR l.b) aX rfl (by kernel_rfl)) ?_
   refine aC rfl (pR ((hl.c.sub (hl.a.mul hx)).m_) (hl.b.m_) hb0) ?_
   refine DQ.mk<|fp (dL aX rfl) rfl rfl rfl rfl<|dc ?_
   refine ac rfl (eF) ?_
   exact ah (aQ cG rfl (ak aa))
 ·exact absurd hB (by rw[show(Cv.seg l f t).vert=true from hb1];exact Bool.false_ne_true)
theorem U7 (vc:CvV (Cv.arc k w f t)) (hx:Rz 7000 x) (hb:wH (Cv.arc k w f t) x=false):Ok Tryz.prog 271 [.a (([.b true]++mw++bo k++[.b w]++ai f++ai t)),dR x] [.a (tK),.c (.i .i64 1)]:=by
 have hf:=vc.g.2.1
 have ht:=vc.g.2.2
 have hk:=vc.g.1
 have hB:=hb
 rw[kh] at hB
 refine bW Tryz.func271 rfl<|cz 9 [] ?_
 refine aq (fU bT rfl) ?_
 refine aC rfl ((show Ok _ _ _ [.c (.b false)] from AM hk hf ht)) ?_
 refine aq (bq rfl) ?_
 refine aq (fU bT rfl) ?_
 refine aC rfl (eF) ?_
 refine aC rfl (Cw (c:=(Cv.arc k w f t)) vc.g (hx.m_)) ?_
 refine df rfl (fun hc1=>?_) (fun hc1=>?_)
 ·refine ar (az (us:=tK) kT js rfl rfl rfl) ?_
  exact ah (aQ cG rfl (ak aa))
 ·exact absurd hB (by rw[show(Cv.arc k w f t).vert=false from rfl,show j5 (Cv.arc k w f t) x=true from by simpa using hc1];decide)
theorem So (vc:CvV (Cv.arc k w f t)) (hx:Rz 7000 x) (hb:wH (Cv.arc k w f t) x=true) (hs:iC (jZ k x)=true):Ok Tryz.prog 271 [.a (([.b true]++mw++bo k++[.b w]++ai f++ai t)),dR x] [.a ((cR (k.y+sW w*rt (jZ k x))++cR 0++cR 0)),.c (.i .i64 0)]:=by
 have hf:=vc.g.2.1
 have ht:=vc.g.2.2
 have hk:=vc.g.1
 have hB:=hb
 rw[kh] at hB
 have ofk:OnK k f:=⟨hf,bH.1 vc.sp⟩
 have otk:OnK k t:=⟨ht,bH.1 vc.sq⟩
 have hm0: ¬jZ k x<0:=by
  have hb2:=hb
  unfold wH at hb2
  rw[dF,dF] at hb2
  have:=Cr ofk otk (of_decide_eq_true hb2.2.1) (of_decide_eq_true hb2.2.2)
  grind
 refine ex Tryz.func271 64 [.cell 4 129,.tmp 5] rfl<|ae<|ag<|ae<|ae<|fb 9 [] ?_
 refine aq (fU bT rfl) ?_
 refine aC rfl ((show Ok _ _ _ [.c (.b false)] from AM hk hf ht)) ?_
 refine aq (bq rfl) ?_
 refine aq (fU bT rfl) ?_
 refine aC rfl (eF) ?_
 refine aC rfl (Cw (c:=(Cv.arc k w f t)) vc.g (hx.m_)) ?_
 refine aS rfl (fun hc1=>?_) (fun hc1=>?_)
 ·exact absurd hB (by rw[show j5 (Cv.arc k w f t) x=false from by simpa using hc1,lU];decide)
 ·refine aB<|ae<|ae<|ag ?_
  refine ar (gn mv rfl) ?_
  refine bn rfl<|aB<|ae<|ag ?_
  refine ar (co (cR k.x) aX rfl (by kernel_rfl)) ?_
  refine ac rfl (eo (aE hx) (aE (hk.x)))<|ae<|ag ?_
  refine ac rfl (cA (by decide) (by decide)) ?_
  refine ae<|ae<|ag ?_
  refine ar (gn mv rfl) ?_
  refine aS rfl (fun hc2=>?_) (fun hc2=>?_)
  ·have e9:((1:Int):Rat)=sW w:=SS hc2
   refine ag<|ac rfl (lh (cA (by decide) (by decide)) e9) ?_
   refine ae<|fb 14 [] ?_
   refine aq (co (cR k.y) aX rfl (by kernel_rfl)) ?_
   refine aq (co (cR k.q) aX rfl (by kernel_rfl)) ?_
   refine aC rfl (cm (aE (cT hx (hk.x))) (aE (cT hx (hk.x)))) ?_
   refine aC rfl (eo (aE (hk.q)) (aE (aF (cT hx (hk.x)) (cT hx (hk.x))))) ?_
   refine aC rfl (pV (c:=jZ k x) (hk.y.m_) ((wD w).m_) ((qF hk (hx.m_)).m_) (fun h=>absurd h hm0) hs)<|a9 ?_
   exact ah (aQ cG rfl (ak aa))
  ·have e9:((-1:Int):Rat)=sW w:=RR hc2
   refine oC (σ':=⟨64,[(2,.p 2 0),(3,.p 3 0),(4,.p 4 0),(8,.p 8 0),(9,.p 9 0)],[(2,49,([.b true]++mw++bo k++[.b w]++ai f++ai t)),(3,38,cR x),(4,129,tK),(8,38,cR (x-k.x)),(9,38,cR (sW w))]⟩) (aA ⟨rfl,rfl,rfl,rfl,rfl,trivial⟩ ⟨rfl,rfl,rfl,rfl,congrArg (fun q=>some (38,cR q)) e9,trivial⟩ rfl) ?_
   refine aB<|ae<|fb 14 [] ?_
   refine aq (co (cR k.y) aX rfl (by kernel_rfl)) ?_
   refine aq (co (cR k.q) aX rfl (by kernel_rfl)) ?_
   refine aC rfl (cm (aE (cT hx (hk.x))) (aE (cT hx (hk.x)))) ?_
   refine aC rfl (eo (aE (hk.q)) (aE (aF (cT hx (hk.x)) (cT hx (hk.x))))) ?_
   refine aC rfl (pV (c:=jZ k x) (hk.y.m_) ((wD w).m_) ((qF hk (hx.m_)).m_) (fun h=>absurd h hm0) hs)<|a9 ?_
   exact ah (aQ cG rfl (ak aa))
theorem Sj (vc:CvV (Cv.arc k w f t)) (hx:Rz 7000 x) (hb:wH (Cv.arc k w f t) x=true) (hs:iC (jZ k x)=false):Ok Tryz.prog 271 [.a (([.b true]++mw++bo k++[.b w]++ai f++ai t)),dR x] [.a ((cR k.y++cR (sW w)++cR (zc (sW w) (jZ k x)))),.c (.i .i64 0)]:=by
 have hf:=vc.g.2.1
 have ht:=vc.g.2.2
 have hk:=vc.g.1
 have hB:=hb
 rw[kh] at hB
 have ofk:OnK k f:=⟨hf,bH.1 vc.sp⟩
 have otk:OnK k t:=⟨ht,bH.1 vc.sq⟩
 have hm0: ¬jZ k x<0:=by
  have hb2:=hb
  unfold wH at hb2
  rw[dF,dF] at hb2
  have:=Cr ofk otk (of_decide_eq_true hb2.2.1) (of_decide_eq_true hb2.2.2)
  grind
 refine ex Tryz.func271 64 [.cell 4 129,.tmp 5] rfl<|ae<|ag<|ae<|ae<|fb 9 [] ?_
 refine aq (fU bT rfl) ?_
 refine aC rfl ((show Ok _ _ _ [.c (.b false)] from AM hk hf ht)) ?_
 refine aq (bq rfl) ?_
 refine aq (fU bT rfl) ?_
 refine aC rfl (eF) ?_
 refine aC rfl (Cw (c:=(Cv.arc k w f t)) vc.g (hx.m_)) ?_
 refine aS rfl (fun hc1=>?_) (fun hc1=>?_)
 ·exact absurd hB (by rw[show j5 (Cv.arc k w f t) x=false from by simpa using hc1,lU];decide)
 ·refine aB<|ae<|ae<|ag ?_
  refine ar (gn mv rfl) ?_
  refine bn rfl<|aB<|ae<|ag ?_
  refine ar (co (cR k.x) aX rfl (by kernel_rfl)) ?_
  refine ac rfl (eo (aE hx) (aE (hk.x)))<|ae<|ag ?_
  refine ac rfl (cA (by decide) (by decide)) ?_
  refine ae<|ae<|ag ?_
  refine ar (gn mv rfl) ?_
  refine aS rfl (fun hc2=>?_) (fun hc2=>?_)
  ·have e9:((1:Int):Rat)=sW w:=SS hc2
   refine ag<|ac rfl (lh (cA (by decide) (by decide)) e9) ?_
   refine ae<|fb 14 [] ?_
   refine aq (co (cR k.y) aX rfl (by kernel_rfl)) ?_
   refine aq (co (cR k.q) aX rfl (by kernel_rfl)) ?_
   refine aC rfl (cm (aE (cT hx (hk.x))) (aE (cT hx (hk.x)))) ?_
   refine aC rfl (eo (aE (hk.q)) (aE (aF (cT hx (hk.x)) (cT hx (hk.x))))) ?_
   refine aC rfl (vJ (xB (c:=jZ k x) (hk.y.m_) ((wD w).m_) ((qF hk (hx.m_)).m_) (fun h=>absurd h hm0) hs) rfl (US hs) (UT hs))<|a9 ?_
   exact ah (aQ cG rfl (ak aa))
  ·have e9:((-1:Int):Rat)=sW w:=RR hc2
   refine oC (σ':=⟨64,[(2,.p 2 0),(3,.p 3 0),(4,.p 4 0),(8,.p 8 0),(9,.p 9 0)],[(2,49,([.b true]++mw++bo k++[.b w]++ai f++ai t)),(3,38,cR x),(4,129,tK),(8,38,cR (x-k.x)),(9,38,cR (sW w))]⟩) (aA ⟨rfl,rfl,rfl,rfl,rfl,trivial⟩ ⟨rfl,rfl,rfl,rfl,congrArg (fun q=>some (38,cR q)) e9,trivial⟩ rfl) ?_
   refine aB<|ae<|fb 14 [] ?_
   refine aq (co (cR k.y) aX rfl (by kernel_rfl)) ?_
   refine aq (co (cR k.q) aX rfl (by kernel_rfl)) ?_
   refine aC rfl (cm (aE (cT hx (hk.x))) (aE (cT hx (hk.x)))) ?_
   refine aC rfl (eo (aE (hk.q)) (aE (aF (cT hx (hk.x)) (cT hx (hk.x))))) ?_
   refine aC rfl (vJ (xB (c:=jZ k x) (hk.y.m_) ((wD w).m_) ((qF hk (hx.m_)).m_) (fun h=>absurd h hm0) hs) rfl (US hs) (UT hs))<|a9 ?_
   exact ah (aQ cG rfl (ak aa))
theorem U6 (vc:CvV c) (hx:Rz 7000 x):Ok Tryz.prog 271 [.a (aG c),dR x] (if wH c x then[.a (TG c x),.c (.i .i64 0)] else[.a tK,.c (.i .i64 1)]):=by
 cases hb:wH c x with
 |false=>
  rw[if_neg (by decide)]
  cases c with
  |seg l f t=>exact WL vc hx hb
  |arc k w f t=>exact U7 vc hx hb
 |true=>
  rw[if_pos rfl]
  cases c with
  |seg l f t=>exact VO vc hx hb
  |arc k w f t=>
   cases hs:iC (jZ k x) with
   |true=>rw[N9 hs];exact So vc hx hb hs
   |false=>rw[OY hs];exact Sj vc hx hb hs
end Go.Proofs.YtegpmhlfjkhjmaaGreat
