/-Plain:a list of points made shorter in place:each value once. -/
import Derived.Test.YtegpmhlfjkhjmaaGreatYqQ
namespace Go.Proofs.YtegpmhlfjkhjmaaGreat
open Go Go.RowKit
variable {w:Bool}{k:Ci}{c e:Cv}{cs rs us:List CellD}{L L' M S:List Pt}{l:Ln}{c9 j off s:Nat}{f p q t:Pt}{m x:Rat}
theorem vo:type_of% @List.flatten_cons:=@List.flatten_cons
structure CpS (S:List Pt) (m:Nat) (Y:List Pt):Prop where
 len:Y.length=S.length
 m1:1≤m
 mn:m≤S.length
 lt:(bU S m).length<m
 fst:Y.take (bU S m).length=bU S m
 rst:Y.drop (m-1)=S.drop (m-1)
section
variable {S Y:List Pt}{m:Nat}
theorem CpS.get (h:CpS S m Y) (hj:m-1≤j):Y.getD j dPt=S.getD j dPt:=by
 have e: ∀L:List Pt,L.getD j dPt=(L.drop (m-1)).getD (j-(m-1)) dPt:=fun L=>by
  rw[List.getD,List.getD,BD];congr 2;omega
 rw[e,h.rst,←e]
theorem CpS.start {k:Nat}(h0:0<k) (hk:k<S.length) (hS: ∀i,i+1<k→cP (S.getD (i+1) dPt) (S.getD i dPt)≠0) (he:cP (S.getD k dPt) (S.getD (k-1) dPt)=0):CpS S (k+1) S∧(bU S (k+1)).length=k:=by
 have e1:bU S (k+1)=S.take k:=(Gg h0 he).trans (BG hS (by omega))
 have e2:(bU S (k+1)).length=k:=by rw[e1,dE];omega
 exact⟨⟨rfl,by omega,by omega,by omega,by rw[e2,e1],rfl⟩,e2⟩
theorem CpS.old (h:CpS S m Y) (hm:m<S.length) (he:cP (S.getD m dPt) (S.getD (m-1) dPt)=0):CpS S (m+1) Y∧bU S (m+1)=bU S m:=by
 have e1:=Gg (S:=S) h.m1 he
 have hr:Y.drop m=S.drop m:=by
  have:=congrArg (List.drop 1) h.rst
  rw[xN,xN,show m-1+1=m from by have:=h.m1;omega] at this
  exact this
 have:=h.lt
 exact⟨⟨h.len,by omega,by omega,by rw[e1];omega,by rw[e1];exact h.fst,hr⟩,e1⟩
theorem CpS.new (h:CpS S m Y) (hm:m<S.length) (he:cP (S.getD m dPt) (S.getD (m-1) dPt)≠0):CpS S (m+1) (Y.set (bU S m).length (S.getD m dPt))∧(bU S (m+1)).length=(bU S m).length+1:=by
 have e1:=Il (S:=S) he
 have e2:(bU S (m+1)).length=(bU S m).length+1:=by rw[e1,dm];rfl
 have hlt:=h.lt
 have hl:=h.len
 have hr:Y.drop m=S.drop m:=by
  have:=congrArg (List.drop 1) h.rst
  rw[xN,xN,show m-1+1=m from by have:=h.m1;omega] at this
  exact this
 refine⟨⟨by rw[xT];exact hl,by omega,by omega,by omega,?_,?_⟩,e2⟩
 ·rw[e2,e1,qu (d:=dPt) (by rw[xT];omega),List.take_set_of_le (ce _),h.fst]
  congr 1
  simp[List.getD,show(bU S m).length<Y.length by omega]
 ·rw[show m+1-1=m from rfl,BS (by omega),hr]
theorem IG (h:S.length≤1):bU S S.length=S:=by
 rw[BG (fun i hi=>by omega) (ce _),lJ]
theorem ON (hS: ∀i,i+1<S.length→cP (S.getD (i+1) dPt) (S.getD i dPt)≠0):bU S S.length=S:=by
 rw[BG hS (ce _),lJ]
def Y2 (n:Nat):List CellD:=(List.replicate n VW).flatten
theorem Uc (n:Nat):(Y2 n).length=n*20:=by
 unfold Y2
 induction n with
 |zero=>rfl
 |succ n ih=>rw[List.replicate_succ,vo,dm,ih,show VW.length=20 from rfl];omega
theorem CpS.clr (h:CpS S m Y):(aw aj Y++rs).take ((bU S m).length*20)++Y2 (S.length-(bU S m).length)++(aw aj Y++rs).drop ((bU S m).length*20+(S.length-(bU S m).length)*20)=aw aj (bU S m)++(Y2 (S.length-(bU S m).length)++rs):=by
 have hl:=am ak Y
 have h1:=h.lt
 have h2:=h.mn
 have h3:=h.len
 rw[show(bU S m).length*20+(S.length-(bU S m).length)*20=(aw aj Y).length from by omega,List.drop_left,xz (by omega),pZ ak,h.fst,mV]
end
def zj (c:Cv) (D:List Pt) (n:Nat):List Pt:=(D.take n).filter (jE c)
def wT (c:Cv) (D:List Pt) (n:Nat):Pt:=(c.p::zj c D n).getD (zj c D n).length dPt
def F7 (c:Cv) (D:List Pt) (n:Nat):List Cv:=gC c (c.p::zj c D n)
section
variable {c:Cv}{D:List Pt}{n:Nat}
theorem FL:(F7 c D n).length=(zj c D n).length:=by unfold F7;rw[iW];rfl
theorem rO (h:n<D.length) (g:jE c (D.getD n dPt)=false):zj c D (n+1)=zj c D n:=by
 unfold zj
 rw[qu (d:=dPt) h,uZ,List.filter_cons,if_neg (by rw[g];decide)]
 simp
theorem rj (h:n<D.length) (g:jE c (D.getD n dPt)=true):zj c D (n+1)=zj c D n++[D.getD n dPt]:=by
 unfold zj
 rw[qu (d:=dPt) h,uZ,List.filter_cons,if_pos g]
 simp
theorem EJ (h:n<D.length) (g:jE c (D.getD n dPt)=false):wT c D (n+1)=wT c D n:=by unfold wT;rw[rO h g]
theorem J3 (h:n<D.length) (g:jE c (D.getD n dPt)=true):wT c D (n+1)=D.getD n dPt:=by
 unfold wT;rw[rj h g]
 simp[List.getD]
theorem O4 (h:n<D.length) (g:jE c (D.getD n dPt)=false):F7 c D (n+1)=F7 c D n:=by unfold F7;rw[rO h g]
theorem Lm (h:n<D.length) (g:jE c (D.getD n dPt)=true):F7 c D (n+1)=F7 c D n++[c.ends (wT c D n) (D.getD n dPt)]:=by
 unfold F7 wT;rw[rj h g,xM]
theorem UR:zj c D 0=[]:=by unfold zj;simp
theorem ZS:wT c D 0=c.p:=by unfold wT;rw[UR];rfl
theorem F4:t6 c (D.filter (jE c))=F7 c D D.length++[c.ends (wT c D D.length) c.q]:=by
 unfold t6 F7 wT zj
 rw[lJ,xM]
theorem N4 {x:Pt}(h:(cP x c.p==0)=true):jE c x=false:=by unfold jE;rw[h];rfl
theorem Fl {x:Pt}(h:(cP x c.p==0)=false):jE c x= !(cP x c.q==0):=by unfold jE;rw[h];rfl
end
section
variable {P:Program}{ops:Array Oper}{T:TF}{B:BF}{dst:Option Nat}{x i:Operand}{U:TypeId}{ty:TypeId}{pos:String}{af:Array Edge}{g:Option (Nat×Bool)}{n m c k q:Nat}{ki:IntKind}
theorem yv (hU:th P U=some m) (hx:cE T x=some (.o k n c)) (hh:cE T i=some (.v (.c (.i ki q)))) (hq:q<n) (hnc:n≤c) (hg:gd ops ⟨dst,.slice U x (some i) none none,ty,pos,af,g⟩ T=some true):
 Sem P ops ⟨dst,.slice U x (some i) none none,ty,pos,af,g⟩ T B (.r (.w k (q*m) (n-q) (c-q))):=by
 have h:=rm (P:=P) (ops:=ops) (T:=T) (B:=B) (dst:=dst) (ty:=ty) (pos:=pos) (af:=af) (g:=g) (ki:=ki) hU hx hh (Nat.le_of_lt hq) hnc hg
 rw[if_pos (by omega)] at h
 exact h
theorem vF {j:Int}(hU:th P U=some m) (hx:cE T x=some (.w k (q*m) n c)) (hi:cE T i=some (.v (.c (.i ki j)))) (hj:0≤j∧j<n) (hs:(q:Int)+j=s) (hg:gd ops ⟨dst,.indexAddr U x i,ty,pos,af,g⟩ T=some true):
 Sem P ops ⟨dst,.indexAddr U x i,ty,pos,af,g⟩ T B (.r (.p k (s*m))):=
 bQ hg (fun k' e=>by
  obtain rfl:k=k':=by injection e
  exact pQ (ops:=ops) (o:=⟨dst,.indexAddr U x i,ty,pos,af,g⟩) (by simp[Op.operands]) hx rfl) (fun V β a w hs'=>by
  have e:a.eval x=.slice (some ⟨β k,q*m,none⟩) n c:=aE hs' (x:=x) (by simp[Op.operands]) hx
  have h2:=fQ (aE hs' (x:=i) (by simp[Op.operands]) hi)
  unfold th at hU
  split at hU
  case h_2=>cases hU
  rename_i el hul
  cases hinf:P.info? el with
  |none=>rw[hinf] at hU;cases hU
  |some inf=>
   rw[hinf] at hU
   simp at hU
   have es:s*m=q*m+j.toNat*m:=by rw[←oH];congr 1;omega
   refine⟨.pointer (some ⟨β k,s*m,none⟩),?_,rfl⟩
   have hso: ∀w,(sizeOf el).run P w=.ok m w:=fun w=>by unfold sizeOf typeInfo;simp[program,Sem.run,hinf,hU]
   rw[es]
   simp[execOp,Instr.indexAt,e,h2,asIntOf,run_underlying hul,hj.1,hj.2,hso,kv])
theorem Nk (hU:th P U=some m) (hx:cE T x=some (.w k off n c)) (hg:gd ops ⟨dst,.call ⟨.builtin .len,#[x],#[U]⟩,ty,pos,af,g⟩ T=some true):
 Sem P ops ⟨dst,.call ⟨.builtin .len,#[x],#[U]⟩,ty,pos,af,g⟩ T B (.r (.v (.c (.i .i64 n)))):=
 bQ hg (pP rfl) (fun V β a w hs=>by
  have e:a.eval x=.slice (some ⟨β k,off,none⟩) n c:=aE hs (x:=x) (by simp[Op.operands,Call.operands]) hx
  unfold th at hU
  split at hU
  ·rename_i el hu
   refine⟨.int .i64 n,?_,.i _ _⟩
   simp[execOp,resolve,invoke,builtin,Builtin.len_,e,run_underlying hu,goInt]
  ·cases hU)
def fvB (P:Program) (U:TypeId) (f:Nat):Option (Nat×Nat):=
 match P.underlying U with
 |some (.struct fs)=>match fs[f]? with
  |some fd=>match ti P fd.type with
   |some (true,n)=>some (fd.offset,n)
   |_=>none
  |none=>none
 |_=>none
theorem IV {f:Nat}(hU:fvB P U f=some (off,n)) (hx:cE T x=some (.v (.a cs))) (hu:(cs.drop off).take n=us) (hg:gd ops ⟨dst,.field U x f,ty,pos,af,g⟩ T=some true):
 Sem P ops ⟨dst,.field U x f,ty,pos,af,g⟩ T B (.r (.v (.a us))):=
 bQ hg (pP rfl) (fun V β a w hs=>by
  obtain⟨vs,e,hr⟩:=aE hs (x:=x) (by simp[Op.operands]) hx
  unfold fvB at hU
  split at hU
  case h_2=>cases hU
  rename_i fs hul
  split at hU
  case h_2=>cases hU
  rename_i fd hf
  split at hU
  case h_2=>cases hU
  rename_i m ht
  cases hU
  obtain⟨h1,h2⟩:=wN ht w
  refine⟨.agg (vs.extract fd.offset (fd.offset+n)),?_,_,rfl,?_⟩
  ·simp only[execOp,Instr.field,eQ,run_underlying hul,fe,hf,e,asAgg,fX,part,h1,h2,if_true]
  ·rw[←hu]
   have:=(hr.drop fd.offset).take n
   rw[show(vs.extract fd.offset (fd.offset+n)).toList=(vs.toList.drop fd.offset).take n from by simp[List.take_drop]]
   exact this)
end
theorem aci (hS: ∀p∈S,GP p) (lS:S.length≤12) (hc9:S.length≤c9):OkT Tryz.prog 310 47 S.length c9 ((bU S S.length).length) (aw aj S++rs) (aw aj (bU S S.length)++(Y2 (S.length-(bU S S.length).length)++rs)) [.c (.f 220)]:=by
 refine OkT.of (K:=100000) (by kernel_rfl) Tryz.func310 rfl rfl rfl ?_
 rw[show Tryz.f310.ntmps=66 from rfl]
 refine aa<|ag<|aa<|aa<|ag<|ar (iv cA rfl rfl) ?_
 refine aI rfl (fun hc1=>?_) (fun hc1=>?_)
 ·refine aa<|ag<|aZ ?_
  rw[IG (by have:=of_decide_eq_true hc1;omega),Nat.sub_self]
  exact⟨.inr rfl,rfl,4,rfl,rfl⟩
 ·have h2:2≤S.length:=by have:=of_decide_eq_false hc1;omega
  refine aA<|aa<|aa<|ag<|aB<|bh (ι:={k:Nat // 1≤k∧k≤S.length∧ ∀i,i+1<k→cP (S.getD (i+1) dPt) (S.getD i dPt)≠0}) (fun i=>⟨66,[(0,.o 100000 S.length c9),(1,.v (.c (.f 220))),(5,.v (.c (.i .i64 (i.1:Int))))],[(100000,47,aw aj S++rs)]⟩) (fun i=>S.length-i.1) ⟨1,ce _,by omega,fun i hi=>absurd hi (by omega)⟩ (ao ⟨rfl,rfl,rfl,trivial⟩ ⟨rfl,trivial⟩ rfl) ?_
  rintro⟨k,hk1,hk2,hk3⟩
  replace hk1:1≤k:=hk1
  replace hk2:k≤S.length:=hk2
  replace hk3: ∀i,i+1<k→cP (S.getD (i+1) dPt) (S.getD i dPt)≠0:=hk3
  dsimp only
  refine aa<|aa<|ag<|ar (iv cA rfl rfl) ?_
  refine aI rfl (fun hc2=>?_) (fun hc2=>?_)
  ·have g1:k<S.length:=by have:=of_decide_eq_true hc2;omega
   refine aA<|aa<|aB<|aa<|ln 11 rfl rfl<|dt 3<|bD (bq cA rfl rfl (by omega) rfl) ?_
   refine bD (bZ (us:=aj (S.getD k dPt)) bv rfl rfl ((jM (e:=dPt) (O:=S) ak (by omega))) (ak _) rfl) ?_
   refine dt 2<|bD (ci (((k-1:Nat):Int)) ((bO (by omega) (by omega)).trans (congrArg some (by omega))) rfl)<|bD (bq cA rfl rfl (by omega) rfl) ?_
   refine bD (bZ (us:=aj (S.getD (k-1) dPt)) bv rfl rfl ((jM (e:=dPt) (O:=S) ak (by omega))) (ak _) rfl) ?_
   refine bD (cj rfl (yr (GP.getD hS k) (GP.getD hS (k-1))))<|jY<|dk<|ba ?_
   refine aI rfl (fun hc3=>?_) (fun hc3=>?_)
   ·have g2:cP (S.getD k dPt) (S.getD (k-1) dPt)=0:=by simpa using hc3
    obtain⟨cs1,cs2⟩:=CpS.start (by omega) g1 hk3 g2
    refine aa<|ag<|ar (yv (q:=k) cA rfl rfl (by omega) (by omega) rfl) ?_
    refine aa<|aa<|ag<|aB<|bh (ι:={x9:Nat×List Pt // 1≤x9.1∧CpS S (k+x9.1) x9.2}) (fun i=>⟨66,[(0,.o 100000 S.length c9),(1,.v (.c (.f 220))),(5,.v (.c (.i .i64 (((bU S (k+i.1.1)).length:Int))))),(6,.w 100000 (k*20) (S.length-k) (c9-k)),(7,.v (.c (.i .i64 (i.1.1:Int))))],[(100000,47,aw aj i.1.2++rs)]⟩) (fun i=>S.length-(k+i.1.1)) ⟨(1,S),ce _,cs1⟩ (ao ⟨rfl,rfl,congrArg (fun q=>some (DV.v (.c (.i .i64 ((q:Nat):Int))))) cs2.symm,rfl,rfl,trivial⟩ ⟨rfl,trivial⟩ rfl) ?_
    rintro⟨⟨q,Y⟩,hq1,hC⟩
    replace hq1:1≤q:=hq1
    replace hC:CpS S (k+q) Y:=hC
    have hY:=hC.len
    have hlt:=hC.lt
    have hmn:=hC.mn
    dsimp only
    refine aa<|aa<|ag<|ar (Nk cA rfl rfl) ?_
    refine aI rfl (fun hc4=>?_) (fun hc4=>?_)
    ·have g3:k+q<S.length:=by have:=of_decide_eq_true hc4;omega
     refine aA<|aa<|aB<|aa<|ln 12 rfl rfl<|dt 3<|bD (vF (s:=(k+q)) cA rfl rfl (⟨by omega,by omega⟩) (by omega) rfl) ?_
     refine bD (bZ (us:=aj (S.getD (k+q) dPt)) bv rfl rfl ((jM (e:=dPt) (O:=Y) ak (by omega)).trans (congrArg aj (hC.get (by omega)))) (ak _) rfl) ?_
     refine dt 2<|bD (ci (((q-1:Nat):Int)) ((bO (by omega) (by omega)).trans (congrArg some (by omega))) rfl)<|bD (vF (s:=(k+q-1)) cA rfl rfl (⟨by omega,by omega⟩) (by omega) rfl) ?_
     refine bD (bZ (us:=aj (S.getD (k+q-1) dPt)) bv rfl rfl ((jM (e:=dPt) (O:=Y) ak (by omega)).trans (congrArg aj (hC.get (by omega)))) (ak _) rfl) ?_
     refine bD (cj rfl (yr (GP.getD hS (k+q)) (GP.getD hS (k+q-1))))<|yo<|dk<|ba ?_
     refine aI rfl (fun hc5=>?_) (fun hc5=>?_)
     ·have g4:cP (S.getD (k+q) dPt) (S.getD (k+q-1) dPt)≠0:=by simpa using hc5
      obtain⟨n1,n2⟩:=hC.new g3 g4
      refine aa<|bg<|bK 4<|aR (vF (s:=(k+q)) cA rfl rfl (⟨by omega,by omega⟩) (by omega) rfl) ?_
      refine aR (bZ (us:=aj (S.getD (k+q) dPt)) bv rfl rfl ((jM (e:=dPt) (O:=Y) ak (by omega)).trans (congrArg aj (hC.get (by omega)))) (ak _) rfl) ?_
      refine aR (bq cA rfl rfl (by omega) rfl) ?_
      refine f8 (bd (us:=(aw aj (Y.set (bU S (k+q)).length (S.getD (k+q) dPt)))++rs) bv rfl rfl rfl (ak _) (by rw[dm,am ak];omega) (v8 ak (by omega) _) rfl) ?_
      refine ba<|ag<|ar (ci ((((bU S (k+q)).length+1:Nat):Int)) ((bk (by omega) (by omega)).trans (congrArg some (by omega))) rfl)<|ag<|ar (cb (by omega) rfl) ?_
      exact⟨⟨(q+1,_),by show 1≤q+1;omega,n1⟩,ao ⟨rfl,rfl,congrArg (fun q=>some (DV.v (.c (.i .i64 ((q:Nat):Int))))) n2.symm,rfl,rfl,trivial⟩ ⟨rfl,trivial⟩ rfl,by show S.length-(k+(q+1))<S.length-(k+q);omega⟩
     ·have g4:cP (S.getD (k+q) dPt) (S.getD (k+q-1) dPt)=0:=by simpa using hc5
      obtain⟨n1,n2⟩:=hC.old g3 g4
      refine aA<|ag<|ar (cb (by omega) rfl) ?_
      exact⟨⟨(q+1,Y),by show 1≤q+1;omega,n1⟩,ao ⟨rfl,rfl,congrArg (fun q=>some (DV.v (.c (.i .i64 ((List.length q:Nat):Int))))) n2.symm,rfl,rfl,trivial⟩ ⟨rfl,trivial⟩ rfl,by show S.length-(k+(q+1))<S.length-(k+q);omega⟩
    ·have hm:k+q=S.length:=by have:=of_decide_eq_false hc4;omega
     refine a7<|aa<|ag<|ar (yv (q:=(((bU S (k+q)).length:Int)).toNat) cA rfl rfl (by omega) (by omega) rfl) ?_
     refine re (DR (cs':=aw aj (bU S (k+q))++(Y2 (S.length-(bU S (k+q)).length)++rs)) dr rfl rfl (by rw[dm,am ak];omega) (hC.clr) rfl) ?_
     refine aa<|ag<|ar (oc (q:=(((bU S (k+q)).length:Int)).toNat) cA rfl rfl (by omega) rfl) ?_
     refine aZ ?_
     rw[show bU S S.length=bU S (k+q) from by rw[hm]]
     exact⟨.inr rfl,rfl,4,rfl,rfl⟩
   ·have g2:cP (S.getD k dPt) (S.getD (k-1) dPt)≠0:=by simpa using hc3
    refine aA<|ag<|ar (cb (by omega) rfl) ?_
    exact⟨⟨k+1,by omega,g1,fun i hi=>(io (i+1) k).elim (hk3 i) fun e=>by rw[show i+1=k from by omega,show i=k-1 from by omega];exact g2⟩,ao ⟨rfl,rfl,rfl,trivial⟩ ⟨rfl,trivial⟩ rfl,by show S.length-(k+1)<S.length-k;omega⟩
  ·have hk:k=S.length:=by have:=of_decide_eq_false hc2;omega
   have hN: ∀i,i+1<S.length→cP (S.getD (i+1) dPt) (S.getD i dPt)≠0:=fun i hi=>hk3 i (by omega)
   refine a7<|aa<|ag<|aZ ?_
   rw[ON hN,Nat.sub_self]
   exact⟨.inr rfl,rfl,4,rfl,rfl⟩
theorem acu:Ok Tryz.prog 219 [.a (aD c),.c (.s 0 [])] [.c (.s 0 [])]:=by
 refine eH Tryz.func219 12 [.tmp 4] rfl<|aa<|ag<|aa<|ag<|ac rfl (ab5)<|aa<|kU (t:=2) (k:=2) rfl rfl<|ag<|ar (qp (us:=[.p (aD c)]) rfl rfl) ?_
 refine ac rfl (XN)<|aa<|ag<|ac rfl ((show Ok _ _ _ [.c (.s 0 [])] from acB (S:=[]) (fun p h=>by cases h) (eK _) (fun i h=>by cases h)))<|aZ ?_
 exact ah (az ae)
theorem nP (hp:0≤p.c) (hq:0≤q.c) (h:cP p q=0):cP q p=0:=by rw[fD hp hq,h];rfl
theorem Ac {r:Pt}(hp:0≤p.c) (hq:0≤q.c) (hr:0≤r.c) (h:cP p q=0) (g:cP q r=0):cP p r=0:=by
 obtain⟨g1,g2⟩:=fj.1 g
 exact fj.2 ⟨(ww hp hq h hr).trans g1,(Bg hp hq h hr).trans g2⟩
def mi (c:Cv) (L:List Pt):List Pt:=(bU (bp dPt (bT c) L) L.length).filter (jE c)
section
variable {k:Ci}{w:Bool}{f t:Pt}(vc:CvV (.arc k w f t))
include vc
theorem Ht (hM:M.Pairwise fun p q=>(Cv.arc k w f t).ord p q<0) (hI: ∀x∈M,OnK k x∧(Cv.arc k w f t).inner x=true):(f::(M++[t])).Pairwise (fun p q=>(Cv.arc k w f t).ord p q<0)∧ ∀p∈f::(M++[t]),OnK k p:=by
 have of:=(Dl vc).1
 have ot:=(Dl vc).2
 have hon: ∀x,(Cv.arc k w f t).on x=true→OnK k x→(Cv.arc k w f t).ord x t≤0:=fun x hx ox=>(Cu.1 hx).2.2
 refine⟨List.pairwise_cons.2 ⟨fun x hx=>?_,xW.2 ⟨hM,C8 _ _,fun x hx y hy=>?_⟩⟩,fun x hx=>?_⟩
 ·rcases mW.1 hx with hx|hx
  ·exact JW vc of (hI x hx).1 (yG of (hI x hx).1) (pS.1 (hI x hx).2).2.1
  ·rw[nE.1 hx];exact JW vc of ot (yG of ot) vc.ne
 ·rw[nE.1 hy]
  exact JW vc (hI x hx).1 ot (hon x (Ou (hI x hx).2) (hI x hx).1) (OV vc.g (hI x hx).1.1 (hI x hx).2).2
 ·rcases dA.1 hx with rfl|hx
  ·exact of
  ·rcases mW.1 hx with hx|hx
   ·exact(hI x hx).1
   ·rw[nE.1 hx];exact ot
theorem MZ (hM:M.Pairwise fun p q=>(Cv.arc k w f t).ord p q<0) (hI: ∀x∈M,OnK k x∧(Cv.arc k w f t).inner x=true):cr (.arc k w f t) ([f,t]++M)=f::(M++[t]):=by
 have of:=(Dl vc).1
 obtain⟨h1,h2⟩:=Ht vc hM hI
 have hTL:(f::(M++[t])).Perm ([f,t]++M):=List.Perm.cons f List.perm_append_comm
 have hLon: ∀y∈ [f,t]++M,OnK k y:=fun y hy=>h2 y (hTL.mem_iff.2 hy)
 obtain⟨g1,g2⟩:=Ad (k:=k) (w:=w) (f:=f) (t:=t) vc.pos of hLon
 have hne: ∀ {a b:Pt},OnK k a→OnK k b→(Cv.arc k w f t).ord a b<0→cP a b≠0:=fun oa ob h=>r5 vc.g oa.1 ob.1 h
 have hself: ∀x,OnK k x→ ¬(Cv.arc k w f t).ord x x<0:=fun x ox h=>hne ox ox h (l5 (bn ox))
 have pw:(f::(M++[t])).Pairwise fun a b=>cP a b≠0:=uc (fun{a b} ha hb h=>hne (h2 a ha) (h2 b hb) h) h1
 have same:=Lr (fun a ha b hb e=>nP (bn (h2 a ha)) (bn (h2 b hb)) e) pw
 have nd: ∀ {L:List Pt},(∀y∈L,OnK k y)→L.Pairwise (fun p q=>(Cv.arc k w f t).ord p q<0)→L.Nodup:=fun ho hs=>uc (fun{a b} ha _ hab e=>by subst e;exact hself a (ho a ha) hab) hs
 have hm: ∀z∈cr (.arc k w f t) ([f,t]++M),z∈f::(M++[t]):=fun z hz=>hTL.mem_iff.2 (mI hz)
 refine Cj (fun a ha b hb g g3=>?_) ((List.perm_ext_iff_of_nodup (nd (fun y hy=>h2 y (hm y hy)) g1) (nd h2 h1)).2 fun z=>⟨hm z,fun hz=>?_⟩) g1 h1
 ·have:=kg (w:=w) (t:=t) of (h2 a (hm a ha)) (h2 b (hm b hb))
  omega
 ·obtain⟨y,hy,e⟩:=g2 z (hTL.mem_iff.1 hz)
  rw[←same y (hm y hy) z hz e];exact hy
section
variable {L:List Pt}(hL: ∀p∈L,GP p∧(Cv.arc k w f t).on p=true)
include hL
theorem EW:(mi (.arc k w f t) L).Pairwise (fun p q=>(Cv.arc k w f t).ord p q<0)∧(∀x∈mi (.arc k w f t) L,(OnK k x∧(Cv.arc k w f t).inner x=true)∧x∈L)∧ ∀x∈L,(∃y∈mi (.arc k w f t) L,cP y x=0)∨cP f x=0∨cP t x=0:=by
 have of:=(Dl vc).1
 have ot:=(Dl vc).2
 have hp:=kT (e:=dPt) (C:=bT (.arc k w f t)) L
 have hlen:=fE (e:=dPt) (C:=bT (.arc k w f t)) L
 have oL: ∀x∈L,OnK k x:=fun x hx=>Aa (hL x hx).1 (hL x hx).2
 have heq: ∀x∈L,∀y∈L,bT (.arc k w f t) x y=(Cv.arc k w f t).ord x y:=fun x hx y hy=>Us vc rfl (hL x hx).1 (hL y hy).1 (hL x hx).2 (hL y hy).2
 have hs:=wg (e:=dPt) (C:=bT (.arc k w f t)) (G:=fun p=>p∈L) (fun x y hx hy=>by
  rw[heq x hx y hy,heq y hy x hx];exact kg of (oL x hx) (oL y hy)) (fun x y z hx hy hz h1 h2=>by
  rw[heq x hx y hy] at h1
  rw[heq y hy z hz] at h2
  rw[heq x hx z hz]
  exact HP (tV of (oL x hx) (oL y hy) (oL z hz)) h1 h2) L (O:=[]) (fun y hy=>hy) (fun y hy=>by cases hy) .nil
 have hs:(bp dPt (bT (.arc k w f t)) L).Pairwise fun a b=>(Cv.arc k w f t).ord a b≤0:=uc (fun{a b} ha hb g=>by rw[←heq a (hp.mem_iff.1 ha) b (hp.mem_iff.1 hb)];exact g) hs
 have oS: ∀x∈bp dPt (bT (.arc k w f t)) L,OnK k x:=fun x hx=>oL x (hp.mem_iff.1 hx)
 have hn:L.length≤(bp dPt (bT (.arc k w f t)) L).length:=by omega
 have hd:=Pr (C:=(Cv.arc k w f t).ord) (G:=OnK k) (fun x y hx hy=>kg of hx hy) (fun x y z hx hy hz h1 h2=>HP (tV of hx hy hz) h1 h2) (fun x y hx hy e=>nP (bn hx) (bn hy) (vf vc.pos of hx hy e)) oS hs hn
 have mL: ∀x∈bU (bp dPt (bT (.arc k w f t)) L) L.length,x∈L:=fun x hx=>hp.mem_iff.1 (GC hn hx)
 have nz: ∀ {a b:Pt},OnK k a→OnK k b→(!(cP a b==0))=true→cP b a≠0:=fun oa ob h e=>by
  rw[nP (bn ob) (bn oa) e] at h;cases h
 refine⟨List.Pairwise.filter _ hd,fun x hx=>?_,fun x hx=>?_⟩
 ·obtain⟨h1,h2⟩:=my.1 hx
  have hxL:=mL x h1
  unfold jE at h2
  rw[dN] at h2
  exact⟨⟨oL x hxL,pS.2 ⟨(hL x hxL).2,nz (oL x hxL) of h2.1,nz (oL x hxL) ot h2.2⟩⟩,hxL⟩
 ·obtain⟨i,hi,e⟩:=List.mem_iff_getElem.1 (hp.mem_iff.2 hx)
  obtain⟨y,hy,e2⟩:=PF (S:=bp dPt (bT (.arc k w f t)) L) (fun p h=>bn (oS p h)) hn (show i<L.length by omega)
  rw[show(bp dPt (bT (.arc k w f t)) L).getD i dPt=x from by rw[List.getD,f9 hi];exact e] at e2
  have oy:=oL y (mL y hy)
  cases g:jE (.arc k w f t) y with
  |true=>exact .inl ⟨y,my.2 ⟨hy,g⟩,e2⟩
  |false=>
   unfold jE at g
   have ox:=oL x hx
   cases g1:cP y f==0 with
   |true=>
    have z:cP y f=0:=beq_iff_eq.1 g1
    exact .inr (.inl (Ac (bn of) (bn oy) (bn ox) (nP (bn oy) (bn of) z) e2))
   |false=>
    have z:cP y t=0:=by
     have g:(!(cP y f==0)&& !(cP y t==0))=false:=g
     rw[g1] at g
     simpa using g
    exact .inr (.inr (Ac (bn ot) (bn oy) (bn ox) (nP (bn oy) (bn ot) z) e2))
theorem CE:t6 (.arc k w f t) (mi (.arc k w f t) L)=je (.arc k w f t) (mi (.arc k w f t) L):=by
 obtain⟨h1,h2,_⟩:=EW vc hL
 show gC _ (f::(mi (.arc k w f t) L++[t]))=gC _ (cr (.arc k w f t) ([f,t]++mi (.arc k w f t) L))
 rw[MZ vc h1 fun x hx=>(h2 x hx).1]
theorem Sc (hL': ∀p∈L',GP p∧(Cv.arc k w f t).on p=true) (h12: ∀x∈L,∃y∈L',cP x y=0) (h21: ∀y∈L',∃x∈L,cP y x=0):
 ∃T T':List Pt,t6 (.arc k w f t) (mi (.arc k w f t) L)=gC (.arc k w f t) T∧je (.arc k w f t) L'=gC (.arc k w f t) T'∧T.length=T'.length∧2≤T.length∧T.length≤L.length+2∧(∀i,i<T.length→cP (T.getD i dPt) (T'.getD i dPt)=0)∧
  (∀x∈T,OnK k x)∧(∀x∈T',OnK k x)∧T.Pairwise (fun p q=>(Cv.arc k w f t).ord p q<0)∧T'.Pairwise (fun p q=>(Cv.arc k w f t).ord p q<0)∧T.getD 0 dPt=f∧T.getD (T.length-1) dPt=t:=by
 have of:=(Dl vc).1
 have ot:=(Dl vc).2
 obtain⟨h1,h2,h3⟩:=EW vc hL
 obtain⟨s1,s2⟩:=Ht vc h1 fun x hx=>(h2 x hx).1
 have oL': ∀y∈ [f,t]++L',OnK k y:=fun y hy=>by
  rcases mW.1 hy with hy|hy
  ·simp only[dA,qF,or_false] at hy
   rcases hy with rfl|rfl<;>assumption
  ·exact Aa (hL' y hy).1 (hL' y hy).2
 obtain⟨g1,g2⟩:=Ad (k:=k) (w:=w) (f:=f) (t:=t) vc.pos of oL'
 have o2: ∀y∈cr (.arc k w f t) ([f,t]++L'),OnK k y:=fun y hy=>oL' y (mI hy)
 have z0: ∀ {a b:Pt},OnK k a→OnK k b→cP a b=0→(Cv.arc k w f t).ord a b=0:=fun oa ob h=>vU (bn oa) (bn ob) h vc.g
 have hlen:(f::(mi (.arc k w f t) L++[t])).length=(mi (.arc k w f t) L).length+2:=by simp
 have hle:(mi (.arc k w f t) L).length≤L.length:=iK (sB _ _) ze
 have k1: ∀a∈f::(mi (.arc k w f t) L++[t]),∃b∈cr (.arc k w f t) ([f,t]++L'),(Cv.arc k w f t).ord a b=0:=by
  intro a ha
  have oa:=s2 a ha
  have fnd: ∀y∈ [f,t]++L',cP a y=0→ ∃b∈cr (.arc k w f t) ([f,t]++L'),(Cv.arc k w f t).ord a b=0:=fun y hy e=>by
   obtain⟨z,hz,e3⟩:=g2 y hy
   have oy:=oL' y hy
   have oz:=o2 z hz
   exact⟨z,hz,z0 oa oz (Ac (bn oa) (bn oy) (bn oz) e (nP (bn oz) (bn oy) e3))⟩
  rcases dA.1 ha with rfl|ha
  ·exact fnd a (by simp) (l5 (bn oa))
  ·rcases mW.1 ha with ha|ha
   ·obtain⟨y,hy,e⟩:=h12 a (h2 a ha).2
    exact fnd y (by simp[hy]) e
   ·rw[nE.1 ha] at fnd⊢
    exact fnd t (by simp) (l5 (bn ot))
 have k2: ∀b∈cr (.arc k w f t) ([f,t]++L'),∃a∈f::(mi (.arc k w f t) L++[t]),(Cv.arc k w f t).ord a b=0:=by
  intro b hb
  have ob:=o2 b hb
  have inT: ∀x∈f::(mi (.arc k w f t) L++[t]),cP x b=0→ ∃a∈f::(mi (.arc k w f t) L++[t]),(Cv.arc k w f t).ord a b=0:=fun x hx e=>⟨x,hx,z0 (s2 x hx) ob e⟩
  rcases mW.1 (mI hb) with hb2|hb2
  ·simp only[dA,qF,or_false] at hb2
   rcases hb2 with rfl|rfl
   ·exact inT b (by simp) (l5 (bn ob))
   ·exact inT b (by simp) (l5 (bn ob))
  ·obtain⟨x,hx,e⟩:=h21 b hb2
   have ox:=Aa (hL x hx).1 (hL x hx).2
   have e':=nP (bn ob) (bn ox) e
   rcases h3 x hx with⟨y,hy,ey⟩|ey|ey
   ·exact inT y (by simp[hy]) (Ac (bn (h2 y hy).1.1) (bn ox) (bn ob) ey e')
   ·exact inT f (by simp) (Ac (bn of) (bn ox) (bn ob) ey e')
   ·exact inT t (by simp) (Ac (bn ot) (bn ox) (bn ob) ey e')
 obtain⟨e1,e2⟩:=Ll (e:=dPt) (C:=(Cv.arc k w f t).ord) (G:=OnK k) (fun x y hx hy=>kg of hx hy) (fun x y z hx hy hz h1 h2=>HP (tV of hx hy hz) h1 h2) s2 o2 s1 g1 k1 k2
 refine⟨f::(mi (.arc k w f t) L++[t]),cr (.arc k w f t) ([f,t]++L'),rfl,rfl,e1,by omega,by omega,fun i hi=>?_,s2,o2,s1,g1,rfl,?_⟩
 ·exact vf vc.pos of (s2 _ (bj hi)) (o2 _ (bj (by omega))) (e2 i hi)
 ·rw[hlen,show(mi (.arc k w f t) L).length+2-1=(mi (.arc k w f t) L).length+1 from by omega]
  simp[List.getD]
end
end
theorem I2 (c:Cv): ∀ {T:List Pt}{i:Nat},i+1<T.length→(gC c T).getD i aY=c.ends (T.getD i dPt) (T.getD (i+1) dPt)
 |p::q::l,0,_=>rfl
 |p::q::l,i+1,h=>I2 c (T:=q::l) (by simpa using h)
 |[_],i,h=>by simp at h
 |[],i,h=>by simp at h
theorem aaZ (vc:CvV c) (ha:c.isArc=true) (hG: ∀p∈L,GP p) (lL:L.length≤12) (hl:0<L.length):Ok Tryz.prog 219 [.a (aD c),.c (.s ((L).length) (aw aj (L)))] [.c (.s ((bU (bp dPt (bT c) L) L.length).length) (aw aj (bU (bp dPt (bT c) L) L.length)))]:=by
 have hS: ∀p∈(bp dPt (bT c) L),GP p:=fun p h=>hG p ((kT _).mem_iff.1 h)
 have lS:(bp dPt (bT c) L).length≤12:=by rw[fE];exact lL
 have lD:(bU (bp dPt (bT c) L) L.length).length≤L.length:=ze
 refine eH Tryz.func219 12 [.tmp 4] rfl<|aa<|ag<|aa<|bg<|bK 1 ?_
 refine yK rfl rfl (acl hl lL) rfl rfl (fun cg1 rg1 hga1 hgb1 hgc1=>?_)
 refine ex<|aa<|kU (t:=2) (k:=2) rfl rfl<|ag<|ar (qp (us:=[.p (aD c)]) rfl rfl) ?_
 refine DL.mk<|sN (kY rfl rfl rfl rfl rfl (ZH vc ha hl lL hG) rfl)<|dX ?_
 refine aa<|bg<|bK 1<|GH rfl rfl rfl rfl rfl ((by have h9:=aci (S:=(bp dPt (bT c) L)) (c9:=cg1) (rs:=rg1) hS lS (by rw[fE];exact hga1);rw[fE] at h9;exact h9)) rfl ?_
 refine ex<|cB (t:=4) (m:=20) (us:=aw aj (bU (bp dPt (bT c) L) L.length)) rfl rfl (jC (n:=(bU (bp dPt (bT c) L) L.length).length) (am ak _) (by rw[dm,Uc];omega) (by omega)) (by omega) (by assumption) (gh (am ak _))<|aZ ?_
 exact ah (az ae)
theorem ab2 (vc:CvV c) (ha:c.isArc=true) (hG: ∀p∈L,GP p) (lL:L.length≤12):Ok Tryz.prog 219 [.a (aD c),.c (.s ((L).length) (aw aj (L)))] [.c (.s ((bU (bp dPt (bT c) L) L.length).length) (aw aj (bU (bp dPt (bT c) L) L.length)))]:=by
 rcases jo L.length with h|h
 ·obtain rfl:=jP.1 h
  exact acu
 ·exact aaZ vc ha hG lL h
theorem We (vc:CvV c) (ha:c.isArc=true) (hG: ∀p∈L,GP p) (lL:L.length≤12) (hon: ∀p∈L,c.on p=true):OkN Tryz.prog 124 [.a (aD c),.c (.s ((L).length) (aw aj (L)))] 49 ((t6 c (mi c L)).length) 66 (aw aD (t6 c (mi c L))) [.c (.i .i64 0)]:=by
 have hD: ∀p∈(bU (bp dPt (bT c) L) L.length),GP p:=fun p h=>hG p ((kT _).mem_iff.1 (GC (by rw[fE];exact ce _) h))
 have lD:(bU (bp dPt (bT c) L) L.length).length≤L.length:=ze
 refine OkN.of (by kernel_rfl) Tryz.func124 rfl rfl ?_
 rw[show Tryz.f124.ntmps=47 from rfl]
 refine aa<|bg<|bK 1<|aR (ed rfl) ?_
 refine ex<|aa<|aa<|kU (t:=2) (k:=2) rfl rfl<|ag<|ar (qp (us:=[.p (aD c)]) rfl rfl) ?_
 refine ac rfl (abP vc ha hG lL hon)<|a8 rfl<|aA<|aa<|bg<|aR (ed rfl) ?_
 refine ba<|aa<|ag<|ar (mM (us:=aD c) bW rfl (ja (ph (ai _))) (ai _) rfl) ?_
 refine re (de bW rfl rfl rfl (ai _) rfl rfl) ?_
 refine aa<|aa<|ag<|ar (mM (us:=aD c) bW rfl (ja (ph (ai _))) (ai _) rfl) ?_
 refine ac rfl (ab2 vc ha hG lL) ?_
 refine aB ?_
 refine bh (ι:=Sum ({n:Nat // n≤(bU (bp dPt (bT c) L) L.length).length∧(zj c (bU (bp dPt (bT c) L) L.length) n)=[]}) ({x9:Nat×Nat×List CellD // x9.1≤(bU (bp dPt (bT c) L) L.length).length∧(zj c (bU (bp dPt (bT c) L) L.length) x9.1).length≤x9.2.1∧x9.2.1≤maxLen∧x9.2.2.length=(x9.2.1-(zj c (bU (bp dPt (bT c) L) L.length) x9.1).length)*66})) (fun i=>match i with| .inl i=>⟨47,[(2,.v (.c (.p (aD c)))),(7,.p 7 0),(17,.v (.c (.s ((bU (bp dPt (bT c) L) L.length).length) (aw aj (bU (bp dPt (bT c) L) L.length))))),(6,.z),(18,.v (.c (.i .i64 (((bU (bp dPt (bT c) L) L.length).length:Int))))),(19,.v (.c (.i .i64 (i.1:Int))))],[(7,49,aD ((c.ends (wT c (bU (bp dPt (bT c) L) L.length) i.1) c.q)))]⟩| .inr i=>⟨47,[(2,.v (.c (.p (aD c)))),(7,.p 7 0),(17,.v (.c (.s ((bU (bp dPt (bT c) L) L.length).length) (aw aj (bU (bp dPt (bT c) L) L.length))))),(6,.o 41 ((zj c (bU (bp dPt (bT c) L) L.length) i.1.1).length) i.1.2.1),(18,.v (.c (.i .i64 (((bU (bp dPt (bT c) L) L.length).length:Int))))),(19,.v (.c (.i .i64 (i.1.1:Int))))],[(7,49,aD ((c.ends (wT c (bU (bp dPt (bT c) L) L.length) i.1.1) c.q))),(41,49,aw aD (F7 c (bU (bp dPt (bT c) L) L.length) i.1.1)++i.1.2.2)]⟩) (fun i=>match i with| .inl i=>(bU (bp dPt (bT c) L) L.length).length-i.1| .inr i=>(bU (bp dPt (bT c) L) L.length).length-i.1.1) (.inl ⟨0,eK _,UR⟩) (ao ⟨rfl,rfl,rfl,rfl,rfl,rfl,trivial⟩ ⟨congrArg (fun q=>some (49,aD q)) (by rw[ZS,Mi]),trivial⟩ rfl) ?_
 rintro(⟨n,h2,h3⟩|⟨⟨n,c9,rs⟩,h2,h3,h4,h5⟩)
 ·replace h2:n≤(bU (bp dPt (bT c) L) L.length).length:=h2
  replace h3:(zj c (bU (bp dPt (bT c) L) L.length) n)=[]:=h3
  dsimp only
  refine aa<|ag<|aa ?_
  refine aI rfl (fun hc1=>?_) (fun hc1=>?_)
  ·have g1:n<(bU (bp dPt (bT c) L) L.length).length:=by have:=of_decide_eq_true hc1;omega
   have hx:=hD _ (bj (d:=dPt) g1)
   refine aA<|aa<|aB<|aa<|ag<|ar (eM dPt ak g1 cA rfl)<|ar (ip ak bv rfl)<|aa<|aa<|ag ?_
   refine ar (tX I5 rfl rfl rfl) ?_
   refine ar (cg (us:=aj c.p) bv rfl (lr _) rfl rfl) ?_
   refine ac rfl (yr hx (iq vc.g)) ?_
   refine jT (bz rfl) (fun c2 hb2=>?_)
   cases c2
   ·refine ar (tX Al rfl rfl rfl) ?_
    refine ar (cg (us:=aj c.q) bv rfl (qt _) rfl rfl) ?_
    refine ac rfl (yr hx (o7 vc.g)) ?_
    refine aI rfl (fun hc3=>?_) (fun hc3=>?_)
    ·have g2:jE c ((bU (bp dPt (bT c) L) L.length).getD n dPt)=false:=(Fl hb2).trans (by rw[hc3];rfl)
     refine a7<|ag<|ar (cb (by omega) rfl) ?_
     exact⟨.inl ⟨n+1,g1,by rw[rO g1 g2];exact h3⟩,ao ⟨rfl,rfl,rfl,rfl,rfl,rfl,trivial⟩ ⟨congrArg (fun q=>some (49,aD (c.ends q c.q))) (EJ g1 g2).symm,trivial⟩ rfl,by show(bU (bp dPt (bT c) L) L.length).length-(n+1)<(bU (bp dPt (bT c) L) L.length).length-n;omega⟩
    ·have g2:jE c ((bU (bp dPt (bT c) L) L.length).getD n dPt)=true:=(Fl hb2).trans (by rw[hc3];rfl)
     refine aA<|aa<|ag ?_
     refine ar (j9 (ai _) bW rfl) ?_
     refine re (de bW rfl rfl rfl (ai _) rfl rfl) ?_
     refine aa<|dJ 6 [10,7,999999] ?_
     refine DQ.mk<|jb (bd (us:=aD (((c.ends (wT c (bU (bp dPt (bT c) L) L.length) n) c.q)).ends ((c.ends (wT c (bU (bp dPt (bT c) L) L.length) n) c.q)).p ((((bU (bp dPt (bT c) L) L.length).getD n dPt))))) bv rfl rfl rfl rfl (by rw[ai];decide) (wu _ _) rfl) rfl rfl rfl rfl<|d7 ?_
     refine DQ.mk<|jb (bd (us:=aD (((c.ends (wT c (bU (bp dPt (bT c) L) L.length) n) c.q)).setp ((((bU (bp dPt (bT c) L) L.length).getD n dPt))))) bv rfl rfl rfl rfl (by rw[ai];decide) (wl _ _) rfl) rfl rfl rfl rfl<|d7 ?_
     refine ag ?_
     refine ar (j9 (ai _) bW rfl) ?_
     refine ar (bX (n:=1) (us:=aD (((c.ends (wT c (bU (bp dPt (bT c) L) L.length) n) c.q)).ends ((c.ends (wT c (bU (bp dPt (bT c) L) L.length) n) c.q)).p ((((bU (bp dPt (bT c) L) L.length).getD n dPt))))) lT rfl (uV rfl (ai _)) (d8 (ai _)) (by decide) (by decide) rfl) ?_
     refine DL.mk<|lW (ys:=aD (((c.ends (wT c (bU (bp dPt (bT c) L) L.length) n) c.q)).ends ((c.ends (wT c (bU (bp dPt (bT c) L) L.length) n) c.q)).p ((((bU (bp dPt (bT c) L) L.length).getD n dPt))))) lT rfl rfl (d8 (ai _)) (by decide) (by decide) (by decide) rfl rfl (fun cg4 rg4 hga4 hgb4 hgc4=>dX ?_)
     refine ag<|ar (cb (by omega) rfl) ?_
     exact⟨.inr ⟨⟨n+1,cg4,rg4⟩,g1,by show(zj c (bU (bp dPt (bT c) L) L.length) (n+1)).length≤cg4;rw[rj g1 g2,h3];exact hga4,hgb4,by show rg4.length=(cg4-(zj c (bU (bp dPt (bT c) L) L.length) (n+1)).length)*66;rw[rj g1 g2,h3];exact hgc4⟩,ao ⟨rfl,rfl,rfl,congrArg (fun q=>some (DV.o 41 q cg4)) (by rw[rj g1 g2,h3];rfl),rfl,rfl,trivial⟩ ⟨congrArg (fun q=>some (49,aD q)) (by rw[D2,J3 g1 g2]),congrArg (fun q=>some (49,q++rg4)) (by rw[Lm g1 g2,dB,dV,DC,show(F7 c (bU (bp dPt (bT c) L) L.length) n)=[] from by unfold F7;rw[h3];rfl];rfl),trivial⟩ rfl,by show(bU (bp dPt (bT c) L) L.length).length-(n+1)<(bU (bp dPt (bT c) L) L.length).length-n;omega⟩
   ·have g2:jE c ((bU (bp dPt (bT c) L) L.length).getD n dPt)=false:=N4 hb2
    refine df rfl<|a7<|ag<|ar (cb (by omega) rfl) ?_
    exact⟨.inl ⟨n+1,g1,by rw[rO g1 g2];exact h3⟩,ao ⟨rfl,rfl,rfl,rfl,rfl,rfl,trivial⟩ ⟨congrArg (fun q=>some (49,aD (c.ends q c.q))) (EJ g1 g2).symm,trivial⟩ rfl,by show(bU (bp dPt (bT c) L) L.length).length-(n+1)<(bU (bp dPt (bT c) L) L.length).length-n;omega⟩
  ·have hp:n=(bU (bp dPt (bT c) L) L.length).length:=by have:=of_decide_eq_false hc1;omega
   have hO:(F7 c (bU (bp dPt (bT c) L) L.length) n)=[]:=by unfold F7;rw[h3];rfl
   have eC:(t6 c (mi c L))=[c.ends (wT c (bU (bp dPt (bT c) L) L.length) n) c.q]:=by show t6 c ((bU (bp dPt (bT c) L) L.length).filter (jE c))=_;rw[F4,←hp,hO];rfl
   have eN:(t6 c (mi c L)).length=1:=by rw[eC];rfl
   refine a7<|aa<|ag ?_
   refine ar (j9 (ai _) bW rfl) ?_
   refine ar (bX (n:=1) (us:=aD ((c.ends (wT c (bU (bp dPt (bT c) L) L.length) n) c.q))) lT rfl (uV rfl (ai _)) (d8 (ai _)) (by decide) (by decide) rfl) ?_
   refine DL.mk<|lW (ys:=aD ((c.ends (wT c (bU (bp dPt (bT c) L) L.length) n) c.q))) lT rfl rfl (d8 (ai _)) (by decide) (by decide) (by decide) rfl rfl (fun cg5 rg5 hga5 hgb5 hgc5=>dX ?_)
   refine aZ ?_
   exact⟨.inr rfl,4,46,cg5,[.tmp 5],rg5,rfl,congrArg (fun q=>some (DV.o 46 q cg5)) (eN.symm),congrArg (fun q=>some (49,q++rg5)) (by rw[eC,dV]),by omega,by assumption,by rw[eN];assumption,(az ae)⟩
 ·dsimp only at h2 h3 h4 h5
  have h6:(zj c (bU (bp dPt (bT c) L) L.length) n).length≤12:=iK (sB _ _) (by rw[dE];omega)
  dsimp only
  refine aa<|ag<|aa ?_
  refine aI rfl (fun hc6=>?_) (fun hc6=>?_)
  ·have g1:n<(bU (bp dPt (bT c) L) L.length).length:=by have:=of_decide_eq_true hc6;omega
   have hx:=hD _ (bj (d:=dPt) g1)
   refine aA<|aa<|aB<|aa<|ag<|ar (eM dPt ak g1 cA rfl)<|ar (ip ak bv rfl)<|aa<|aa<|ag ?_
   refine ar (tX I5 rfl rfl rfl) ?_
   refine ar (cg (us:=aj c.p) bv rfl (lr _) rfl rfl) ?_
   refine ac rfl (yr hx (iq vc.g)) ?_
   refine jT (bz rfl) (fun c7 hb7=>?_)
   cases c7
   ·refine ar (tX Al rfl rfl rfl) ?_
    refine ar (cg (us:=aj c.q) bv rfl (qt _) rfl rfl) ?_
    refine ac rfl (yr hx (o7 vc.g)) ?_
    refine aI rfl (fun hc8=>?_) (fun hc8=>?_)
    ·have g2:jE c ((bU (bp dPt (bT c) L) L.length).getD n dPt)=false:=(Fl hb7).trans (by rw[hc8];rfl)
     refine a7<|ag<|ar (cb (by omega) rfl) ?_
     exact⟨.inr ⟨⟨n+1,c9,rs⟩,g1,by show(zj c (bU (bp dPt (bT c) L) L.length) (n+1)).length≤c9;rw[rO g1 g2];exact h3,h4,by show rs.length=(c9-(zj c (bU (bp dPt (bT c) L) L.length) (n+1)).length)*66;rw[rO g1 g2];exact h5⟩,ao ⟨rfl,rfl,rfl,congrArg (fun q=>some (DV.o 41 (List.length q) c9)) (rO g1 g2).symm,rfl,rfl,trivial⟩ ⟨congrArg (fun q=>some (49,aD (c.ends q c.q))) (EJ g1 g2).symm,congrArg (fun q=>some (49,aw aD q++rs)) (O4 g1 g2).symm,trivial⟩ rfl,by show(bU (bp dPt (bT c) L) L.length).length-(n+1)<(bU (bp dPt (bT c) L) L.length).length-n;omega⟩
    ·have g2:jE c ((bU (bp dPt (bT c) L) L.length).getD n dPt)=true:=(Fl hb7).trans (by rw[hc8];rfl)
     refine aA<|aa<|ag ?_
     refine ar (j9 (ai _) bW rfl) ?_
     refine re (de bW rfl rfl rfl (ai _) rfl rfl) ?_
     refine aa<|dJ 6 [10,7,999999] ?_
     refine DQ.mk<|jb (bd (us:=aD (((c.ends (wT c (bU (bp dPt (bT c) L) L.length) n) c.q)).ends ((c.ends (wT c (bU (bp dPt (bT c) L) L.length) n) c.q)).p ((((bU (bp dPt (bT c) L) L.length).getD n dPt))))) bv rfl rfl rfl rfl (by rw[ai];decide) (wu _ _) rfl) rfl rfl rfl rfl<|d7 ?_
     refine DQ.mk<|jb (bd (us:=aD (((c.ends (wT c (bU (bp dPt (bT c) L) L.length) n) c.q)).setp ((((bU (bp dPt (bT c) L) L.length).getD n dPt))))) bv rfl rfl rfl rfl (by rw[ai];decide) (wl _ _) rfl) rfl rfl rfl rfl<|d7 ?_
     refine ag ?_
     refine ar (j9 (ai _) bW rfl) ?_
     refine ar (bX (n:=1) (us:=aD (((c.ends (wT c (bU (bp dPt (bT c) L) L.length) n) c.q)).ends ((c.ends (wT c (bU (bp dPt (bT c) L) L.length) n) c.q)).p ((((bU (bp dPt (bT c) L) L.length).getD n dPt))))) lT rfl (uV rfl (ai _)) (d8 (ai _)) (by decide) (by decide) rfl) ?_
     refine DL.mk<|l6 (us:=aw aD (F7 c (bU (bp dPt (bT c) L) L.length) n)) (rest:=rs) (ys:=aD (((c.ends (wT c (bU (bp dPt (bT c) L) L.length) n) c.q)).ends ((c.ends (wT c (bU (bp dPt (bT c) L) L.length) n) c.q)).p ((((bU (bp dPt (bT c) L) L.length).getD n dPt))))) lT rfl rfl rfl ((am ai _).trans (by rw[FL])) (by assumption) (d8 (ai _)) (by decide) (by omega) (by assumption) (by omega) (iM (by omega)) (.inl rfl) rfl (fun cg9 rg9 hga9 hgb9 hgc9=>dX ?_)
     refine ag<|ar (cb (by omega) rfl) ?_
     exact⟨.inr ⟨⟨n+1,cg9,rg9⟩,g1,by show(zj c (bU (bp dPt (bT c) L) L.length) (n+1)).length≤cg9;rw[rj g1 g2,dm];exact hga9,hgb9,by show rg9.length=(cg9-(zj c (bU (bp dPt (bT c) L) L.length) (n+1)).length)*66;rw[rj g1 g2,dm];exact hgc9⟩,ao ⟨rfl,rfl,rfl,congrArg (fun q=>some (DV.o 41 q cg9)) (by rw[rj g1 g2,dm];rfl),rfl,rfl,trivial⟩ ⟨congrArg (fun q=>some (49,aD q)) (by rw[D2,J3 g1 g2]),congrArg (fun q=>some (49,q++rg9)) (by rw[Lm g1 g2,dB,dV,DC]),trivial⟩ rfl,by show(bU (bp dPt (bT c) L) L.length).length-(n+1)<(bU (bp dPt (bT c) L) L.length).length-n;omega⟩
   ·have g2:jE c ((bU (bp dPt (bT c) L) L.length).getD n dPt)=false:=N4 hb7
    refine df rfl<|a7<|ag<|ar (cb (by omega) rfl) ?_
    exact⟨.inr ⟨⟨n+1,c9,rs⟩,g1,by show(zj c (bU (bp dPt (bT c) L) L.length) (n+1)).length≤c9;rw[rO g1 g2];exact h3,h4,by show rs.length=(c9-(zj c (bU (bp dPt (bT c) L) L.length) (n+1)).length)*66;rw[rO g1 g2];exact h5⟩,ao ⟨rfl,rfl,rfl,congrArg (fun q=>some (DV.o 41 (List.length q) c9)) (rO g1 g2).symm,rfl,rfl,trivial⟩ ⟨congrArg (fun q=>some (49,aD (c.ends q c.q))) (EJ g1 g2).symm,congrArg (fun q=>some (49,aw aD q++rs)) (O4 g1 g2).symm,trivial⟩ rfl,by show(bU (bp dPt (bT c) L) L.length).length-(n+1)<(bU (bp dPt (bT c) L) L.length).length-n;omega⟩
  ·have hp:n=(bU (bp dPt (bT c) L) L.length).length:=by have:=of_decide_eq_false hc6;omega
   have eN:(t6 c (mi c L)).length=(zj c (bU (bp dPt (bT c) L) L.length) n).length+1:=by show(t6 c ((bU (bp dPt (bT c) L) L.length).filter (jE c))).length=_;rw[F4,←hp,dm,FL];rfl
   have eC:aw aD (F7 c (bU (bp dPt (bT c) L) L.length) n)++aD (c.ends (wT c (bU (bp dPt (bT c) L) L.length) n) c.q)=aw aD (t6 c (mi c L)):=by show _=aw aD (t6 c ((bU (bp dPt (bT c) L) L.length).filter (jE c)));rw[F4,←hp,dB,dV]
   refine a7<|aa<|ag ?_
   refine ar (j9 (ai _) bW rfl) ?_
   refine ar (bX (n:=1) (us:=aD ((c.ends (wT c (bU (bp dPt (bT c) L) L.length) n) c.q))) lT rfl (uV rfl (ai _)) (d8 (ai _)) (by decide) (by decide) rfl) ?_
   refine DL.mk<|l6 (us:=aw aD (F7 c (bU (bp dPt (bT c) L) L.length) n)) (rest:=rs) (ys:=aD ((c.ends (wT c (bU (bp dPt (bT c) L) L.length) n) c.q))) lT rfl rfl rfl ((am ai _).trans (by rw[FL])) (by assumption) (d8 (ai _)) (by decide) (by omega) (by assumption) (by omega) (iM (by omega)) (.inr rfl) rfl (fun cg10 rg10 hga10 hgb10 hgc10=>dX ?_)
   refine aZ ?_
   exact⟨.inr rfl,4,46,cg10,[.tmp 5],rg10,rfl,congrArg (fun q=>some (DV.o 46 q cg10)) (eN.symm),congrArg (fun q=>some (49,q++rg10)) (eC),by omega,by assumption,by rw[eN];assumption,(az ae)⟩
theorem YW:Ok Tryz.prog 214 [] [.a (([.b false]++(cR 0++cR 0++cR 0)++(cR 0++cR 0++cR 0)++[.b false]++Y0++Y0))]:=by
 refine eH Tryz.func214 12 [.cell 0 49] rfl<|aa<|ag<|aa<|ag<|ac rfl ((show Ok Tryz.prog 70 [.c (.i .i64 0)] [dR 0] from iY (by decide) (by decide)))<|aa<|bg<|bK 3<|aR (aM (us:=(cR 0++cR 0++cR 0)) WF R5 rfl rfl rfl) ?_
 refine bK 3<|aR (aM (us:=(cR 0++cR 0++cR 0)) XP Ud rfl rfl rfl) ?_
 refine aR (aM (us:=([.b false]++(cR 0++cR 0++cR 0)++(cR 0++cR 0++cR 0)++[.b false]++Y0++Y0)) Un EV rfl rfl rfl) ?_
 refine ex<|aZ ?_
 exact ah (kV (us:=([.b false]++(cR 0++cR 0++cR 0)++(cR 0++cR 0++cR 0)++[.b false]++Y0++Y0)) bW rfl rfl (by kernel_rfl) (by kernel_rfl) ae)
theorem TI (hk:GK k) (h0:0<k.q):Ok Tryz.prog 122 [.a (aX k)] [.c (.s 2 (aw (Rr (cR 0++cR 0++cR 0)) (ap k)))]:=by
 refine eH Tryz.func122 26 [.tmp 2] rfl<|aa<|ag<|aa<|ag ?_
 refine ac rfl (U9 hk h0) ?_
 refine aa<|ln 7 rfl rfl<|bD (cj rfl (YW))<|bD (IV (off:=1) (n:=12) (us:=(cR 0++cR 0++cR 0)) (by kernel_rfl) rfl rfl rfl) ?_
 refine dt 3<|bD (aM (us:=([.b true]++(cR 0++cR 0++cR 0)++aX k++[.b false]++aj (jS k)++aj (jI k))) Un EV rfl rfl rfl) ?_
 refine zX (jG EV rfl) rfl<|jY<|sE<|ex<|aa<|ag ?_
 refine ar (gT bW rfl) ?_
 refine re (fg bW rfl)<|aa<|dJ 4 [6,999999] ?_
 refine DQ.mk<|jb (bd (us:=([.b true]++(cR 0++cR 0++cR 0)++aX k++[.b false]++aj (jI k)++aj (jI k))) bv rfl rfl rfl rfl (fP (by kernel_rfl)) (by kernel_rfl) rfl) rfl rfl rfl rfl<|d7 ?_
 refine re (bd (us:=([.b true]++(cR 0++cR 0++cR 0)++aX k++[.b false]++aj (jI k)++aj (jS k))) bv rfl rfl rfl rfl (fP (by kernel_rfl)) (by kernel_rfl) rfl) ?_
 refine aa<|ag ?_
 refine ar (gT bW rfl) ?_
 refine ar (gT bW rfl) ?_
 refine ar (bX (n:=2) (us:=([.b true]++(cR 0++cR 0++cR 0)++aX k++[.b false]++aj (jS k)++aj (jI k))++([.b true]++(cR 0++cR 0++cR 0)++aX k++[.b false]++aj (jI k)++aj (jS k))) lT rfl (by kernel_rfl) (by kernel_rfl) (by decide) (by decide) rfl) ?_
 refine aZ ?_
 exact ah (az ae)
theorem X5 (hk:GK k) (h0:0<k.q):Ok Tryz.prog 122 [.a (aX k)] [.c (.s ((ap k).length) (aw aD (ap k)))]:=(TI hk h0).wks ((wkA rfl _ _ _ _).app ((wkA rfl _ _ _ _).app .nil))
theorem Wt (vc:CvV c):Ok Tryz.prog 224 [.a (aD c)] [.a (aD c.rev)]:=by
 cases c with
 |seg l f t=>exact Xx vc.g.1 vc.g.2.1 vc.g.2.2
 |arc k w f t=>exact Nt vc.g.1 vc.g.2.1 vc.g.2.2
theorem WQ:OkS Tryz.prog 243 49 1 c9 (aw aD [e]++rs) (aw aD [e]++rs) [.c (.i .i64 0),.c (.i .i64 1),.c (.f 226)]:=by
 refine OkS.of (K:=100000) (by kernel_rfl) Tryz.func243 rfl rfl rfl rfl ?_
 rw[show Tryz.f243.ntmps=53 from rfl]
 refine aa<|ag<|ar (iU (r:=1) rfl rfl rfl rfl) ?_
 refine aB ?_
 refine bh (ι:=Nat) (fun i=>match i with|_=>⟨53,[(0,.o 100000 1 c9),(1,.v (.c (.i .i64 0))),(2,.v (.c (.i .i64 1))),(3,.v (.c (.f 226))),(8,.v (.c (.i .i64 1)))],[(100000,49,aw aD [e]++rs)]⟩) (fun i=>0-i) 0 (ao ⟨rfl,rfl,rfl,rfl,rfl,trivial⟩ ⟨rfl,trivial⟩ rfl) ?_
 intro i
 match i with
 |_=>
  show Dw _ _ ⟨53,[(0,.o 100000 1 c9),(1,.v (.c (.i .i64 0))),(2,.v (.c (.i .i64 1))),(3,.v (.c (.f 226))),(8,.v (.c (.i .i64 1)))],[(100000,49,aw aD [e]++rs)]⟩ _
  refine aa<|aa<|ag<|a8 rfl<|a7 ?_
  exact⟨.inl rfl,rfl⟩
theorem W5:OkS Tryz.prog 311 49 1 c9 (aw aD [e]++rs) (aw aD [e]++rs) [.c (.i .i64 1),.c (.f 226)]:=by
 refine OkS.of (K:=100000) (by kernel_rfl) Tryz.func311 rfl rfl rfl rfl ?_
 rw[show Tryz.f311.ntmps=63 from rfl]
 refine aa<|ag<|aa<|ag<|aa<|aB ?_
 refine bh (ι:=Nat) (fun i=>match i with|_=>⟨63,[(0,.o 100000 1 c9),(1,.v (.c (.i .i64 1))),(2,.v (.c (.f 226))),(6,.v (.c (.i .i64 20))),(7,.v (.c (.i .i64 0))),(8,.v (.c (.i .i64 20)))],[(100000,49,aw aD [e]++rs)]⟩) (fun i=>0-i) 0 (ao ⟨rfl,rfl,rfl,rfl,rfl,rfl,trivial⟩ ⟨rfl,trivial⟩ rfl) ?_
 intro i
 match i with
 |_=>
  show Dw _ _ ⟨63,[(0,.o 100000 1 c9),(1,.v (.c (.i .i64 1))),(2,.v (.c (.f 226))),(6,.v (.c (.i .i64 20))),(7,.v (.c (.i .i64 0))),(8,.v (.c (.i .i64 20)))],[(100000,49,aw aD [e]++rs)]⟩ _
  refine aa<|aa<|ag<|a8 rfl<|a7<|aa<|ag ?_
  refine DL.mk<|sN (kY rfl rfl rfl rfl rfl (WQ) rfl)<|dX ?_
  refine aB ?_
  refine bh (ι:=Nat) (fun i=>match i with|_=>⟨63,[(0,.o 100000 1 c9),(1,.v (.c (.i .i64 1))),(2,.v (.c (.f 226))),(6,.v (.c (.i .i64 20))),(7,.v (.c (.i .i64 0))),(8,.v (.c (.i .i64 20)))],[(100000,49,aw aD [e]++rs)]⟩) (fun i=>0-i) 0 (ao ⟨rfl,rfl,rfl,rfl,rfl,rfl,trivial⟩ ⟨rfl,trivial⟩ rfl) ?_
  intro i
  match i with
  |_=>
   show Dw _ _ ⟨63,[(0,.o 100000 1 c9),(1,.v (.c (.i .i64 1))),(2,.v (.c (.f 226))),(6,.v (.c (.i .i64 20))),(7,.v (.c (.i .i64 0))),(8,.v (.c (.i .i64 20)))],[(100000,49,aw aD [e]++rs)]⟩ _
   refine aa<|aa<|ag<|a8 rfl<|a7 ?_
   exact⟨.inl rfl,rfl⟩
theorem XM:OkS Tryz.prog 225 49 1 c9 (aw aD [e]++rs) (aw aD [e]++rs) [.c (.f 226)]:=by
 refine OkS.of (K:=100000) (by kernel_rfl) Tryz.func225 rfl rfl rfl rfl ?_
 rw[show Tryz.f225.ntmps=9 from rfl]
 refine ag<|ar (iv gF rfl rfl) ?_
 refine DL.mk<|sN (kY rfl rfl rfl rfl rfl (W5) rfl)<|dX ?_
 exact⟨.inl rfl,rfl⟩
theorem ZY (vc:CvV (.arc k false f t)) (ea:(Cv.arc k false f t).inner (jS k)=false) (eb:(Cv.arc k false f t).inner (jI k)=false):Ok Tryz.prog 125 [.a (([.b true]++np++aX k++[.b false]++aj f++aj t))] [.c (.s (([(Cv.arc k false f t).fwd]).length) (aw aD ([(Cv.arc k false f t).fwd])))]:=by
 have vR: ∀d∈([(Cv.arc k false f t)]:List Cv),CvV d:=fun d hd=>by rw[nE.1 hd];exact vc
 have lM:(([(Cv.arc k false f t)]:List Cv).map Cv.fwd).length=([(Cv.arc k false f t)]:List Cv).length:=rfl
 have hk:=vc.g.1
 have hf:=vc.g.2.1
 have ht:=vc.g.2.2
 have gL:=rN hk vc.pos
 have gR:=rS hk vc.pos
 have z2:(VW++VW).length=(2-0)*20:=rfl
 have hm2:2≤maxLen:=by decide
 refine eH Tryz.func125 57 [.tmp 2] rfl<|aa<|ag<|aa<|ag ?_
 refine ar (gT bW rfl) ?_
 refine DL.mk<|pi (oD (us:=([.b true]++np++aX k++[.b false]++aj f++aj t)) lT rfl rfl (by decide) (by decide) rfl) rfl<|dX ?_
 refine n8 (ι:={x9:Nat×List CellD //([(Cv.arc k false f t)]:List Cv).length≤x9.1∧x9.1≤maxLen∧x9.2.length=(x9.1-([(Cv.arc k false f t)]:List Cv).length)*66}) (fun i=>⟨57,[(3,.o 29 (([(Cv.arc k false f t)]:List Cv).length) i.1.1)],[(29,49,aw aD ([(Cv.arc k false f t)]:List Cv)++i.1.2)]⟩) ?_ ?_
 ·refine aa<|ag ?_
  refine ar (gI kP rfl) ?_
  refine df rfl<|aa<|ag ?_
  refine ar (dg (aX k) qV rfl (by kernel_rfl)) ?_
  refine ac rfl (U9 hk vc.pos) ?_
  refine aa<|kU (t:=1) (k:=1) rfl rfl<|bg<|bK 2 ?_
  refine pi (oD (us:=aj (jS k)++aj (jI k)) dr rfl rfl (by decide) (by decide) rfl) rfl ?_
  refine aR (qp (us:=[.p (([.b true]++np++aX k++[.b false]++aj f++aj t))]) rfl rfl) ?_
  refine GH rfl rfl rfl rfl rfl (aaK (c:=(Cv.arc k false f t)) vc rfl gL gR ea eb) rfl<|ex<|aa ?_
  refine cB (t:=6) (m:=20) (us:=([]:List CellD)) rfl rfl (jC (n:=0) (by first|exact am ai _|rfl) (by assumption) (by omega)) (by omega) (by assumption) (gh (by first|exact am ai _|rfl)) ?_
  refine bg<|aR (mM (us:=([.b true]++np++aX k++[.b false]++aj f++aj t)) bW rfl rfl rfl rfl) ?_
  refine bK 1 ?_
  refine yK rfl rfl ((show OkN _ _ [.a (aD (Cv.arc k false f t)),.c (.s 0 [])] _ _ _ _ _ from We (c:=(Cv.arc k false f t)) (L:=[]) vc rfl (fun p h=>by cases h) (eK _) (fun p h=>by cases h))) rfl rfl (fun cg1 rg1 hga1 hgb1 hgc1=>?_)
  refine bK 1<|aR (Cd rfl rfl) ?_
  refine aR (C5 rfl rfl rfl) ?_
  refine ex<|aa<|ag<|df rfl<|ag ?_
  exact⟨⟨⟨cg1,rg1⟩,hga1,hgb1,hgc1⟩,ao ⟨rfl,trivial⟩ ⟨rfl,trivial⟩ rfl⟩
 ·rintro⟨⟨c9,rs⟩,h1,h2,h3⟩
  dsimp only at h1 h2 h3
  dsimp only
  refine aa<|aa<|ag<|ar (iv gF rfl rfl) ?_
  refine aB<|bh (ι:={n:Nat // n≤([(Cv.arc k false f t)]:List Cv).length}) (fun i=>⟨57,[(3,.o 29 (([(Cv.arc k false f t)]:List Cv).length) c9),(35,.o 29 (([(Cv.arc k false f t)]:List Cv).length) c9),(36,.v (.c (.i .i64 ((([(Cv.arc k false f t)]:List Cv).length:Int))))),(37,.v (.c (.i .i64 (i.1:Int))))],[(29,49,aw aD (Iy ([(Cv.arc k false f t)]:List Cv) i.1)++rs)]⟩) (fun i=>([(Cv.arc k false f t)]:List Cv).length-i.1) ⟨0,eK _⟩ (ao ⟨rfl,rfl,rfl,rfl,trivial⟩ ⟨congrArg (fun q=>some (49,aw aD q++rs)) (aaT.symm),trivial⟩ rfl) ?_
  rintro⟨n,h4⟩
  replace h4:n≤([(Cv.arc k false f t)]:List Cv).length:=h4
  dsimp only
  refine aa<|ag<|aa ?_
  refine aI rfl (fun hc2=>?_) (fun hc2=>?_)
  ·have g1:n<([(Cv.arc k false f t)]:List Cv).length:=by have:=of_decide_eq_true hc2;omega
   have n1:n<1:=g1
   have hX:CvV (([(Cv.arc k false f t)]:List Cv).getD n aY):=vR _ (bj g1)
   refine aA<|aa<|aB<|aa<|bg<|bK 1<|aR (bq gF rfl rfl (by omega) rfl) ?_
   refine aR (bZ (us:=aD (([(Cv.arc k false f t)]:List Cv).getD n aY)) bW rfl rfl ((jM (e:=aY) (O:=(Iy ([(Cv.arc k false f t)]:List Cv) n)) ai (by rw[yR h4];exact g1)).trans (congrArg aD (OZ g1))) (ai _) rfl) ?_
   refine tO (jG EV rfl) rfl<|bK 1<|f8 (de bW rfl rfl rfl (ai _) rfl rfl) ?_
   refine ba<|aa<|ag ?_
   refine ar (bZ (us:=aj ((([(Cv.arc k false f t)]:List Cv).getD n aY)).p) bv rfl rfl (lr _) rfl rfl) ?_
   refine ar (bZ (us:=aj ((([(Cv.arc k false f t)]:List Cv).getD n aY)).q) bv rfl rfl (qt _) rfl rfl) ?_
   refine ac rfl (N5 (iq hX.g) (o7 hX.g)) ?_
   refine aI rfl (fun hc3=>?_) (fun hc3=>?_)
   ·have m2:=LA hc3
    refine bg<|bK 2<|aR (j9 (ai _) bW rfl)<|aR (cj rfl ((show Ok _ _ [.a (aD (([(Cv.arc k false f t)]:List Cv).getD n aY))] [.a (aD (([(Cv.arc k false f t)]:List Cv).getD n aY).rev)] from Wt hX)))<|aR (bq gF rfl rfl (by omega) rfl) ?_
    refine f8 (bd (us:=aw aD ((Iy ([(Cv.arc k false f t)]:List Cv) n).set n (([(Cv.arc k false f t)]:List Cv).getD n aY).rev)++rs) bW rfl rfl rfl (ai _) (by rw[dm,am ai,yR h4];omega) (v8 ai (by rw[yR h4];exact g1) _) rfl) ?_
    refine ba<|ag<|ar (cb (by omega) rfl) ?_
    exact⟨⟨n+1,g1⟩,ao ⟨rfl,rfl,rfl,rfl,trivial⟩ ⟨congrArg (fun q=>some (49,aw aD q++rs)) (by rw[←Lh g1,m2]),trivial⟩ rfl,by show([(Cv.arc k false f t)]:List Cv).length-(n+1)<([(Cv.arc k false f t)]:List Cv).length-n;omega⟩
   ·have m2:=K7 hc3
    refine aA<|ag<|ar (cb (by omega) rfl) ?_
    exact⟨⟨n+1,g1⟩,ao ⟨rfl,rfl,rfl,rfl,trivial⟩ ⟨congrArg (fun q=>some (49,aw aD q++rs)) (PR g1 m2),trivial⟩ rfl,by show([(Cv.arc k false f t)]:List Cv).length-(n+1)<([(Cv.arc k false f t)]:List Cv).length-n;omega⟩
  ·have hp:n=1:=by have:=of_decide_eq_false hc2;have h4:n≤1:=h4;have h5: ¬(n:Int)<((1:Nat):Int):=this;omega
   have h3m:rs.length=(c9-(([(Cv.arc k false f t)]:List Cv).map Cv.fwd).length)*66:=h3
   refine lj (σ':=⟨57,[(3,.o 29 ((([(Cv.arc k false f t)]:List Cv).map Cv.fwd).length) c9)],[(29,49,aw aD (([(Cv.arc k false f t)]:List Cv).map Cv.fwd)++rs)]⟩) (ao ⟨rfl,trivial⟩ ⟨congrArg (fun q=>some (49,aw aD q++rs)) (by rw[hp];exact TL (R:=([(Cv.arc k false f t)]:List Cv))),trivial⟩ rfl) ?_
   refine a7<|aa<|ag ?_
   refine DL.mk<|sN (kY rfl rfl rfl rfl rfl (XM (e:=(Cv.arc k false f t).fwd)) rfl)<|dX ?_
   refine aa<|ag ?_
   refine cB (t:=2) (m:=66) (us:=aw aD (([(Cv.arc k false f t)]:List Cv).map Cv.fwd)) rfl rfl (jC (n:=(([(Cv.arc k false f t)]:List Cv).map Cv.fwd).length) (by first|exact am ai _|rfl) (by assumption) (by omega)) (by omega) (by assumption) (gh (by first|exact am ai _|rfl)) ?_
   refine aZ ?_
   exact ah (az ae)
theorem aa6 {d:Cv}(hc:c.good) (hd:d.good):Ok Tryz.prog 14 [.a (aD c),.a (aD d)] [.c (.b (Mu c d))]:=by
 refine ca Tryz.func14 rfl ?_
 refine ar (j9 (ai _) bW rfl) ?_
 refine ar (j9 (ai _) bW rfl) ?_
 refine ac rfl (Ui hc hd) ?_
 refine jT (bz rfl) (fun c1 hb1=>?_)
 cases c1
 ·refine ar (bz rfl)<|ar (bz rfl)<|ah ?_
  rw[show Mu c d=false from by unfold Mu;rw[hb1];rfl]
  exact az ae
 ·refine ar (kW kP rfl rfl (LS _) rfl) ?_
  refine ar (kW kP rfl rfl (LS _) rfl) ?_
  refine ar (yh rfl rfl gO rfl) ?_
  refine jT (bz rfl) (fun c2 hb2=>?_)
  cases c2
  ·refine ar (bz rfl)<|ah ?_
   rw[show Mu c d=false from by unfold Mu;rw[hb1,hb2];rfl]
   exact az ae
  ·refine ar (bZ (us:=aj c.p) bv rfl rfl (lr _) rfl rfl) ?_
   refine ar (bZ (us:=aj d.p) bv rfl rfl (lr _) rfl rfl) ?_
   refine ac rfl (BO (iq hc) (iq hd)) ?_
   refine jT (bz rfl) (fun c3 hb3=>?_)
   cases c3
   ·refine ah ?_
    rw[show Mu c d=false from by unfold Mu;rw[hb1,hb2,hb3];rfl]
    exact az ae
   ·refine ar (bZ (us:=aj c.q) bv rfl rfl (qt _) rfl rfl) ?_
    refine ar (bZ (us:=aj d.q) bv rfl rfl (qt _) rfl rfl) ?_
    refine ac rfl (BO (o7 hc) (o7 hd))<|ah ?_
    rw[show Mu c d=(cP c.q d.q==0) from by unfold Mu;rw[hb1,hb2,hb3];rfl]
    exact az ae
theorem abM (hp:GP p) (hx:Rz 148000 x):Ok Tryz.prog 139 [.a ((cR p.a1++cR p.b1++cR (zc p.b1 p.c))),.a ((cR x++cR 0++cR 0))] [.c (.i .i64 (mS p x))]:=
 bY (mw (hp.a1.mono (by decide)) (hp.b1.mono (by decide)) (il (hp.c.mono (by decide)) (by decide)) (hx.mono (by decide)) (dH (by decide)) (dH (by decide)) ((hp.a1.sub hx).mono (by decide)) (li (co hp)) tD) (Bu (li (co hp)))
theorem acw (hp:GP p) (hx:Rz 148000 x):Ok Tryz.prog 139 [.a ((cR x++cR 0++cR 0)),.a ((cR p.a1++cR p.b1++cR (zc p.b1 p.c)))] [.c (.i .i64 (-mS p x))]:=
 bY (mw (hx.mono (by decide)) (dH (by decide)) (dH (by decide)) (hp.a1.mono (by decide)) (hp.b1.mono (by decide)) (il (hp.c.mono (by decide)) (by decide)) ((hx.sub hp.a1).mono (by decide)) tD (li (co hp))) (by
  rw[nM tD (li (co hp)),od (co hp),←cm]
  exact congrArg aS (bt fun n=>by unfold pX wY aC;simp only[aU,aG,aT,bi,bE];grind))
theorem yy (hc:c.good) (hx:Rz 148000 x):Ok Tryz.prog 232 [.a (aD c),.a ((cR x++cR 0++cR 0))] [.c (.b (lg c x))]:=by
 refine ca Tryz.func232 rfl<|cT 15 [] ?_
 refine aq (bZ (us:=aj c.p) bv rfl rfl (lr _) rfl rfl) ?_
 refine aK rfl (p6) ?_
 refine aK rfl (abM (iq hc) hx) ?_
 refine AF (bz rfl) (fun c1 hb1=>?_)
 cases c1
 ·refine ah ?_
  rw[show lg c x=false from by unfold lg;rw[hb1];rfl]
  exact az ae
 ·refine aq (bZ (us:=aj c.q) bv rfl rfl (qt _) rfl rfl) ?_
  refine aK rfl (p6)<|aK rfl (acw (o7 hc) hx)<|ah ?_
  rw[show lg c x=decide (-mS c.q x≤0) from by unfold lg;rw[hb1];rfl]
  exact az ae
theorem rd (hk:GK k) (hx:Rz 148000 x):Rz 300000 (mv k x):=(hk.q.sub ((hx.sub hk.x).mul (hx.sub hk.x))).mono (by decide)
theorem XU (vc:CvV (Cv.seg l f t)) (hx:Rz 148000 x) (hb:xJ (Cv.seg l f t) x=false):Ok Tryz.prog 128 [.a (([.b false]++gK l++qR++[.b false]++aj f++aj t)),dR x] [.a (qR),.c (.i .i64 1)]:=by
 have hf:=vc.g.2.1
 have ht:=vc.g.2.2
 have hl:=vc.g.1
 have hB:=hb
 rw[lZ] at hB
 refine ca Tryz.func128 rfl<|cT 9 [] ?_
 refine aq (gT bW rfl) ?_
 refine aK rfl (Lg hl hf ht) ?_
 refine AF (bz rfl) (fun c1 hb1=>?_)
 cases c1
 ·refine aq (gT bW rfl) ?_
  refine aK rfl (gJ) ?_
  refine aK rfl (yy (c:=(Cv.seg l f t)) vc.g (hx.m_)) ?_
  refine dD rfl (fun hc2=>?_) (fun hc2=>?_)
  ·refine ar (aM (us:=qR) m9 lh rfl rfl rfl) ?_
   exact ah (aV dh rfl (az ae))
  ·exact absurd hB (by rw[show(Cv.seg l f t).vert=false from hb1,show lg (Cv.seg l f t) x=true from by simpa using hc2];decide)
 ·refine tg rfl<|ar (aM (us:=qR) m9 lh rfl rfl rfl) ?_
  exact ah (aV dh rfl (az ae))
theorem Yo (vc:CvV (Cv.seg l f t)) (hx:Rz 148000 x) (hb:xJ (Cv.seg l f t) x=true):Ok Tryz.prog 128 [.a (([.b false]++gK l++qR++[.b false]++aj f++aj t)),dR x] [.a ((cR ((l.c-l.a*x)/l.b)++cR 0++cR 0)),.c (.i .i64 0)]:=by
 have hf:=vc.g.2.1
 have ht:=vc.g.2.2
 have hl:=vc.g.1
 have hB:=hb
 rw[lZ] at hB
 refine ca Tryz.func128 rfl<|cT 9 [] ?_
 refine aq (gT bW rfl) ?_
 refine aK rfl (Lg hl hf ht) ?_
 refine AF (bz rfl) (fun c1 hb1=>?_)
 cases c1
 ·refine aq (gT bW rfl) ?_
  refine aK rfl (gJ) ?_
  refine aK rfl (yy (c:=(Cv.seg l f t)) vc.g (hx.m_)) ?_
  refine dD rfl (fun hc2=>?_) (fun hc2=>?_)
  ·exact absurd hB (by rw[show lg (Cv.seg l f t) x=false from by simpa using hc2,oK];decide)
  ·have hv:cx f t≠0:=fun e=>absurd (show(Cv.seg l f t).vert=false from hb1) (by show ¬(cx f t==0)=false;rw[e];decide)
   have hb0:l.b≠0:=fun e=>hv ((JQ hl hf ht (by have:=vc.sp;simpa [Cv.supp,Cv.p] using this) (by have:=vc.sq;simpa [Cv.supp,Cv.q] using this) vc.ne).2 e)
   refine ar (gI kP rfl)<|tg rfl<|cT 19 [6,999999] ?_
   refine aq (dg (cR l.c) bF rfl (by kernel_rfl)) ?_
   refine aq (dg (cR l.a) bF rfl (by kernel_rfl)) ?_
   refine aK rfl (cW (aQ (hl.a)) (aQ hx)) ?_
   refine aK rfl (fp (aQ (hl.c)) (aQ (aO (hl.a) hx))) ?_
   refine aq (dg (cR l.b) bF rfl (by kernel_rfl)) ?_
   refine aK rfl (qy ((hl.c.sub (hl.a.mul hx)).m_) (hl.b.m_) hb0) ?_
   refine DQ.mk<|iQ (fg bF rfl) rfl rfl rfl rfl<|d7 ?_
   refine ac rfl (gJ) ?_
   exact ah (aV dh rfl (az ae))
 ·exact absurd hB (by rw[show(Cv.seg l f t).vert=true from hb1];exact Bool.false_ne_true)
theorem XL (vc:CvV (Cv.arc k w f t)) (hx:Rz 148000 x) (hb:xJ (Cv.arc k w f t) x=false):Ok Tryz.prog 128 [.a (([.b true]++np++aX k++[.b w]++aj f++aj t)),dR x] [.a (qR),.c (.i .i64 1)]:=by
 have hf:=vc.g.2.1
 have ht:=vc.g.2.2
 have hk:=vc.g.1
 have hB:=hb
 rw[lZ] at hB
 refine ca Tryz.func128 rfl<|cT 9 [] ?_
 refine aq (gT bW rfl) ?_
 refine aK rfl ((show Ok _ _ _ [.c (.b false)] from Ff hk hf ht)) ?_
 refine aq (bz rfl) ?_
 refine aq (gT bW rfl) ?_
 refine aK rfl (gJ) ?_
 refine aK rfl (yy (c:=(Cv.arc k w f t)) vc.g (hx.m_)) ?_
 refine dD rfl (fun hc1=>?_) (fun hc1=>?_)
 ·refine ar (aM (us:=qR) m9 lh rfl rfl rfl) ?_
  exact ah (aV dh rfl (az ae))
 ·exact absurd hB (by rw[show(Cv.arc k w f t).vert=false from rfl,show lg (Cv.arc k w f t) x=true from by simpa using hc1];decide)
theorem T4 (vc:CvV (Cv.arc k w f t)) (hx:Rz 148000 x) (hb:xJ (Cv.arc k w f t) x=true) (hs:jd (mv k x)=true):Ok Tryz.prog 128 [.a (([.b true]++np++aX k++[.b w]++aj f++aj t)),dR x] [.a ((cR (k.y+sW w*rt (mv k x))++cR 0++cR 0)),.c (.i .i64 0)]:=by
 have hf:=vc.g.2.1
 have ht:=vc.g.2.2
 have hk:=vc.g.1
 have hB:=hb
 rw[lZ] at hB
 have ofk:OnK k f:=⟨hf,b7.1 vc.sp⟩
 have otk:OnK k t:=⟨ht,b7.1 vc.sq⟩
 have hm0: ¬mv k x<0:=by
  have hb2:=hb
  unfold xJ at hb2
  rw[dN,dN] at hb2
  have:=CM ofk otk (of_decide_eq_true hb2.2.1) (of_decide_eq_true hb2.2.2)
  grind
 refine ca Tryz.func128 rfl<|cT 9 [] ?_
 refine aq (gT bW rfl) ?_
 refine aK rfl ((show Ok _ _ _ [.c (.b false)] from Ff hk hf ht)) ?_
 refine aq (bz rfl) ?_
 refine aq (gT bW rfl) ?_
 refine aK rfl (gJ) ?_
 refine aK rfl (yy (c:=(Cv.arc k w f t)) vc.g (hx.m_)) ?_
 refine dD rfl (fun hc1=>?_) (fun hc1=>?_)
 ·exact absurd hB (by rw[show lg (Cv.arc k w f t) x=false from by simpa using hc1,oK];decide)
 ·refine ar (gI kP rfl)<|qQ rfl<|ar (dg (cR k.x) bF rfl (by kernel_rfl))<|ac rfl (fp (aQ hx) (aQ (hk.x)))<|ar (gI kP rfl) ?_
  refine dD rfl (fun hc2=>?_) (fun hc2=>?_)
  ·have e9:((1:Int):Rat)=sW w:=Td hc2
   refine cT 15 [] ?_
   refine aq (dg (cR k.y) bF rfl (by kernel_rfl)) ?_
   refine aK rfl (gM (iY (by decide) (by decide)) e9) ?_
   refine aq (dg (cR k.q) bF rfl (by kernel_rfl)) ?_
   refine aK rfl (cW (aQ (dd hx (hk.x))) (aQ (dd hx (hk.x)))) ?_
   refine aK rfl (fp (aQ (hk.q)) (aQ (aO (dd hx (hk.x)) (dd hx (hk.x))))) ?_
   refine aK rfl (ws (c:=mv k x) (hk.y.m_) ((xa w).m_) ((rd hk hx).m_) hm0 hs) ?_
   exact ah (aV dh rfl (az ae))
  ·have e9:((-1:Int):Rat)=sW w:=R8 hc2
   refine cT 15 [] ?_
   refine aq (dg (cR k.y) bF rfl (by kernel_rfl)) ?_
   refine aK rfl (gM (iY (by decide) (by decide)) e9) ?_
   refine aq (dg (cR k.q) bF rfl (by kernel_rfl)) ?_
   refine aK rfl (cW (aQ (dd hx (hk.x))) (aQ (dd hx (hk.x)))) ?_
   refine aK rfl (fp (aQ (hk.q)) (aQ (aO (dd hx (hk.x)) (dd hx (hk.x))))) ?_
   refine aK rfl (ws (c:=mv k x) (hk.y.m_) ((xa w).m_) ((rd hk hx).m_) hm0 hs) ?_
   exact ah (aV dh rfl (az ae))
theorem TT (vc:CvV (Cv.arc k w f t)) (hx:Rz 148000 x) (hb:xJ (Cv.arc k w f t) x=true) (hs:jd (mv k x)=false):Ok Tryz.prog 128 [.a (([.b true]++np++aX k++[.b w]++aj f++aj t)),dR x] [.a ((cR k.y++cR (sW w)++cR (zc (sW w) (mv k x)))),.c (.i .i64 0)]:=by
 have hf:=vc.g.2.1
 have ht:=vc.g.2.2
 have hk:=vc.g.1
 have hB:=hb
 rw[lZ] at hB
 have ofk:OnK k f:=⟨hf,b7.1 vc.sp⟩
 have otk:OnK k t:=⟨ht,b7.1 vc.sq⟩
 have hm0: ¬mv k x<0:=by
  have hb2:=hb
  unfold xJ at hb2
  rw[dN,dN] at hb2
  have:=CM ofk otk (of_decide_eq_true hb2.2.1) (of_decide_eq_true hb2.2.2)
  grind
 refine ca Tryz.func128 rfl<|cT 9 [] ?_
 refine aq (gT bW rfl) ?_
 refine aK rfl ((show Ok _ _ _ [.c (.b false)] from Ff hk hf ht)) ?_
 refine aq (bz rfl) ?_
 refine aq (gT bW rfl) ?_
 refine aK rfl (gJ) ?_
 refine aK rfl (yy (c:=(Cv.arc k w f t)) vc.g (hx.m_)) ?_
 refine dD rfl (fun hc1=>?_) (fun hc1=>?_)
 ·exact absurd hB (by rw[show lg (Cv.arc k w f t) x=false from by simpa using hc1,oK];decide)
 ·refine ar (gI kP rfl)<|qQ rfl<|ar (dg (cR k.x) bF rfl (by kernel_rfl))<|ac rfl (fp (aQ hx) (aQ (hk.x)))<|ar (gI kP rfl) ?_
  refine dD rfl (fun hc2=>?_) (fun hc2=>?_)
  ·have e9:((1:Int):Rat)=sW w:=Td hc2
   refine cT 15 [] ?_
   refine aq (dg (cR k.y) bF rfl (by kernel_rfl)) ?_
   refine aK rfl (gM (iY (by decide) (by decide)) e9) ?_
   refine aq (dg (cR k.q) bF rfl (by kernel_rfl)) ?_
   refine aK rfl (cW (aQ (dd hx (hk.x))) (aQ (dd hx (hk.x)))) ?_
   refine aK rfl (fp (aQ (hk.q)) (aQ (aO (dd hx (hk.x)) (dd hx (hk.x))))) ?_
   refine aK rfl (wQ (c:=mv k x) (hk.y.m_) ((xa w).m_) ((rd hk hx).m_) hm0 hs) ?_
   exact ah (aV dh rfl (az ae))
  ·have e9:((-1:Int):Rat)=sW w:=R8 hc2
   refine cT 15 [] ?_
   refine aq (dg (cR k.y) bF rfl (by kernel_rfl)) ?_
   refine aK rfl (gM (iY (by decide) (by decide)) e9) ?_
   refine aq (dg (cR k.q) bF rfl (by kernel_rfl)) ?_
   refine aK rfl (cW (aQ (dd hx (hk.x))) (aQ (dd hx (hk.x)))) ?_
   refine aK rfl (fp (aQ (hk.q)) (aQ (aO (dd hx (hk.x)) (dd hx (hk.x))))) ?_
   refine aK rfl (wQ (c:=mv k x) (hk.y.m_) ((xa w).m_) ((rd hk hx).m_) hm0 hs) ?_
   exact ah (aV dh rfl (az ae))
theorem Wa (vc:CvV c) (hx:Rz 148000 x):Ok Tryz.prog 128 [.a (aD c),dR x] (if xJ c x then[.a (VH c x),.c (.i .i64 0)] else[.a qR,.c (.i .i64 1)]):=by
 cases hb:xJ c x with
 |false=>
  rw[if_neg (by decide)]
  cases c with
  |seg l f t=>exact XU vc hx hb
  |arc k w f t=>exact XL vc hx hb
 |true=>
  rw[if_pos rfl]
  cases c with
  |seg l f t=>exact Yo vc hx hb
  |arc k w f t=>
   cases hs:jd (mv k x) with
   |true=>rw[N3 hs];exact T4 vc hx hb hs
   |false=>rw[OE hs];exact TT vc hx hb hs
theorem KN (w:Bool):sW w≠0:=by cases w<;>decide+kernel
theorem Q1 (h:jd m=false):m≠0:=fun e=>by rw[e,Pv] at h;cases h
theorem VA (h:jd m=false):rB (sW w) m=sW w:=aaV (KN w) (Q1 h)
theorem VR (h:jd m=false):rC (sW w) m=zc (sW w) m:=by unfold rC;rw[if_neg (fun e=>e.elim (KN w) (Q1 h)),pe (KN w)]
theorem abQ (hp:GP p) (hx:Rz 7000 x):Ok Tryz.prog 83 [.a ((cR p.a1++cR p.b1++cR (zc p.b1 p.c))),.a ((cR x++cR 0++cR 0))] [.c (.i .i64 (mS p x))]:=bY (ya (hp.a1.mono (by decide)) (hp.b1.mono (by decide)) (il (hp.c.mono (by decide)) (by decide)) (hx.mono (by decide)) (dH (by decide)) (dH (by decide))) (Bu (li (co hp)))
theorem ab1 (hp:GP p) (hx:Rz 7000 x):Ok Tryz.prog 83 [.a ((cR x++cR 0++cR 0)),.a ((cR p.a1++cR p.b1++cR (zc p.b1 p.c)))] [.c (.i .i64 (-mS p x))]:=bY (ya (hx.mono (by decide)) (dH (by decide)) (dH (by decide)) (hp.a1.mono (by decide)) (hp.b1.mono (by decide)) (il (hp.c.mono (by decide)) (by decide))) (by
 rw[nM tD (li (co hp)),od (co hp),←cm]
 exact congrArg aS (bt fun n=>by unfold pX wY aC;simp only[aU,aG,aT,bi,bE];grind))
theorem CQ (hc:c.good) (hx:Rz 7000 x):Ok Tryz.prog 341 [.a (aD c),.a ((cR x++cR 0++cR 0))] [.c (.b (lg c x))]:=by
 refine ca Tryz.func341 rfl<|cT 15 [] ?_
 refine aq (bZ (us:=aj c.p) bv rfl rfl (lr _) rfl rfl) ?_
 refine aK rfl (pc) ?_
 refine aK rfl (abQ (iq hc) hx) ?_
 refine AF (bz rfl) (fun c1 hb1=>?_)
 cases c1
 ·refine ah ?_
  rw[show lg c x=false from by unfold lg;rw[hb1];rfl]
  exact az ae
 ·refine aq (bZ (us:=aj c.q) bv rfl rfl (qt _) rfl rfl) ?_
  refine aK rfl (pc)<|aK rfl (ab1 (o7 hc) hx)<|ah ?_
  rw[show lg c x=decide (-mS c.q x≤0) from by unfold lg;rw[hb1];rfl]
  exact az ae
theorem XT (vc:CvV (Cv.seg l f t)) (hx:Rz 7000 x) (hb:xJ (Cv.seg l f t) x=false):Ok Tryz.prog 271 [.a (([.b false]++gK l++qR++[.b false]++aj f++aj t)),dR x] [.a (qR),.c (.i .i64 1)]:=by
 have hf:=vc.g.2.1
 have ht:=vc.g.2.2
 have hl:=vc.g.1
 have hB:=hb
 rw[lZ] at hB
 refine ca Tryz.func271 rfl<|cT 9 [] ?_
 refine aq (gT bW rfl) ?_
 refine aK rfl (FS hl hf ht) ?_
 refine AF (bz rfl) (fun c1 hb1=>?_)
 cases c1
 ·refine aq (gT bW rfl) ?_
  refine aK rfl (fh) ?_
  refine aK rfl (CQ (c:=(Cv.seg l f t)) vc.g (hx.m_)) ?_
  refine dD rfl (fun hc2=>?_) (fun hc2=>?_)
  ·refine ar (aM (us:=qR) m9 lh rfl rfl rfl) ?_
   exact ah (aV dh rfl (az ae))
  ·exact absurd hB (by rw[show(Cv.seg l f t).vert=false from hb1,show lg (Cv.seg l f t) x=true from by simpa using hc2];decide)
 ·refine tg rfl<|ar (aM (us:=qR) m9 lh rfl rfl rfl) ?_
  exact ah (aV dh rfl (az ae))
theorem Xf (vc:CvV (Cv.seg l f t)) (hx:Rz 7000 x) (hb:xJ (Cv.seg l f t) x=true):Ok Tryz.prog 271 [.a (([.b false]++gK l++qR++[.b false]++aj f++aj t)),dR x] [.a ((cR ((l.c-l.a*x)/l.b)++cR 0++cR 0)),.c (.i .i64 0)]:=by
 have hf:=vc.g.2.1
 have ht:=vc.g.2.2
 have hl:=vc.g.1
 have hB:=hb
 rw[lZ] at hB
 refine ca Tryz.func271 rfl<|cT 9 [] ?_
 refine aq (gT bW rfl) ?_
 refine aK rfl (FS hl hf ht) ?_
 refine AF (bz rfl) (fun c1 hb1=>?_)
 cases c1
 ·refine aq (gT bW rfl) ?_
  refine aK rfl (fh) ?_
  refine aK rfl (CQ (c:=(Cv.seg l f t)) vc.g (hx.m_)) ?_
  refine dD rfl (fun hc2=>?_) (fun hc2=>?_)
  ·exact absurd hB (by rw[show lg (Cv.seg l f t) x=false from by simpa using hc2,oK];decide)
  ·have hv:cx f t≠0:=fun e=>absurd (show(Cv.seg l f t).vert=false from hb1) (by show ¬(cx f t==0)=false;rw[e];decide)
   have hb0:l.b≠0:=fun e=>hv ((JQ hl hf ht (by have:=vc.sp;simpa [Cv.supp,Cv.p] using this) (by have:=vc.sq;simpa [Cv.supp,Cv.q] using this) vc.ne).2 e)
   refine ar (gI kP rfl)<|tg rfl<|cT 19 [6,999999] ?_
   refine aq (dg (cR l.c) bF rfl (by kernel_rfl)) ?_
   refine aq (dg (cR l.a) bF rfl (by kernel_rfl)) ?_
   refine aK rfl (ck (aQ (hl.a)) (aQ hx)) ?_
   refine aK rfl (fi (aQ (hl.c)) (aQ (aO (hl.a) hx))) ?_
   refine aq (dg (cR l.b) bF rfl (by kernel_rfl)) ?_
   refine aK rfl (n9 ((hl.c.sub (hl.a.mul hx)).m_) (hl.b.m_) hb0) ?_
   refine DQ.mk<|iQ (fg bF rfl) rfl rfl rfl rfl<|d7 ?_
   refine ac rfl (fh) ?_
   exact ah (aV dh rfl (az ae))
 ·exact absurd hB (by rw[show(Cv.seg l f t).vert=true from hb1];exact Bool.false_ne_true)
theorem XV (vc:CvV (Cv.arc k w f t)) (hx:Rz 7000 x) (hb:xJ (Cv.arc k w f t) x=false):Ok Tryz.prog 271 [.a (([.b true]++np++aX k++[.b w]++aj f++aj t)),dR x] [.a (qR),.c (.i .i64 1)]:=by
 have hf:=vc.g.2.1
 have ht:=vc.g.2.2
 have hk:=vc.g.1
 have hB:=hb
 rw[lZ] at hB
 refine ca Tryz.func271 rfl<|cT 9 [] ?_
 refine aq (gT bW rfl) ?_
 refine aK rfl ((show Ok _ _ _ [.c (.b false)] from Bl hk hf ht)) ?_
 refine aq (bz rfl) ?_
 refine aq (gT bW rfl) ?_
 refine aK rfl (fh) ?_
 refine aK rfl (CQ (c:=(Cv.arc k w f t)) vc.g (hx.m_)) ?_
 refine dD rfl (fun hc1=>?_) (fun hc1=>?_)
 ·refine ar (aM (us:=qR) m9 lh rfl rfl rfl) ?_
  exact ah (aV dh rfl (az ae))
 ·exact absurd hB (by rw[show(Cv.arc k w f t).vert=false from rfl,show lg (Cv.arc k w f t) x=true from by simpa using hc1];decide)
theorem SL (vc:CvV (Cv.arc k w f t)) (hx:Rz 7000 x) (hb:xJ (Cv.arc k w f t) x=true) (hs:jd (mv k x)=true):Ok Tryz.prog 271 [.a (([.b true]++np++aX k++[.b w]++aj f++aj t)),dR x] [.a ((cR (k.y+sW w*rt (mv k x))++cR 0++cR 0)),.c (.i .i64 0)]:=by
 have hf:=vc.g.2.1
 have ht:=vc.g.2.2
 have hk:=vc.g.1
 have hB:=hb
 rw[lZ] at hB
 have ofk:OnK k f:=⟨hf,b7.1 vc.sp⟩
 have otk:OnK k t:=⟨ht,b7.1 vc.sq⟩
 have hm0: ¬mv k x<0:=by
  have hb2:=hb
  unfold xJ at hb2
  rw[dN,dN] at hb2
  have:=CM ofk otk (of_decide_eq_true hb2.2.1) (of_decide_eq_true hb2.2.2)
  grind
 refine eH Tryz.func271 64 [.cell 4 129,.tmp 5] rfl<|aa<|ag<|aa<|aa<|dJ 9 [] ?_
 refine aq (gT bW rfl) ?_
 refine aK rfl ((show Ok _ _ _ [.c (.b false)] from Bl hk hf ht)) ?_
 refine aq (bz rfl) ?_
 refine aq (gT bW rfl) ?_
 refine aK rfl (fh) ?_
 refine aK rfl (CQ (c:=(Cv.arc k w f t)) vc.g (hx.m_)) ?_
 refine aI rfl (fun hc1=>?_) (fun hc1=>?_)
 ·exact absurd hB (by rw[show lg (Cv.arc k w f t) x=false from by simpa using hc1,oK];decide)
 ·refine aA<|aa<|aa<|ag ?_
  refine ar (gI kP rfl) ?_
  refine a8 rfl<|aA<|aa<|ag ?_
  refine ar (dg (cR k.x) bF rfl (by kernel_rfl)) ?_
  refine ac rfl (fi (aQ hx) (aQ (hk.x)))<|aa<|ag ?_
  refine ac rfl (eu (by decide) (by decide)) ?_
  refine aa<|aa<|ag ?_
  refine ar (gI kP rfl) ?_
  refine aI rfl (fun hc2=>?_) (fun hc2=>?_)
  ·have e9:((1:Int):Rat)=sW w:=Td hc2
   refine ag<|ac rfl (gM (eu (by decide) (by decide)) e9) ?_
   refine aa<|dJ 14 [] ?_
   refine aq (dg (cR k.y) bF rfl (by kernel_rfl)) ?_
   refine aq (dg (cR k.q) bF rfl (by kernel_rfl)) ?_
   refine aK rfl (ck (aQ (dd hx (hk.x))) (aQ (dd hx (hk.x)))) ?_
   refine aK rfl (fi (aQ (hk.q)) (aQ (aO (dd hx (hk.x)) (dd hx (hk.x))))) ?_
   refine aK rfl (xB (c:=mv k x) (hk.y.m_) ((xa w).m_) ((rd hk (hx.m_)).m_) (fun h=>absurd h hm0) hs)<|aZ ?_
   exact ah (aV dh rfl (az ae))
  ·have e9:((-1:Int):Rat)=sW w:=R8 hc2
   refine lj (σ':=⟨64,[(2,.p 2 0),(3,.p 3 0),(4,.p 4 0),(8,.p 8 0),(9,.p 9 0)],[(2,49,([.b true]++np++aX k++[.b w]++aj f++aj t)),(3,38,cR x),(4,129,qR),(8,38,cR (x-k.x)),(9,38,cR (sW w))]⟩) (ao ⟨rfl,rfl,rfl,rfl,rfl,trivial⟩ ⟨rfl,rfl,rfl,rfl,congrArg (fun q=>some (38,cR q)) e9,trivial⟩ rfl) ?_
   refine aA<|aa<|dJ 14 [] ?_
   refine aq (dg (cR k.y) bF rfl (by kernel_rfl)) ?_
   refine aq (dg (cR k.q) bF rfl (by kernel_rfl)) ?_
   refine aK rfl (ck (aQ (dd hx (hk.x))) (aQ (dd hx (hk.x)))) ?_
   refine aK rfl (fi (aQ (hk.q)) (aQ (aO (dd hx (hk.x)) (dd hx (hk.x))))) ?_
   refine aK rfl (xB (c:=mv k x) (hk.y.m_) ((xa w).m_) ((rd hk (hx.m_)).m_) (fun h=>absurd h hm0) hs)<|aZ ?_
   exact ah (aV dh rfl (az ae))
theorem Up (vc:CvV (Cv.arc k w f t)) (hx:Rz 7000 x) (hb:xJ (Cv.arc k w f t) x=true) (hs:jd (mv k x)=false):Ok Tryz.prog 271 [.a (([.b true]++np++aX k++[.b w]++aj f++aj t)),dR x] [.a ((cR k.y++cR (sW w)++cR (zc (sW w) (mv k x)))),.c (.i .i64 0)]:=by
 have hf:=vc.g.2.1
 have ht:=vc.g.2.2
 have hk:=vc.g.1
 have hB:=hb
 rw[lZ] at hB
 have ofk:OnK k f:=⟨hf,b7.1 vc.sp⟩
 have otk:OnK k t:=⟨ht,b7.1 vc.sq⟩
 have hm0: ¬mv k x<0:=by
  have hb2:=hb
  unfold xJ at hb2
  rw[dN,dN] at hb2
  have:=CM ofk otk (of_decide_eq_true hb2.2.1) (of_decide_eq_true hb2.2.2)
  grind
 refine eH Tryz.func271 64 [.cell 4 129,.tmp 5] rfl<|aa<|ag<|aa<|aa<|dJ 9 [] ?_
 refine aq (gT bW rfl) ?_
 refine aK rfl ((show Ok _ _ _ [.c (.b false)] from Bl hk hf ht)) ?_
 refine aq (bz rfl) ?_
 refine aq (gT bW rfl) ?_
 refine aK rfl (fh) ?_
 refine aK rfl (CQ (c:=(Cv.arc k w f t)) vc.g (hx.m_)) ?_
 refine aI rfl (fun hc1=>?_) (fun hc1=>?_)
 ·exact absurd hB (by rw[show lg (Cv.arc k w f t) x=false from by simpa using hc1,oK];decide)
 ·refine aA<|aa<|aa<|ag ?_
  refine ar (gI kP rfl) ?_
  refine a8 rfl<|aA<|aa<|ag ?_
  refine ar (dg (cR k.x) bF rfl (by kernel_rfl)) ?_
  refine ac rfl (fi (aQ hx) (aQ (hk.x)))<|aa<|ag ?_
  refine ac rfl (eu (by decide) (by decide)) ?_
  refine aa<|aa<|ag ?_
  refine ar (gI kP rfl) ?_
  refine aI rfl (fun hc2=>?_) (fun hc2=>?_)
  ·have e9:((1:Int):Rat)=sW w:=Td hc2
   refine ag<|ac rfl (gM (eu (by decide) (by decide)) e9) ?_
   refine aa<|dJ 14 [] ?_
   refine aq (dg (cR k.y) bF rfl (by kernel_rfl)) ?_
   refine aq (dg (cR k.q) bF rfl (by kernel_rfl)) ?_
   refine aK rfl (ck (aQ (dd hx (hk.x))) (aQ (dd hx (hk.x)))) ?_
   refine aK rfl (fi (aQ (hk.q)) (aQ (aO (dd hx (hk.x)) (dd hx (hk.x))))) ?_
   refine aK rfl (wM (xv (c:=mv k x) (hk.y.m_) ((xa w).m_) ((rd hk (hx.m_)).m_) (fun h=>absurd h hm0) hs) rfl (VA hs) (VR hs))<|aZ ?_
   exact ah (aV dh rfl (az ae))
  ·have e9:((-1:Int):Rat)=sW w:=R8 hc2
   refine lj (σ':=⟨64,[(2,.p 2 0),(3,.p 3 0),(4,.p 4 0),(8,.p 8 0),(9,.p 9 0)],[(2,49,([.b true]++np++aX k++[.b w]++aj f++aj t)),(3,38,cR x),(4,129,qR),(8,38,cR (x-k.x)),(9,38,cR (sW w))]⟩) (ao ⟨rfl,rfl,rfl,rfl,rfl,trivial⟩ ⟨rfl,rfl,rfl,rfl,congrArg (fun q=>some (38,cR q)) e9,trivial⟩ rfl) ?_
   refine aA<|aa<|dJ 14 [] ?_
   refine aq (dg (cR k.y) bF rfl (by kernel_rfl)) ?_
   refine aq (dg (cR k.q) bF rfl (by kernel_rfl)) ?_
   refine aK rfl (ck (aQ (dd hx (hk.x))) (aQ (dd hx (hk.x)))) ?_
   refine aK rfl (fi (aQ (hk.q)) (aQ (aO (dd hx (hk.x)) (dd hx (hk.x))))) ?_
   refine aK rfl (wM (xv (c:=mv k x) (hk.y.m_) ((xa w).m_) ((rd hk (hx.m_)).m_) (fun h=>absurd h hm0) hs) rfl (VA hs) (VR hs))<|aZ ?_
   exact ah (aV dh rfl (az ae))
theorem Yd (vc:CvV c) (hx:Rz 7000 x):Ok Tryz.prog 271 [.a (aD c),dR x] (if xJ c x then[.a (VH c x),.c (.i .i64 0)] else[.a qR,.c (.i .i64 1)]):=by
 cases hb:xJ c x with
 |false=>
  rw[if_neg (by decide)]
  cases c with
  |seg l f t=>exact XT vc hx hb
  |arc k w f t=>exact XV vc hx hb
 |true=>
  rw[if_pos rfl]
  cases c with
  |seg l f t=>exact Xf vc hx hb
  |arc k w f t=>
   cases hs:jd (mv k x) with
   |true=>rw[N3 hs];exact SL vc hx hb hs
   |false=>rw[OE hs];exact Up vc hx hb hs
end Go.Proofs.YtegpmhlfjkhjmaaGreat
