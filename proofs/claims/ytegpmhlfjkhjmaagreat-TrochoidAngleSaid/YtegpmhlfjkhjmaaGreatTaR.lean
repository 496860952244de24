/-Plain:a circle divided at points,as the program and as the reference do it:the same pieces,but for the form of their ends. -/
import Derived.Test.YtegpmhlfjkhjmaaGreatTaQ
namespace Go.Proofs.YtegpmhlfjkhjmaaGreat
open Go Go.RowKit
variable {w:Bool}{k:Ci}{c e:Cv}{cs rs us:List CellD}{L L' M S:List Pt}{l:Ln}{c9 j n off s:Nat}{f p q t:Pt}{x:Rat}
theorem sC:type_of% @List.length_filter_le:=@List.length_filter_le
theorem uE:type_of% @List.Pairwise.imp_of_mem:=@List.Pairwise.imp_of_mem
theorem Ba:type_of% @List.filter_append:=@List.filter_append
section
variable {α:Type}{e:α}{C:α→α→Int}{G:α→Prop}(anti: ∀x y,G x→G y→C y x= -C x y) (tr: ∀x y z,G x→G y→G z→C x y≤0→C y z≤0→C x z≤0)
include anti tr
theorem To {x y z:α}(hx:G x) (hy:G y) (hz:G z) (h:C x y<0) (g:C y z≤0):C x z<0:=by
 have a1:=anti x z hx hz
 have a2:=anti x y hx hy
 have h1:=tr x y z hx hy hz (by omega) g
 apply fe
 intro hn
 have:=tr y z x hy hz hx g (by omega)
 omega
theorem abT {x y z:α}(hx:G x) (hy:G y) (hz:G z) (h:C x y≤0) (g:C y z<0):C x z<0:=by
 have a1:=anti x z hx hz
 have a2:=anti y z hy hz
 have h1:=tr x y z hx hy hz h (by omega)
 apply fe
 intro hn
 have:=tr z x y hz hx hy (by omega) h
 omega
theorem Lg: ∀ {A B:List α},(∀a∈A,G a)→(∀b∈B,G b)→A.Pairwise (fun a b=>C a b<0)→B.Pairwise (fun a b=>C a b<0)→(∀a∈A,∃b∈B,C a b=0)→(∀b∈B,∃a∈A,C a b=0)→A.length=B.length∧ ∀i,i<A.length→C (A.getD i e) (B.getD i e)=0
 |[],[],_,_,_,_,_,_=>⟨rfl,fun i hi=>absurd hi (Nat.not_lt_zero i)⟩
 |[],b::B,_,_,_,_,_,h=>by obtain⟨a,ha,_⟩:=h b (by simp);cases ha
 |a::A,[],_,_,_,_,h,_=>by obtain⟨b,hb,_⟩:=h a (by simp);cases hb
 |a::A,b::B,gA,gB,hA,hB,h1,h2=>by
  have ga:=gA a (by simp)
  have gb:=gB b (by simp)
  have gA2: ∀x∈A,G x:=fun x hx=>gA x (by simp[hx])
  have gB2: ∀x∈B,G x:=fun x hx=>gB x (by simp[hx])
  obtain⟨hA1,hA2⟩:=lj.1 hA
  obtain⟨hB1,hB2⟩:=lj.1 hB
  have le1:C a b≤0:=by
   obtain⟨x,hx,hx0⟩:=h2 b (by simp)
   rcases d8.1 hx with rfl|hx
   ·omega
   ·exact qw (To anti tr ga (gA2 x hx) gb (hA1 x hx) (by omega))
  have le2:C b a≤0:=by
   obtain⟨y,hy,hy0⟩:=h1 a (by simp)
   rcases d8.1 hy with rfl|hy
   ·rw[anti a y ga gb];omega
   ·have:=anti a y ga (gB2 y hy)
    exact qw (To anti tr gb (gB2 y hy) ga (hB1 y hy) (by omega))
  have z:C a b=0:=by have:=anti a b ga gb;omega
  have z2:C b a=0:=by have:=anti a b ga gb;omega
  have t1: ∀x∈A,∃y∈B,C x y=0:=fun x hx=>by
   obtain⟨y,hy,hy0⟩:=h1 x (by simp[hx])
   rcases d8.1 hy with rfl|hy
   ·have q:=To anti tr ga (gA2 x hx) gb (hA1 x hx) (by omega)
    omega
   ·exact⟨y,hy,hy0⟩
  have t2: ∀y∈B,∃x∈A,C x y=0:=fun y hy=>by
   obtain⟨x,hx,hx0⟩:=h2 y (by simp[hy])
   rcases d8.1 hx with rfl|hx
   ·have q:=abT anti tr ga gb (gB2 y hy) (by omega) (hB1 y hy)
    omega
   ·exact⟨x,hx,hx0⟩
  obtain⟨l,hl⟩:=Lg gA2 gB2 hA2 hB2 t1 t2
  refine⟨by simp[l],fun i hi=>?_⟩
  cases i with
  |zero=>exact z
  |succ i=>exact hl i (by simpa using hi)
end
def bO (S:List Pt) (n:Nat):List Pt:=((List.range n).filter fun i=>i==0||cP (S.getD i dPt) (S.getD (i-1) dPt) !=0).map fun i=>S.getD i dPt
def jJ (c:Cv) (p:Pt):Bool:= !(cP p c.p==0)&& !(cP p c.q==0)
section
variable {S:List Pt}{n:Nat}
theorem I7:bO S (n+1)=bO S n++(if (n==0||cP (S.getD n dPt) (S.getD (n-1) dPt) !=0)=true then[S.getD n dPt] else[]):=by
 unfold bO
 rw[List.range_succ,Ba,rV]
 congr 1
 rw[List.filter_cons]
 split<;>rfl
theorem G9 (h:cP (S.getD n dPt) (S.getD (n-1) dPt)≠0):bO S (n+1)=bO S n++[S.getD n dPt]:=by
 rw[I7,if_pos (by rw[sY];exact .inr (bne_iff_ne.2 h))]
theorem Jl (h0:0<n) (h:cP (S.getD n dPt) (S.getD (n-1) dPt)=0):bO S (n+1)=bO S n:=by
 rw[I7,if_neg,m9]
 rw[sY,beq_iff_eq,bne_iff_ne]
 omega
theorem y9:(bO S n).length≤n:=by
 unfold bO
 rw[List.length_map]
 exact nF (sC _ _) (by simp)
theorem Cw (hS: ∀i,i+1<n→cP (S.getD (i+1) dPt) (S.getD i dPt)≠0) (hn:n≤S.length):bO S n=S.take n:=by
 induction n with
 |zero=>rfl
 |succ n ih=>
  rw[sT (d:=dPt) (by omega),←ih (fun i hi=>hS i (by omega)) (by omega)]
  by_cases h:n=0
  ·subst h;rfl
  ·exact G9 (by have:=hS (n-1) (by omega);rw[show n-1+1=n from by omega] at this;exact this)
theorem IZ {x:Pt}(hn:n≤S.length) (h:x∈bO S n):x∈S:=by
 unfold bO at h
 obtain⟨i,hi,rfl⟩:=pp.1 h
 have:=ko.1 (mG.1 hi).1
 exact bX (by omega)
theorem QM (gS: ∀p∈S,0≤p.c): ∀ {n i:Nat},n≤S.length→i<n→ ∃y∈bO S n,cP y (S.getD i dPt)=0:=by
 have one: ∀i,i<S.length→ ∃j,j≤i∧(j==0||cP (S.getD j dPt) (S.getD (j-1) dPt) !=0)=true∧cP (S.getD j dPt) (S.getD i dPt)=0:=by
  intro i
  induction i with
  |zero=>exact fun h=>⟨0,ck _,rfl,mh (gS _ (bX h))⟩
  |succ i ih=>
   intro h
   by_cases g:cP (S.getD (i+1) dPt) (S.getD i dPt)=0
   ·obtain⟨j,h1,h2,h3⟩:=ih (by omega)
    refine⟨j,by omega,h2,?_⟩
    have c0:=gS _ (bX (d:=dPt) h)
    have c1:=gS _ (bX (d:=dPt) (show i<S.length by omega))
    have c2:=gS _ (bX (d:=dPt) (show j<S.length by omega))
    obtain⟨z1,z2⟩:=eH.1 g
    obtain⟨z3,z4⟩:=eH.1 h3
    refine eH.2 ⟨?_,?_⟩
    ·rw[dd c0 c2,xl c0 c1 g c2,dd c2 c1,z3];rfl
    ·rw[show cy (S.getD j dPt) (S.getD (i+1) dPt)= -cy (S.getD (i+1) dPt) (S.getD j dPt) from by rw[rW c2 c0,rW c0 c2,vJ],Cg c0 c1 g c2,show cy (S.getD i dPt) (S.getD j dPt)= -cy (S.getD j dPt) (S.getD i dPt) from by rw[rW c1 c2,rW c2 c1,vJ],z4];rfl
   ·exact⟨i+1,ck _,by rw[sY];exact .inr (bne_iff_ne.2 g),mh (gS _ (bX h))⟩
 intro n i hn hi
 obtain⟨j,h1,h2,h3⟩:=one i (by omega)
 exact⟨S.getD j dPt,pp.2 ⟨j,mG.2 ⟨List.mem_range.2 (by omega),h2⟩,rfl⟩,h3⟩
end
theorem QH {C:Pt→Pt→Int}{G:Pt→Prop}(anti: ∀x y,G x→G y→C y x= -C x y) (tr: ∀x y z,G x→G y→G z→C x y≤0→C y z≤0→C x z≤0) (zero: ∀x y,G x→G y→C x y=0→cP y x=0) (gS: ∀p∈S,G p) (h:S.Pairwise fun a b=>C a b≤0) (hn:n≤S.length):(bO S n).Pairwise fun a b=>C a b<0:=by
 have key: ∀ {i j:Nat},i<j→j<S.length→(j==0||cP (S.getD j dPt) (S.getD (j-1) dPt) !=0)=true→C (S.getD i dPt) (S.getD j dPt)<0:=fun{i j} hij hj hk=>by
  have hg:=fun{r:Nat}(hr:r<S.length)=>gS _ (bX (d:=dPt) hr)
  have le: ∀ {r s:Nat},r≤s→s<S.length→C (S.getD r dPt) (S.getD s dPt)≤0:=fun{r s} hrs hs=>by
   rcases jY r s with g|g
   ·have:=(List.pairwise_iff_getElem.1 h) r s (by omega) hs g
    rw[List.getD,gE (by omega),List.getD,gE hs];exact this
   ·have:r=s:=by omega
    subst this
    have:=anti _ _ (hg hs) (hg hs)
    omega
  have hne:cP (S.getD j dPt) (S.getD (j-1) dPt)≠0:=by
   rw[sY,beq_iff_eq,bne_iff_ne] at hk
   omega
  have h1:=le (show i≤j-1 by omega) (by omega)
  have h2:=le (show j-1≤j by omega) hj
  have h3:C (S.getD (j-1) dPt) (S.getD j dPt)≠0:=fun e=>hne (zero _ _ (hg (by omega)) (hg hj) e)
  exact abT anti tr (hg (by omega)) (hg (by omega)) (hg hj) h1 (by omega)
 unfold bO
 refine List.Pairwise.map _ (R:=fun i j=>i<j∧j<S.length∧(j==0||cP (S.getD j dPt) (S.getD (j-1) dPt) !=0)=true) (fun i j h=>key h.1 h.2.1 h.2.2) ?_
 refine uE (fun{a b} ha hb g=>?_) (List.Pairwise.filter _ List.pairwise_lt_range)
 have hb2:=mG.1 hb
 have:=ko.1 hb2.1
 exact⟨g,by omega,hb2.2⟩
structure CpS (S:List Pt) (m:Nat) (Y:List Pt):Prop where
 len:Y.length=S.length
 m1:1≤m
 mn:m≤S.length
 lt:(bO S m).length<m
 fst:Y.take (bO S m).length=bO S m
 rst:Y.drop (m-1)=S.drop (m-1)
section
variable {S Y:List Pt}{m:Nat}
theorem CpS.get (h:CpS S m Y) (hj:m-1≤j):Y.getD j dPt=S.getD j dPt:=by
 have e: ∀L:List Pt,L.getD j dPt=(L.drop (m-1)).getD (j-(m-1)) dPt:=fun L=>by
  rw[List.getD,List.getD,List.getElem?_drop];congr 2;omega
 rw[e,h.rst,←e]
theorem CpS.start {k:Nat}(h0:0<k) (hk:k<S.length) (hS: ∀i,i+1<k→cP (S.getD (i+1) dPt) (S.getD i dPt)≠0) (he:cP (S.getD k dPt) (S.getD (k-1) dPt)=0):CpS S (k+1) S∧(bO S (k+1)).length=k:=by
 have e1:bO S (k+1)=S.take k:=(Jl h0 he).trans (Cw hS (by omega))
 have e2:(bO S (k+1)).length=k:=by rw[e1,gX];omega
 exact⟨⟨rfl,by omega,by omega,by omega,by rw[e2,e1],rfl⟩,e2⟩
theorem CpS.old (h:CpS S m Y) (hm:m<S.length) (he:cP (S.getD m dPt) (S.getD (m-1) dPt)=0):CpS S (m+1) Y∧bO S (m+1)=bO S m:=by
 have e1:=Jl (S:=S) h.m1 he
 have hr:Y.drop m=S.drop m:=by
  have:=congrArg (List.drop 1) h.rst
  rw[List.drop_drop,List.drop_drop,show m-1+1=m from by have:=h.m1;omega] at this
  exact this
 have:=h.lt
 exact⟨⟨h.len,by omega,by omega,by rw[e1];omega,by rw[e1];exact h.fst,hr⟩,e1⟩
theorem CpS.new (h:CpS S m Y) (hm:m<S.length) (he:cP (S.getD m dPt) (S.getD (m-1) dPt)≠0):CpS S (m+1) (Y.set (bO S m).length (S.getD m dPt))∧(bO S (m+1)).length=(bO S m).length+1:=by
 have e1:=G9 (S:=S) he
 have e2:(bO S (m+1)).length=(bO S m).length+1:=by rw[e1,d6];rfl
 have hlt:=h.lt
 have hl:=h.len
 have hr:Y.drop m=S.drop m:=by
  have:=congrArg (List.drop 1) h.rst
  rw[List.drop_drop,List.drop_drop,show m-1+1=m from by have:=h.m1;omega] at this
  exact this
 refine⟨⟨by rw[yG];exact hl,by omega,by omega,by omega,?_,?_⟩,e2⟩
 ·rw[e2,e1,sT (d:=dPt) (by rw[yG];omega),List.take_set_of_le (ck _),h.fst]
  congr 1
  simp[List.getD,show(bO S m).length<Y.length by omega]
 ·rw[show m+1-1=m from rfl,Dv (by omega),hr]
theorem JH (h:S.length≤1):bO S S.length=S:=by
 rw[Cw (fun i hi=>by omega) (ck _),qh]
theorem OG (hS: ∀i,i+1<S.length→cP (S.getD (i+1) dPt) (S.getD i dPt)≠0):bO S S.length=S:=by
 rw[Cw hS (ck _),qh]
def zQs (n:Nat):List CellD:=(List.replicate n Xg).flatten
theorem TJ (n:Nat):(zQs n).length=n*20:=by
 unfold zQs
 induction n with
 |zero=>rfl
 |succ n ih=>rw[List.replicate_succ,List.flatten_cons,d6,ih,show Xg.length=20 from rfl];omega
theorem CpS.clr (h:CpS S m Y):(aW aw Y++rs).take ((bO S m).length*20)++zQs (S.length-(bO S m).length)++(aW aw Y++rs).drop ((bO S m).length*20+(S.length-(bO S m).length)*20)=aW aw (bO S m)++(zQs (S.length-(bO S m).length)++rs):=by
 have hl:=a7 bi Y
 have h1:=h.lt
 have h2:=h.mn
 have h3:=h.len
 rw[show(bO S m).length*20+(S.length-(bO S m).length)*20=(aW aw Y).length from by omega,List.drop_left,CJ (by omega),Ff bi,h.fst,wx]
end
def Ap (c:Cv) (D:List Pt) (n:Nat):List Pt:=(D.take n).filter (jJ c)
def xJ (c:Cv) (D:List Pt) (n:Nat):Pt:=(c.p::Ap c D n).getD (Ap c D n).length dPt
def G7 (c:Cv) (D:List Pt) (n:Nat):List Cv:=kH c (c.p::Ap c D n)
section
variable {c:Cv}{D:List Pt}{n:Nat}
theorem FB:(G7 c D n).length=(Ap c D n).length:=by unfold G7;rw[tJ];rfl
theorem r5 (h:n<D.length) (g:jJ c (D.getD n dPt)=false):Ap c D (n+1)=Ap c D n:=by
 unfold Ap
 rw[sT (d:=dPt) h,Ba,List.filter_cons,if_neg (by rw[g];decide)]
 simp
theorem qT (h:n<D.length) (g:jJ c (D.getD n dPt)=true):Ap c D (n+1)=Ap c D n++[D.getD n dPt]:=by
 unfold Ap
 rw[sT (d:=dPt) h,Ba,List.filter_cons,if_pos g]
 simp
theorem Gh (h:n<D.length) (g:jJ c (D.getD n dPt)=false):xJ c D (n+1)=xJ c D n:=by unfold xJ;rw[r5 h g]
theorem LJ (h:n<D.length) (g:jJ c (D.getD n dPt)=true):xJ c D (n+1)=D.getD n dPt:=by
 unfold xJ;rw[qT h g]
 simp[List.getD]
theorem RP (h:n<D.length) (g:jJ c (D.getD n dPt)=false):G7 c D (n+1)=G7 c D n:=by unfold G7;rw[r5 h g]
theorem Lz (h:n<D.length) (g:jJ c (D.getD n dPt)=true):G7 c D (n+1)=G7 c D n++[c.ends (xJ c D n) (D.getD n dPt)]:=by
 unfold G7 xJ;rw[qT h g,yK]
theorem WV:Ap c D 0=[]:=by unfold Ap;simp
theorem ac1:xJ c D 0=c.p:=by unfold xJ;rw[WV];rfl
theorem GV:uj c (D.filter (jJ c))=G7 c D D.length++[c.ends (xJ c D D.length) c.q]:=by
 unfold uj G7 xJ Ap
 rw[qh,yK]
theorem Td {x:Pt}(h:(cP x c.p==0)=true):jJ c x=false:=by unfold jJ;rw[h];rfl
theorem Gv {x:Pt}(h:(cP x c.p==0)=false):jJ c x= !(cP x c.q==0):=by unfold jJ;rw[h];rfl
end
section
variable {P:Program}{ops:Array Oper}{T:TF}{B:BF}{dst:Option Nat}{x i:Operand}{U:TypeId}{ty:TypeId}{pos:String}{af:Array Edge}{g:Option (Nat×Bool)}{n m c k q:Nat}{ki:IntKind}
theorem y6 (hU:xU P U=some m) (hx:cO T x=some (.o k n c)) (hh:cO T i=some (.v (.c (.i ki q)))) (hq:q<n) (hnc:n≤c) (hg:gd ops ⟨dst,.slice U x (some i) none none,ty,pos,af,g⟩ T=some true):
 Sem P ops ⟨dst,.slice U x (some i) none none,ty,pos,af,g⟩ T B (.r (.w k (q*m) (n-q) (c-q))):=by
 have h:=Bw (P:=P) (ops:=ops) (T:=T) (B:=B) (dst:=dst) (ty:=ty) (pos:=pos) (af:=af) (g:=g) (ki:=ki) hU hx hh (Nat.le_of_lt hq) hnc hg
 rw[if_pos (by omega)] at h
 exact h
theorem vC {j:Int}(hU:xU P U=some m) (hx:cO T x=some (.w k (q*m) n c)) (hi:cO T i=some (.v (.c (.i ki j)))) (hj:0≤j∧j<n) (hs:(q:Int)+j=s) (hg:gd ops ⟨dst,.indexAddr U x i,ty,pos,af,g⟩ T=some true):
 Sem P ops ⟨dst,.indexAddr U x i,ty,pos,af,g⟩ T B (.r (.p k (s*m))):=
 bI hg (fun k' e=>by
  obtain rfl:k=k':=by injection e
  exact oi (ops:=ops) (o:=⟨dst,.indexAddr U x i,ty,pos,af,g⟩) (by simp[Op.operands]) hx rfl) (fun V β a w hs'=>by
  have e:a.eval x=.slice (some ⟨β k,q*m,none⟩) n c:=aC hs' (x:=x) (by simp[Op.operands]) hx
  have h2:=fO (aC hs' (x:=i) (by simp[Op.operands]) hi)
  unfold xU at hU
  split at hU
  case h_2=>cases hU
  rename_i el hul
  cases hinf:P.info? el with
  |none=>rw[hinf] at hU;cases hU
  |some inf=>
   rw[hinf] at hU
   simp at hU
   have es:s*m=q*m+j.toNat*m:=by rw[←tY];congr 1;omega
   refine⟨.pointer (some ⟨β k,s*m,none⟩),?_,rfl⟩
   have hso: ∀w,(sizeOf el).run P w=.ok m w:=fun w=>by unfold sizeOf typeInfo;simp[program,Sem.run,hinf,hU]
   rw[es]
   simp[execOp,Instr.indexAt,e,h2,asIntOf,run_underlying hul,hj.1,hj.2,hso,kw])
theorem M4 (hU:xU P U=some m) (hx:cO T x=some (.w k off n c)) (hg:gd ops ⟨dst,.call ⟨.builtin .len,#[x],#[U]⟩,ty,pos,af,g⟩ T=some true):
 Sem P ops ⟨dst,.call ⟨.builtin .len,#[x],#[U]⟩,ty,pos,af,g⟩ T B (.r (.v (.c (.i .i64 n)))):=
 bI hg (pF rfl) (fun V β a w hs=>by
  have e:a.eval x=.slice (some ⟨β k,off,none⟩) n c:=aC hs (x:=x) (by simp[Op.operands,Call.operands]) hx
  unfold xU at hU
  split at hU
  ·rename_i el hu
   refine⟨.int .i64 n,?_,.i _ _⟩
   simp[execOp,resolve,invoke,builtin,Builtin.len_,e,run_underlying hu,goInt]
  ·cases hU)
def fvB (P:Program) (U:TypeId) (f:Nat):Option (Nat×Nat):=
 match P.underlying U with
 |some (.struct fs)=>match fs[f]? with
  |some fd=>match sG P fd.type with
   |some (true,n)=>some (fd.offset,n)
   |_=>none
  |none=>none
 |_=>none
theorem Ky {f:Nat}(hU:fvB P U f=some (off,n)) (hx:cO T x=some (.v (.a cs))) (hu:(cs.drop off).take n=us) (hg:gd ops ⟨dst,.field U x f,ty,pos,af,g⟩ T=some true):
 Sem P ops ⟨dst,.field U x f,ty,pos,af,g⟩ T B (.r (.v (.a us))):=
 bI hg (pF rfl) (fun V β a w hs=>by
  obtain⟨vs,e,hr⟩:=aC hs (x:=x) (by simp[Op.operands]) hx
  unfold fvB at hU
  split at hU
  case h_2=>cases hU
  rename_i fs hul
  split at hU
  case h_2=>cases hU
  rename_i fd hf
  split at hU
  case h_2=>cases hU
  rename_i m ht
  cases hU
  obtain⟨h1,h2⟩:=wK ht w
  refine⟨.agg (vs.extract fd.offset (fd.offset+n)),?_,_,rfl,?_⟩
  ·simp only[execOp,Instr.field,eM,run_underlying hul,fi,hf,e,asAgg,gK,part,h1,h2,if_true]
  ·rw[←hu]
   have:=(hr.drop fd.offset).take n
   rw[show(vs.extract fd.offset (fd.offset+n)).toList=(vs.toList.drop fd.offset).take n from by simp[List.take_drop]]
   exact this)
end
theorem adY (hS: ∀p∈S,GP p) (lS:S.length≤12) (hc9:S.length≤c9):OkT Tryz.prog 310 47 S.length c9 ((bO S S.length).length) (aW aw S++rs) (aW aw (bO S S.length)++(zQs (S.length-(bO S S.length).length)++rs)) [.c (.f 220)]:=by
 refine OkT.of (K:=100000) (by kernel_rfl) Tryz.func310 rfl rfl rfl ?_
 rw[show Tryz.f310.ntmps=66 from rfl]
 refine ae<|ah<|ae<|ae<|ah<|ar (jm f7 rfl rfl) ?_
 refine aP rfl (fun hc1=>?_) (fun hc1=>?_)
 ·refine ae<|ah<|ba ?_
  rw[JH (by have:=of_decide_eq_true hc1;omega),Nat.sub_self]
  exact⟨.inr rfl,rfl,4,rfl,rfl⟩
 ·have h2:2≤S.length:=by have:=of_decide_eq_false hc1;omega
  refine aA<|ae<|ae<|ah<|aG<|bv (ι:={k:Nat // 1≤k∧k≤S.length∧ ∀i,i+1<k→cP (S.getD (i+1) dPt) (S.getD i dPt)≠0}) (fun i=>⟨66,[(0,.o 100000 S.length c9),(1,.v (.c (.f 220))),(5,.v (.c (.i .i64 (i.1:Int))))],[(100000,47,aW aw S++rs)]⟩) (fun i=>S.length-i.1) ⟨1,ck _,by omega,fun i hi=>absurd hi (by omega)⟩ (ap (bo rfl) ⟨rfl,trivial⟩ rfl) ?_
  rintro⟨k,hk1,hk2,hk3⟩
  replace hk1:1≤k:=hk1
  replace hk2:k≤S.length:=hk2
  replace hk3: ∀i,i+1<k→cP (S.getD (i+1) dPt) (S.getD i dPt)≠0:=hk3
  dsimp only
  refine ae<|ae<|ah<|ar (jm f7 rfl rfl) ?_
  refine aP rfl (fun hc2=>?_) (fun hc2=>?_)
  ·have g1:k<S.length:=by have:=of_decide_eq_true hc2;omega
   refine aA<|ae<|aG<|ae<|wq 11 rfl rfl<|ji 3<|cK (bE f7 rfl rfl (by omega) rfl) ?_
   refine cK (cD (us:=aw (S.getD k dPt)) cn rfl rfl ((jX (e:=dPt) (O:=S) bi (by omega))) (bi _) rfl) ?_
   refine ji 2<|cK (bF (((k-1:Nat):Int)) ((aS (by omega) (by omega)).trans (congrArg some (by omega))) rfl)<|cK (bE f7 rfl rfl (by omega) rfl) ?_
   refine cK (cD (us:=aw (S.getD (k-1) dPt)) cn rfl rfl ((jX (e:=dPt) (O:=S) bi (by omega))) (bi _) rfl) ?_
   refine cK (dg rfl (zW (GP.getD hS k) (GP.getD hS (k-1))))<|wd<|iC<|bt ?_
   refine aP rfl (fun hc3=>?_) (fun hc3=>?_)
   ·have g2:cP (S.getD k dPt) (S.getD (k-1) dPt)=0:=by simpa using hc3
    obtain⟨cs1,cs2⟩:=CpS.start (by omega) g1 hk3 g2
    refine ae<|ah<|ar (y6 (q:=k) f7 rfl rfl (by omega) (by omega) rfl) ?_
    refine ae<|ae<|ah<|aG<|bv (ι:={x9:Nat×List Pt // 1≤x9.1∧CpS S (k+x9.1) x9.2}) (fun i=>⟨66,[(0,.o 100000 S.length c9),(1,.v (.c (.f 220))),(5,.v (.c (.i .i64 (((bO S (k+i.1.1)).length:Int))))),(6,.w 100000 (k*20) (S.length-k) (c9-k)),(7,.v (.c (.i .i64 (i.1.1:Int))))],[(100000,47,aW aw i.1.2++rs)]⟩) (fun i=>S.length-(k+i.1.1)) ⟨(1,S),ck _,cs1⟩ (ap ⟨rfl,rfl,congrArg (fun q=>some (DV.v (.c (.i .i64 ((q:Nat):Int))))) cs2.symm,rfl,rfl,trivial⟩ ⟨rfl,trivial⟩ rfl) ?_
    rintro⟨⟨q,Y⟩,hq1,hC⟩
    replace hq1:1≤q:=hq1
    replace hC:CpS S (k+q) Y:=hC
    have hY:=hC.len
    have hlt:=hC.lt
    have hmn:=hC.mn
    dsimp only
    refine ae<|ae<|ah<|ar (M4 f7 rfl rfl) ?_
    refine aP rfl (fun hc4=>?_) (fun hc4=>?_)
    ·have g3:k+q<S.length:=by have:=of_decide_eq_true hc4;omega
     refine aA<|ae<|aG<|ae<|wq 12 rfl rfl<|ji 3<|cK (vC (s:=(k+q)) f7 rfl rfl (⟨by omega,by omega⟩) (by omega) rfl) ?_
     refine cK (cD (us:=aw (S.getD (k+q) dPt)) cn rfl rfl ((jX (e:=dPt) (O:=Y) bi (by omega)).trans (congrArg aw (hC.get (by omega)))) (bi _) rfl) ?_
     refine ji 2<|cK (bF (((q-1:Nat):Int)) ((aS (by omega) (by omega)).trans (congrArg some (by omega))) rfl)<|cK (vC (s:=(k+q-1)) f7 rfl rfl (⟨by omega,by omega⟩) (by omega) rfl) ?_
     refine cK (cD (us:=aw (S.getD (k+q-1) dPt)) cn rfl rfl ((jX (e:=dPt) (O:=Y) bi (by omega)).trans (congrArg aw (hC.get (by omega)))) (bi _) rfl) ?_
     refine cK (dg rfl (zW (GP.getD hS (k+q)) (GP.getD hS (k+q-1))))<|Gm<|iC<|bt ?_
     refine aP rfl (fun hc5=>?_) (fun hc5=>?_)
     ·have g4:cP (S.getD (k+q) dPt) (S.getD (k+q-1) dPt)≠0:=by simpa using hc5
      obtain⟨n1,n2⟩:=hC.new g3 g4
      refine ae<|bq<|bH 4<|aO (vC (s:=(k+q)) f7 rfl rfl (⟨by omega,by omega⟩) (by omega) rfl) ?_
      refine aO (cD (us:=aw (S.getD (k+q) dPt)) cn rfl rfl ((jX (e:=dPt) (O:=Y) bi (by omega)).trans (congrArg aw (hC.get (by omega)))) (bi _) rfl) ?_
      refine aO (bE f7 rfl rfl (by omega) rfl) ?_
      refine jk (br (us:=(aW aw (Y.set (bO S (k+q)).length (S.getD (k+q) dPt)))++rs) cn rfl rfl rfl (bi _) (by rw[d6,a7 bi];omega) (xc bi (by omega) _) rfl) ?_
      refine bt<|ah<|ar (bF ((((bO S (k+q)).length+1:Nat):Int)) ((aT (by omega) (by omega)).trans (congrArg some (by omega))) rfl)<|ah<|ar (dZ (by omega) rfl) ?_
      exact⟨⟨(q+1,_),by show 1≤q+1;omega,n1⟩,ap ⟨rfl,rfl,congrArg (fun q=>some (DV.v (.c (.i .i64 ((q:Nat):Int))))) n2.symm,rfl,rfl,trivial⟩ ⟨rfl,trivial⟩ rfl,by show S.length-(k+(q+1))<S.length-(k+q);omega⟩
     ·have g4:cP (S.getD (k+q) dPt) (S.getD (k+q-1) dPt)=0:=by simpa using hc5
      obtain⟨n1,n2⟩:=hC.old g3 g4
      refine aA<|ah<|ar (dZ (by omega) rfl) ?_
      exact⟨⟨(q+1,Y),by show 1≤q+1;omega,n1⟩,ap ⟨rfl,rfl,congrArg (fun q=>some (DV.v (.c (.i .i64 ((List.length q:Nat):Int))))) n2.symm,rfl,rfl,trivial⟩ ⟨rfl,trivial⟩ rfl,by show S.length-(k+(q+1))<S.length-(k+q);omega⟩
    ·have hm:k+q=S.length:=by have:=of_decide_eq_false hc4;omega
     refine bV<|ae<|ah<|ar (y6 (q:=(((bO S (k+q)).length:Int)).toNat) f7 rfl rfl (by omega) (by omega) rfl) ?_
     refine r9 (E5 (cs':=aW aw (bO S (k+q))++(zQs (S.length-(bO S (k+q)).length)++rs)) kj rfl rfl (by rw[d6,a7 bi];omega) (hC.clr) rfl) ?_
     refine ae<|ah<|ar (we (q:=(((bO S (k+q)).length:Int)).toNat) f7 rfl rfl (by omega) rfl) ?_
     refine ba ?_
     rw[show bO S S.length=bO S (k+q) from by rw[hm]]
     exact⟨.inr rfl,rfl,4,rfl,rfl⟩
   ·have g2:cP (S.getD k dPt) (S.getD (k-1) dPt)≠0:=by simpa using hc3
    refine aA<|ah<|ar (dZ (by omega) rfl) ?_
    exact⟨⟨k+1,by omega,g1,fun i hi=>(jY (i+1) k).elim (hk3 i) fun e=>by rw[show i+1=k from by omega,show i=k-1 from by omega];exact g2⟩,ap (bo rfl) ⟨rfl,trivial⟩ rfl,by show S.length-(k+1)<S.length-k;omega⟩
  ·have hk:k=S.length:=by have:=of_decide_eq_false hc2;omega
   have hN: ∀i,i+1<S.length→cP (S.getD (i+1) dPt) (S.getD i dPt)≠0:=fun i hi=>hk3 i (by omega)
   refine bV<|ae<|ah<|ba ?_
   rw[OG hN,Nat.sub_self]
   exact⟨.inr rfl,rfl,4,rfl,rfl⟩
theorem adH:Ok Tryz.prog 219 [.a (aZ c),.c (.s 0 [])] [.c (.s 0 [])]:=by
 refine eo Tryz.func219 12 [.tmp 4] rfl<|ae<|ah<|ae<|ah<|ac rfl (adZ)<|ae<|kW (t:=2) (k:=2) rfl rfl<|ah<|ar (pT (us:=[.p (aZ c)]) rfl rfl) ?_
 refine ac rfl (ZT)<|ae<|ah<|ac rfl ((show Ok _ _ _ [.c (.s 0 [])] from adm (S:=[]) (fun p h=>by cases h) (iW _) (fun i h=>by cases h)))<|ba ?_
 exact ai (ak ag)
theorem mZ (hp:0≤p.c) (hq:0≤q.c) (h:cP p q=0):cP q p=0:=by rw[fS hp hq,h];rfl
theorem AR {r:Pt}(hp:0≤p.c) (hq:0≤q.c) (hr:0≤r.c) (h:cP p q=0) (g:cP q r=0):cP p r=0:=by
 obtain⟨g1,g2⟩:=eH.1 g
 exact eH.2 ⟨(xl hp hq h hr).trans g1,(Cg hp hq h hr).trans g2⟩
def jG (c:Cv) (L:List Pt):List Pt:=(bO (bp dPt (bL c) L) L.length).filter (jJ c)
section
variable {k:Ci}{w:Bool}{f t:Pt}(vc:CvV (.arc k w f t))
include vc
theorem Jr (hM:M.Pairwise fun p q=>(Cv.arc k w f t).ord p q<0) (hI: ∀x∈M,OnK k x∧(Cv.arc k w f t).inner x=true):(f::(M++[t])).Pairwise (fun p q=>(Cv.arc k w f t).ord p q<0)∧ ∀p∈f::(M++[t]),OnK k p:=by
 have of:=(Ef vc).1
 have ot:=(Ef vc).2
 have hon: ∀x,(Cv.arc k w f t).on x=true→OnK k x→(Cv.arc k w f t).ord x t≤0:=fun x hx ox=>(CZ.1 hx).2.2
 refine⟨List.pairwise_cons.2 ⟨fun x hx=>?_,yl.2 ⟨hM,CT _ _,fun x hx y hy=>?_⟩⟩,fun x hx=>?_⟩
 ·rcases pj.1 hx with hx|hx
  ·exact Kl vc of (hI x hx).1 (y5 of (hI x hx).1) (kS.1 (hI x hx).2).2.1
  ·rw[nC.1 hx];exact Kl vc of ot (y5 of ot) vc.ne
 ·rw[nC.1 hy]
  exact Kl vc (hI x hx).1 ot (hon x (Tc (hI x hx).2) (hI x hx).1) (RZ vc.g (hI x hx).1.1 (hI x hx).2).2
 ·rcases d8.1 hx with rfl|hx
  ·exact of
  ·rcases pj.1 hx with hx|hx
   ·exact(hI x hx).1
   ·rw[nC.1 hx];exact ot
theorem Nn (hM:M.Pairwise fun p q=>(Cv.arc k w f t).ord p q<0) (hI: ∀x∈M,OnK k x∧(Cv.arc k w f t).inner x=true):qR (.arc k w f t) ([f,t]++M)=f::(M++[t]):=by
 have of:=(Ef vc).1
 obtain⟨h1,h2⟩:=Jr vc hM hI
 have hTL:(f::(M++[t])).Perm ([f,t]++M):=List.Perm.cons f List.perm_append_comm
 have hLon: ∀y∈ [f,t]++M,OnK k y:=fun y hy=>h2 y (hTL.mem_iff.2 hy)
 obtain⟨g1,g2⟩:=AV (k:=k) (w:=w) (f:=f) (t:=t) vc.pos of hLon
 have hne: ∀ {a b:Pt},OnK k a→OnK k b→(Cv.arc k w f t).ord a b<0→cP a b≠0:=fun oa ob h=>sF vc.g oa.1 ob.1 h
 have hself: ∀x,OnK k x→ ¬(Cv.arc k w f t).ord x x<0:=fun x ox h=>hne ox ox h (mh (aU ox))
 have pw:(f::(M++[t])).Pairwise fun a b=>cP a b≠0:=uE (fun{a b} ha hb h=>hne (h2 a ha) (h2 b hb) h) h1
 have same:=Mk (fun a ha b hb e=>mZ (aU (h2 a ha)) (aU (h2 b hb)) e) pw
 have nd: ∀ {L:List Pt},(∀y∈L,OnK k y)→L.Pairwise (fun p q=>(Cv.arc k w f t).ord p q<0)→L.Nodup:=fun ho hs=>uE (fun{a b} ha _ hab e=>by subst e;exact hself a (ho a ha) hab) hs
 have hm: ∀z∈qR (.arc k w f t) ([f,t]++M),z∈f::(M++[t]):=fun z hz=>hTL.mem_iff.2 (nS hz)
 refine CH (fun a ha b hb g g3=>?_) ((List.perm_ext_iff_of_nodup (nd (fun y hy=>h2 y (hm y hy)) g1) (nd h2 h1)).2 fun z=>⟨hm z,fun hz=>?_⟩) g1 h1
 ·have:=j7 (w:=w) (t:=t) of (h2 a (hm a ha)) (h2 b (hm b hb))
  omega
 ·obtain⟨y,hy,e⟩:=g2 z (hTL.mem_iff.1 hz)
  rw[←same y (hm y hy) z hz e];exact hy
section
variable {L:List Pt}(hL: ∀p∈L,GP p∧(Cv.arc k w f t).on p=true)
include hL
theorem BS:(jG (.arc k w f t) L).Pairwise (fun p q=>(Cv.arc k w f t).ord p q<0)∧(∀x∈jG (.arc k w f t) L,(OnK k x∧(Cv.arc k w f t).inner x=true)∧x∈L)∧ ∀x∈L,(∃y∈jG (.arc k w f t) L,cP y x=0)∨cP f x=0∨cP t x=0:=by
 have of:=(Ef vc).1
 have ot:=(Ef vc).2
 have hp:=jl (e:=dPt) (C:=bL (.arc k w f t)) L
 have hlen:=fV (e:=dPt) (C:=bL (.arc k w f t)) L
 have oL: ∀x∈L,OnK k x:=fun x hx=>Az (hL x hx).1 (hL x hx).2
 have heq: ∀x∈L,∀y∈L,bL (.arc k w f t) x y=(Cv.arc k w f t).ord x y:=fun x hx y hy=>Wm vc rfl (hL x hx).1 (hL y hy).1 (hL x hx).2 (hL y hy).2
 have hs:=wU (e:=dPt) (C:=bL (.arc k w f t)) (G:=fun p=>p∈L) (fun x y hx hy=>by
  rw[heq x hx y hy,heq y hy x hx];exact j7 of (oL x hx) (oL y hy)) (fun x y z hx hy hz h1 h2=>by
  rw[heq x hx y hy] at h1
  rw[heq y hy z hz] at h2
  rw[heq x hx z hz]
  exact ID (uG of (oL x hx) (oL y hy) (oL z hz)) h1 h2) L (O:=[]) (fun y hy=>hy) (fun y hy=>by cases hy) .nil
 have hs:(bp dPt (bL (.arc k w f t)) L).Pairwise fun a b=>(Cv.arc k w f t).ord a b≤0:=uE (fun{a b} ha hb g=>by rw[←heq a (hp.mem_iff.1 ha) b (hp.mem_iff.1 hb)];exact g) hs
 have oS: ∀x∈bp dPt (bL (.arc k w f t)) L,OnK k x:=fun x hx=>oL x (hp.mem_iff.1 hx)
 have hn:L.length≤(bp dPt (bL (.arc k w f t)) L).length:=by omega
 have hd:=QH (C:=(Cv.arc k w f t).ord) (G:=OnK k) (fun x y hx hy=>j7 of hx hy) (fun x y z hx hy hz h1 h2=>ID (uG of hx hy hz) h1 h2) (fun x y hx hy e=>mZ (aU hx) (aU hy) (vY vc.pos of hx hy e)) oS hs hn
 have mL: ∀x∈bO (bp dPt (bL (.arc k w f t)) L) L.length,x∈L:=fun x hx=>hp.mem_iff.1 (IZ hn hx)
 have nz: ∀ {a b:Pt},OnK k a→OnK k b→(!(cP a b==0))=true→cP b a≠0:=fun oa ob h e=>by
  rw[mZ (aU ob) (aU oa) e] at h;cases h
 refine⟨List.Pairwise.filter _ hd,fun x hx=>?_,fun x hx=>?_⟩
 ·obtain⟨h1,h2⟩:=mG.1 hx
  have hxL:=mL x h1
  unfold jJ at h2
  rw[di] at h2
  exact⟨⟨oL x hxL,kS.2 ⟨(hL x hxL).2,nz (oL x hxL) of h2.1,nz (oL x hxL) ot h2.2⟩⟩,hxL⟩
 ·obtain⟨i,hi,e⟩:=List.mem_iff_getElem.1 (hp.mem_iff.2 hx)
  obtain⟨y,hy,e2⟩:=QM (S:=bp dPt (bL (.arc k w f t)) L) (fun p h=>aU (oS p h)) hn (show i<L.length by omega)
  rw[show(bp dPt (bL (.arc k w f t)) L).getD i dPt=x from by rw[List.getD,gE hi];exact e] at e2
  have oy:=oL y (mL y hy)
  cases g:jJ (.arc k w f t) y with
  |true=>exact .inl ⟨y,mG.2 ⟨hy,g⟩,e2⟩
  |false=>
   unfold jJ at g
   have ox:=oL x hx
   cases g1:cP y f==0 with
   |true=>
    have z:cP y f=0:=beq_iff_eq.1 g1
    exact .inr (.inl (AR (aU of) (aU oy) (aU ox) (mZ (aU oy) (aU of) z) e2))
   |false=>
    have z:cP y t=0:=by
     have g:(!(cP y f==0)&& !(cP y t==0))=false:=g
     rw[g1] at g
     simpa using g
    exact .inr (.inr (AR (aU ot) (aU oy) (aU ox) (mZ (aU oy) (aU ot) z) e2))
theorem xZ:uj (.arc k w f t) (jG (.arc k w f t) L)=nh (.arc k w f t) (jG (.arc k w f t) L):=by
 obtain⟨h1,h2,_⟩:=BS vc hL
 show kH _ (f::(jG (.arc k w f t) L++[t]))=kH _ (qR (.arc k w f t) ([f,t]++jG (.arc k w f t) L))
 rw[Nn vc h1 fun x hx=>(h2 x hx).1]
theorem Wb (hL': ∀p∈L',GP p∧(Cv.arc k w f t).on p=true) (h12: ∀x∈L,∃y∈L',cP x y=0) (h21: ∀y∈L',∃x∈L,cP y x=0):
 ∃T T':List Pt,uj (.arc k w f t) (jG (.arc k w f t) L)=kH (.arc k w f t) T∧nh (.arc k w f t) L'=kH (.arc k w f t) T'∧T.length=T'.length∧2≤T.length∧T.length≤L.length+2∧(∀i,i<T.length→cP (T.getD i dPt) (T'.getD i dPt)=0)∧
  (∀x∈T,OnK k x)∧(∀x∈T',OnK k x)∧T.Pairwise (fun p q=>(Cv.arc k w f t).ord p q<0)∧T'.Pairwise (fun p q=>(Cv.arc k w f t).ord p q<0)∧T.getD 0 dPt=f∧T.getD (T.length-1) dPt=t:=by
 have of:=(Ef vc).1
 have ot:=(Ef vc).2
 obtain⟨h1,h2,h3⟩:=BS vc hL
 obtain⟨s1,s2⟩:=Jr vc h1 fun x hx=>(h2 x hx).1
 have oL': ∀y∈ [f,t]++L',OnK k y:=fun y hy=>by
  rcases pj.1 hy with hy|hy
  ·simp only[d8,rO,or_false] at hy
   rcases hy with rfl|rfl<;>assumption
  ·exact Az (hL' y hy).1 (hL' y hy).2
 obtain⟨g1,g2⟩:=AV (k:=k) (w:=w) (f:=f) (t:=t) vc.pos of oL'
 have o2: ∀y∈qR (.arc k w f t) ([f,t]++L'),OnK k y:=fun y hy=>oL' y (nS hy)
 have z0: ∀ {a b:Pt},OnK k a→OnK k b→cP a b=0→(Cv.arc k w f t).ord a b=0:=fun oa ob h=>vq (aU oa) (aU ob) h vc.g
 have hlen:(f::(jG (.arc k w f t) L++[t])).length=(jG (.arc k w f t) L).length+2:=by simp
 have hle:(jG (.arc k w f t) L).length≤L.length:=nF (sC _ _) y9
 have k1: ∀a∈f::(jG (.arc k w f t) L++[t]),∃b∈qR (.arc k w f t) ([f,t]++L'),(Cv.arc k w f t).ord a b=0:=by
  intro a ha
  have oa:=s2 a ha
  have fnd: ∀y∈ [f,t]++L',cP a y=0→ ∃b∈qR (.arc k w f t) ([f,t]++L'),(Cv.arc k w f t).ord a b=0:=fun y hy e=>by
   obtain⟨z,hz,e3⟩:=g2 y hy
   have oy:=oL' y hy
   have oz:=o2 z hz
   exact⟨z,hz,z0 oa oz (AR (aU oa) (aU oy) (aU oz) e (mZ (aU oz) (aU oy) e3))⟩
  rcases d8.1 ha with rfl|ha
  ·exact fnd a (by simp) (mh (aU oa))
  ·rcases pj.1 ha with ha|ha
   ·obtain⟨y,hy,e⟩:=h12 a (h2 a ha).2
    exact fnd y (by simp[hy]) e
   ·rw[nC.1 ha] at fnd⊢
    exact fnd t (by simp) (mh (aU ot))
 have k2: ∀b∈qR (.arc k w f t) ([f,t]++L'),∃a∈f::(jG (.arc k w f t) L++[t]),(Cv.arc k w f t).ord a b=0:=by
  intro b hb
  have ob:=o2 b hb
  have inT: ∀x∈f::(jG (.arc k w f t) L++[t]),cP x b=0→ ∃a∈f::(jG (.arc k w f t) L++[t]),(Cv.arc k w f t).ord a b=0:=fun x hx e=>⟨x,hx,z0 (s2 x hx) ob e⟩
  rcases pj.1 (nS hb) with hb2|hb2
  ·simp only[d8,rO,or_false] at hb2
   rcases hb2 with rfl|rfl
   ·exact inT b (by simp) (mh (aU ob))
   ·exact inT b (by simp) (mh (aU ob))
  ·obtain⟨x,hx,e⟩:=h21 b hb2
   have ox:=Az (hL x hx).1 (hL x hx).2
   have e':=mZ (aU ob) (aU ox) e
   rcases h3 x hx with⟨y,hy,ey⟩|ey|ey
   ·exact inT y (by simp[hy]) (AR (aU (h2 y hy).1.1) (aU ox) (aU ob) ey e')
   ·exact inT f (by simp) (AR (aU of) (aU ox) (aU ob) ey e')
   ·exact inT t (by simp) (AR (aU ot) (aU ox) (aU ob) ey e')
 obtain⟨e1,e2⟩:=Lg (e:=dPt) (C:=(Cv.arc k w f t).ord) (G:=OnK k) (fun x y hx hy=>j7 of hx hy) (fun x y z hx hy hz h1 h2=>ID (uG of hx hy hz) h1 h2) s2 o2 s1 g1 k1 k2
 refine⟨f::(jG (.arc k w f t) L++[t]),qR (.arc k w f t) ([f,t]++L'),rfl,rfl,e1,by omega,by omega,fun i hi=>?_,s2,o2,s1,g1,rfl,?_⟩
 ·exact vY vc.pos of (s2 _ (bX hi)) (o2 _ (bX (by omega))) (e2 i hi)
 ·rw[hlen,show(jG (.arc k w f t) L).length+2-1=(jG (.arc k w f t) L).length+1 from by omega]
  simp[List.getD]
end
end
theorem GD (c:Cv): ∀ {T:List Pt}{i:Nat},i+1<T.length→(kH c T).getD i bY=c.ends (T.getD i dPt) (T.getD (i+1) dPt)
 |p::q::l,0,_=>rfl
 |p::q::l,i+1,h=>GD c (T:=q::l) (by simpa using h)
 |[_],i,h=>by simp at h
 |[],i,h=>by simp at h
theorem aca (vc:CvV c) (ha:c.isArc=true) (hG: ∀p∈L,GP p) (lL:L.length≤12) (hl:0<L.length):Ok Tryz.prog 219 [.a (aZ c),.c (.s ((L).length) (aW aw (L)))] [.c (.s ((bO (bp dPt (bL c) L) L.length).length) (aW aw (bO (bp dPt (bL c) L) L.length)))]:=by
 have hS: ∀p∈(bp dPt (bL c) L),GP p:=fun p h=>hG p ((jl _).mem_iff.1 h)
 have lS:(bp dPt (bL c) L).length≤12:=by rw[fV];exact lL
 have lD:(bO (bp dPt (bL c) L) L.length).length≤L.length:=y9
 refine eo Tryz.func219 12 [.tmp 4] rfl<|ae<|ah<|ae<|bq<|bH 1 ?_
 refine Ao rfl rfl (adB hl lL) rfl rfl (fun cg1 rg1 hga1 hgb1 hgc1=>?_)
 refine gi<|ae<|kW (t:=2) (k:=2) rfl rfl<|ah<|ar (pT (us:=[.p (aZ c)]) rfl rfl) ?_
 refine DL.mk<|tE (kU rfl rfl rfl rfl rfl (aaP vc ha hl lL hG) rfl)<|fa ?_
 refine ae<|bq<|bH 1<|Ht rfl rfl rfl rfl rfl ((by have h9:=adY (S:=(bp dPt (bL c) L)) (c9:=cg1) (rs:=rg1) hS lS (by rw[fV];exact hga1);rw[fV] at h9;exact h9)) rfl ?_
 refine gi<|d7 (t:=4) (m:=20) (us:=aW aw (bO (bp dPt (bL c) L) L.length)) rfl rfl (pf (n:=(bO (bp dPt (bL c) L) L.length).length) (a7 bi _) (by rw[d6,TJ];omega) (by omega)) (by omega) (by assumption) (lq (a7 bi _))<|ba ?_
 exact ai (ak ag)
theorem adM (vc:CvV c) (ha:c.isArc=true) (hG: ∀p∈L,GP p) (lL:L.length≤12):Ok Tryz.prog 219 [.a (aZ c),.c (.s ((L).length) (aW aw (L)))] [.c (.s ((bO (bp dPt (bL c) L) L.length).length) (aW aw (bO (bp dPt (bL c) L) L.length)))]:=by
 rcases li L.length with h|h
 ·obtain rfl:=nJ.1 h
  exact adH
 ·exact aca vc ha hG lL h
theorem Yn (vc:CvV c) (ha:c.isArc=true) (hG: ∀p∈L,GP p) (lL:L.length≤12) (hon: ∀p∈L,c.on p=true):OkN Tryz.prog 124 [.a (aZ c),.c (.s ((L).length) (aW aw (L)))] 49 ((uj c (jG c L)).length) 66 (aW aZ (uj c (jG c L))) [.c (.i .i64 0)]:=by
 have hD: ∀p∈(bO (bp dPt (bL c) L) L.length),GP p:=fun p h=>hG p ((jl _).mem_iff.1 (IZ (by rw[fV];exact ck _) h))
 have lD:(bO (bp dPt (bL c) L) L.length).length≤L.length:=y9
 refine OkN.of (by kernel_rfl) Tryz.func124 rfl rfl ?_
 rw[show Tryz.f124.ntmps=47 from rfl]
 refine ae<|bq<|bH 1<|aO (fE rfl) ?_
 refine gi<|ae<|ae<|kW (t:=2) (k:=2) rfl rfl<|ah<|ar (pT (us:=[.p (aZ c)]) rfl rfl) ?_
 refine ac rfl (adS vc ha hG lL hon)<|bh rfl<|aA<|ae<|bq<|aO (fE rfl) ?_
 refine bt<|ae<|ah<|ar (mH (us:=aZ c) cG rfl (kZ (qe (ao _))) (ao _) rfl) ?_
 refine r9 (dN cG rfl rfl rfl (ao _) rfl rfl) ?_
 refine ae<|ae<|ah<|ar (mH (us:=aZ c) cG rfl (kZ (qe (ao _))) (ao _) rfl) ?_
 refine ac rfl (adM vc ha hG lL) ?_
 refine aG ?_
 refine bv (ι:=Sum ({n:Nat // n≤(bO (bp dPt (bL c) L) L.length).length∧(Ap c (bO (bp dPt (bL c) L) L.length) n)=[]}) ({x9:Nat×Nat×List CellD // x9.1≤(bO (bp dPt (bL c) L) L.length).length∧(Ap c (bO (bp dPt (bL c) L) L.length) x9.1).length≤x9.2.1∧x9.2.1≤maxLen∧x9.2.2.length=(x9.2.1-(Ap c (bO (bp dPt (bL c) L) L.length) x9.1).length)*66})) (fun i=>match i with| .inl i=>⟨47,[(2,.v (.c (.p (aZ c)))),(7,.p 7 0),(17,.v (.c (.s ((bO (bp dPt (bL c) L) L.length).length) (aW aw (bO (bp dPt (bL c) L) L.length))))),(6,.z),(18,.v (.c (.i .i64 (((bO (bp dPt (bL c) L) L.length).length:Int))))),(19,.v (.c (.i .i64 (i.1:Int))))],[(7,49,aZ ((c.ends (xJ c (bO (bp dPt (bL c) L) L.length) i.1) c.q)))]⟩| .inr i=>⟨47,[(2,.v (.c (.p (aZ c)))),(7,.p 7 0),(17,.v (.c (.s ((bO (bp dPt (bL c) L) L.length).length) (aW aw (bO (bp dPt (bL c) L) L.length))))),(6,.o 41 ((Ap c (bO (bp dPt (bL c) L) L.length) i.1.1).length) i.1.2.1),(18,.v (.c (.i .i64 (((bO (bp dPt (bL c) L) L.length).length:Int))))),(19,.v (.c (.i .i64 (i.1.1:Int))))],[(7,49,aZ ((c.ends (xJ c (bO (bp dPt (bL c) L) L.length) i.1.1) c.q))),(41,49,aW aZ (G7 c (bO (bp dPt (bL c) L) L.length) i.1.1)++i.1.2.2)]⟩) (fun i=>match i with| .inl i=>(bO (bp dPt (bL c) L) L.length).length-i.1| .inr i=>(bO (bp dPt (bL c) L) L.length).length-i.1.1) (.inl ⟨0,iW _,WV⟩) (ap (bo rfl) ⟨congrArg (fun q=>some (49,aZ q)) (by rw[ac1,NC]),trivial⟩ rfl) ?_
 rintro(⟨n,h2,h3⟩|⟨⟨n,c9,rs⟩,h2,h3,h4,h5⟩)
 ·replace h2:n≤(bO (bp dPt (bL c) L) L.length).length:=h2
  replace h3:(Ap c (bO (bp dPt (bL c) L) L.length) n)=[]:=h3
  dsimp only
  refine ae<|ah<|ae ?_
  refine aP rfl (fun hc1=>?_) (fun hc1=>?_)
  ·have g1:n<(bO (bp dPt (bL c) L) L.length).length:=by have:=of_decide_eq_true hc1;omega
   have hx:=hD _ (bX (d:=dPt) g1)
   refine aA<|ae<|aG<|ae<|ah<|ar (vf dPt bi g1 f7 rfl)<|ar (ve bi cn rfl)<|ae<|ae<|ah ?_
   refine ar (ub QJ rfl rfl rfl) ?_
   refine ar (dM (us:=aw c.p) cn rfl (sj _) rfl rfl) ?_
   refine ac rfl (zW hx (kO vc.g)) ?_
   refine lg (bJ rfl) (fun c2 hb2=>?_)
   cases c2
   ·refine ar (ub Kk rfl rfl rfl) ?_
    refine ar (dM (us:=aw c.q) cn rfl (wj _) rfl rfl) ?_
    refine ac rfl (zW hx (tK vc.g)) ?_
    refine aP rfl (fun hc3=>?_) (fun hc3=>?_)
    ·have g2:jJ c ((bO (bp dPt (bL c) L) L.length).getD n dPt)=false:=(Gv hb2).trans (by rw[hc3];rfl)
     refine bV<|ah<|ar (dZ (by omega) rfl) ?_
     exact⟨.inl ⟨n+1,g1,by rw[r5 g1 g2];exact h3⟩,ap (bo rfl) ⟨congrArg (fun q=>some (49,aZ (c.ends q c.q))) (Gh g1 g2).symm,trivial⟩ rfl,by show(bO (bp dPt (bL c) L) L.length).length-(n+1)<(bO (bp dPt (bL c) L) L.length).length-n;omega⟩
    ·have g2:jJ c ((bO (bp dPt (bL c) L) L.length).getD n dPt)=true:=(Gv hb2).trans (by rw[hc3];rfl)
     refine aA<|ae<|ah ?_
     refine ar (pM (ao _) cG rfl) ?_
     refine r9 (dN cG rfl rfl rfl (ao _) rfl rfl) ?_
     refine ae<|cX 6 [10,7,999999] ?_
     refine DQ.mk<|jE (br (us:=aZ (((c.ends (xJ c (bO (bp dPt (bL c) L) L.length) n) c.q)).ends ((c.ends (xJ c (bO (bp dPt (bL c) L) L.length) n) c.q)).p ((((bO (bp dPt (bL c) L) L.length).getD n dPt))))) cn rfl rfl rfl rfl (by rw[ao];decide) (Fc _ _) rfl) rfl rfl rfl rfl<|dP ?_
     refine DQ.mk<|jE (br (us:=aZ (((c.ends (xJ c (bO (bp dPt (bL c) L) L.length) n) c.q)).setp ((((bO (bp dPt (bL c) L) L.length).getD n dPt))))) cn rfl rfl rfl rfl (by rw[ao];decide) (EU _ _) rfl) rfl rfl rfl rfl<|dP ?_
     refine ah ?_
     refine ar (pM (ao _) cG rfl) ?_
     refine ar (bW (n:=1) (us:=aZ (((c.ends (xJ c (bO (bp dPt (bL c) L) L.length) n) c.q)).ends ((c.ends (xJ c (bO (bp dPt (bL c) L) L.length) n) c.q)).p ((((bO (bp dPt (bL c) L) L.length).getD n dPt))))) xH rfl (Fm rfl (ao _)) (jH (ao _)) (by decide) (by decide) rfl) ?_
     refine DL.mk<|lv (ys:=aZ (((c.ends (xJ c (bO (bp dPt (bL c) L) L.length) n) c.q)).ends ((c.ends (xJ c (bO (bp dPt (bL c) L) L.length) n) c.q)).p ((((bO (bp dPt (bL c) L) L.length).getD n dPt))))) xH rfl rfl (jH (ao _)) (by decide) (by decide) (by decide) rfl rfl (fun cg4 rg4 hga4 hgb4 hgc4=>fa ?_)
     refine ah<|ar (dZ (by omega) rfl) ?_
     exact⟨.inr ⟨⟨n+1,cg4,rg4⟩,g1,by show(Ap c (bO (bp dPt (bL c) L) L.length) (n+1)).length≤cg4;rw[qT g1 g2,h3];exact hga4,hgb4,by show rg4.length=(cg4-(Ap c (bO (bp dPt (bL c) L) L.length) (n+1)).length)*66;rw[qT g1 g2,h3];exact hgc4⟩,ap ⟨rfl,rfl,rfl,congrArg (fun q=>some (DV.o 41 q cg4)) (by rw[qT g1 g2,h3];rfl),rfl,rfl,trivial⟩ ⟨congrArg (fun q=>some (49,aZ q)) (by rw[EY,LJ g1 g2]),congrArg (fun q=>some (49,q++rg4)) (by rw[Lz g1 g2,ii,iH,EJ,show(G7 c (bO (bp dPt (bL c) L) L.length) n)=[] from by unfold G7;rw[h3];rfl];rfl),trivial⟩ rfl,by show(bO (bp dPt (bL c) L) L.length).length-(n+1)<(bO (bp dPt (bL c) L) L.length).length-n;omega⟩
   ·have g2:jJ c ((bO (bp dPt (bL c) L) L.length).getD n dPt)=false:=Td hb2
    refine cz rfl<|bV<|ah<|ar (dZ (by omega) rfl) ?_
    exact⟨.inl ⟨n+1,g1,by rw[r5 g1 g2];exact h3⟩,ap (bo rfl) ⟨congrArg (fun q=>some (49,aZ (c.ends q c.q))) (Gh g1 g2).symm,trivial⟩ rfl,by show(bO (bp dPt (bL c) L) L.length).length-(n+1)<(bO (bp dPt (bL c) L) L.length).length-n;omega⟩
  ·have hp:n=(bO (bp dPt (bL c) L) L.length).length:=by have:=of_decide_eq_false hc1;omega
   have hO:(G7 c (bO (bp dPt (bL c) L) L.length) n)=[]:=by unfold G7;rw[h3];rfl
   have eC:(uj c (jG c L))=[c.ends (xJ c (bO (bp dPt (bL c) L) L.length) n) c.q]:=by show uj c ((bO (bp dPt (bL c) L) L.length).filter (jJ c))=_;rw[GV,←hp,hO];rfl
   have eN:(uj c (jG c L)).length=1:=by rw[eC];rfl
   refine bV<|ae<|ah ?_
   refine ar (pM (ao _) cG rfl) ?_
   refine ar (bW (n:=1) (us:=aZ ((c.ends (xJ c (bO (bp dPt (bL c) L) L.length) n) c.q))) xH rfl (Fm rfl (ao _)) (jH (ao _)) (by decide) (by decide) rfl) ?_
   refine DL.mk<|lv (ys:=aZ ((c.ends (xJ c (bO (bp dPt (bL c) L) L.length) n) c.q))) xH rfl rfl (jH (ao _)) (by decide) (by decide) (by decide) rfl rfl (fun cg5 rg5 hga5 hgb5 hgc5=>fa ?_)
   refine ba ?_
   exact⟨.inr rfl,4,46,cg5,[.tmp 5],rg5,rfl,congrArg (fun q=>some (DV.o 46 q cg5)) (eN.symm),congrArg (fun q=>some (49,q++rg5)) (by rw[eC,iH]),by omega,by assumption,by rw[eN];assumption,(ak ag)⟩
 ·dsimp only at h2 h3 h4 h5
  have h6:(Ap c (bO (bp dPt (bL c) L) L.length) n).length≤12:=nF (sC _ _) (by rw[gX];omega)
  dsimp only
  refine ae<|ah<|ae ?_
  refine aP rfl (fun hc6=>?_) (fun hc6=>?_)
  ·have g1:n<(bO (bp dPt (bL c) L) L.length).length:=by have:=of_decide_eq_true hc6;omega
   have hx:=hD _ (bX (d:=dPt) g1)
   refine aA<|ae<|aG<|ae<|ah<|ar (vf dPt bi g1 f7 rfl)<|ar (ve bi cn rfl)<|ae<|ae<|ah ?_
   refine ar (ub QJ rfl rfl rfl) ?_
   refine ar (dM (us:=aw c.p) cn rfl (sj _) rfl rfl) ?_
   refine ac rfl (zW hx (kO vc.g)) ?_
   refine lg (bJ rfl) (fun c7 hb7=>?_)
   cases c7
   ·refine ar (ub Kk rfl rfl rfl) ?_
    refine ar (dM (us:=aw c.q) cn rfl (wj _) rfl rfl) ?_
    refine ac rfl (zW hx (tK vc.g)) ?_
    refine aP rfl (fun hc8=>?_) (fun hc8=>?_)
    ·have g2:jJ c ((bO (bp dPt (bL c) L) L.length).getD n dPt)=false:=(Gv hb7).trans (by rw[hc8];rfl)
     refine bV<|ah<|ar (dZ (by omega) rfl) ?_
     exact⟨.inr ⟨⟨n+1,c9,rs⟩,g1,by show(Ap c (bO (bp dPt (bL c) L) L.length) (n+1)).length≤c9;rw[r5 g1 g2];exact h3,h4,by show rs.length=(c9-(Ap c (bO (bp dPt (bL c) L) L.length) (n+1)).length)*66;rw[r5 g1 g2];exact h5⟩,ap ⟨rfl,rfl,rfl,congrArg (fun q=>some (DV.o 41 (List.length q) c9)) (r5 g1 g2).symm,rfl,rfl,trivial⟩ ⟨congrArg (fun q=>some (49,aZ (c.ends q c.q))) (Gh g1 g2).symm,congrArg (fun q=>some (49,aW aZ q++rs)) (RP g1 g2).symm,trivial⟩ rfl,by show(bO (bp dPt (bL c) L) L.length).length-(n+1)<(bO (bp dPt (bL c) L) L.length).length-n;omega⟩
    ·have g2:jJ c ((bO (bp dPt (bL c) L) L.length).getD n dPt)=true:=(Gv hb7).trans (by rw[hc8];rfl)
     refine aA<|ae<|ah ?_
     refine ar (pM (ao _) cG rfl) ?_
     refine r9 (dN cG rfl rfl rfl (ao _) rfl rfl) ?_
     refine ae<|cX 6 [10,7,999999] ?_
     refine DQ.mk<|jE (br (us:=aZ (((c.ends (xJ c (bO (bp dPt (bL c) L) L.length) n) c.q)).ends ((c.ends (xJ c (bO (bp dPt (bL c) L) L.length) n) c.q)).p ((((bO (bp dPt (bL c) L) L.length).getD n dPt))))) cn rfl rfl rfl rfl (by rw[ao];decide) (Fc _ _) rfl) rfl rfl rfl rfl<|dP ?_
     refine DQ.mk<|jE (br (us:=aZ (((c.ends (xJ c (bO (bp dPt (bL c) L) L.length) n) c.q)).setp ((((bO (bp dPt (bL c) L) L.length).getD n dPt))))) cn rfl rfl rfl rfl (by rw[ao];decide) (EU _ _) rfl) rfl rfl rfl rfl<|dP ?_
     refine ah ?_
     refine ar (pM (ao _) cG rfl) ?_
     refine ar (bW (n:=1) (us:=aZ (((c.ends (xJ c (bO (bp dPt (bL c) L) L.length) n) c.q)).ends ((c.ends (xJ c (bO (bp dPt (bL c) L) L.length) n) c.q)).p ((((bO (bp dPt (bL c) L) L.length).getD n dPt))))) xH rfl (Fm rfl (ao _)) (jH (ao _)) (by decide) (by decide) rfl) ?_
     refine DL.mk<|kQ (us:=aW aZ (G7 c (bO (bp dPt (bL c) L) L.length) n)) (rest:=rs) (ys:=aZ (((c.ends (xJ c (bO (bp dPt (bL c) L) L.length) n) c.q)).ends ((c.ends (xJ c (bO (bp dPt (bL c) L) L.length) n) c.q)).p ((((bO (bp dPt (bL c) L) L.length).getD n dPt))))) xH rfl rfl rfl ((a7 ao _).trans (by rw[FB])) (by assumption) (jH (ao _)) (by decide) (by omega) (by assumption) (by omega) (oD (by omega)) (.inl rfl) rfl (fun cg9 rg9 hga9 hgb9 hgc9=>fa ?_)
     refine ah<|ar (dZ (by omega) rfl) ?_
     exact⟨.inr ⟨⟨n+1,cg9,rg9⟩,g1,by show(Ap c (bO (bp dPt (bL c) L) L.length) (n+1)).length≤cg9;rw[qT g1 g2,d6];exact hga9,hgb9,by show rg9.length=(cg9-(Ap c (bO (bp dPt (bL c) L) L.length) (n+1)).length)*66;rw[qT g1 g2,d6];exact hgc9⟩,ap ⟨rfl,rfl,rfl,congrArg (fun q=>some (DV.o 41 q cg9)) (by rw[qT g1 g2,d6];rfl),rfl,rfl,trivial⟩ ⟨congrArg (fun q=>some (49,aZ q)) (by rw[EY,LJ g1 g2]),congrArg (fun q=>some (49,q++rg9)) (by rw[Lz g1 g2,ii,iH,EJ]),trivial⟩ rfl,by show(bO (bp dPt (bL c) L) L.length).length-(n+1)<(bO (bp dPt (bL c) L) L.length).length-n;omega⟩
   ·have g2:jJ c ((bO (bp dPt (bL c) L) L.length).getD n dPt)=false:=Td hb7
    refine cz rfl<|bV<|ah<|ar (dZ (by omega) rfl) ?_
    exact⟨.inr ⟨⟨n+1,c9,rs⟩,g1,by show(Ap c (bO (bp dPt (bL c) L) L.length) (n+1)).length≤c9;rw[r5 g1 g2];exact h3,h4,by show rs.length=(c9-(Ap c (bO (bp dPt (bL c) L) L.length) (n+1)).length)*66;rw[r5 g1 g2];exact h5⟩,ap ⟨rfl,rfl,rfl,congrArg (fun q=>some (DV.o 41 (List.length q) c9)) (r5 g1 g2).symm,rfl,rfl,trivial⟩ ⟨congrArg (fun q=>some (49,aZ (c.ends q c.q))) (Gh g1 g2).symm,congrArg (fun q=>some (49,aW aZ q++rs)) (RP g1 g2).symm,trivial⟩ rfl,by show(bO (bp dPt (bL c) L) L.length).length-(n+1)<(bO (bp dPt (bL c) L) L.length).length-n;omega⟩
  ·have hp:n=(bO (bp dPt (bL c) L) L.length).length:=by have:=of_decide_eq_false hc6;omega
   have eN:(uj c (jG c L)).length=(Ap c (bO (bp dPt (bL c) L) L.length) n).length+1:=by show(uj c ((bO (bp dPt (bL c) L) L.length).filter (jJ c))).length=_;rw[GV,←hp,d6,FB];rfl
   have eC:aW aZ (G7 c (bO (bp dPt (bL c) L) L.length) n)++aZ (c.ends (xJ c (bO (bp dPt (bL c) L) L.length) n) c.q)=aW aZ (uj c (jG c L)):=by show _=aW aZ (uj c ((bO (bp dPt (bL c) L) L.length).filter (jJ c)));rw[GV,←hp,ii,iH]
   refine bV<|ae<|ah ?_
   refine ar (pM (ao _) cG rfl) ?_
   refine ar (bW (n:=1) (us:=aZ ((c.ends (xJ c (bO (bp dPt (bL c) L) L.length) n) c.q))) xH rfl (Fm rfl (ao _)) (jH (ao _)) (by decide) (by decide) rfl) ?_
   refine DL.mk<|kQ (us:=aW aZ (G7 c (bO (bp dPt (bL c) L) L.length) n)) (rest:=rs) (ys:=aZ ((c.ends (xJ c (bO (bp dPt (bL c) L) L.length) n) c.q))) xH rfl rfl rfl ((a7 ao _).trans (by rw[FB])) (by assumption) (jH (ao _)) (by decide) (by omega) (by assumption) (by omega) (oD (by omega)) (.inr rfl) rfl (fun cg10 rg10 hga10 hgb10 hgc10=>fa ?_)
   refine ba ?_
   exact⟨.inr rfl,4,46,cg10,[.tmp 5],rg10,rfl,congrArg (fun q=>some (DV.o 46 q cg10)) (eN.symm),congrArg (fun q=>some (49,q++rg10)) (eC),by omega,by assumption,by rw[eN];assumption,(ak ag)⟩
theorem Ys:Ok Tryz.prog 214 [] [.a (([.b false]++(cR 0++cR 0++cR 0)++(cR 0++cR 0++cR 0)++[.b false]++zP5++zP5))]:=by
 refine eo Tryz.func214 12 [.cell 0 49] rfl<|ae<|ah<|ae<|ah<|ac rfl ((show Ok Tryz.prog 70 [.c (.i .i64 0)] [dR 0] from ig (by decide) (by decide)))<|ae<|bq<|bH 3<|aO (aF (us:=(cR 0++cR 0++cR 0)) acK Zm rfl rfl rfl) ?_
 refine bH 3<|aO (aF (us:=(cR 0++cR 0++cR 0)) OM NF rfl rfl rfl) ?_
 refine aO (aF (us:=([.b false]++(cR 0++cR 0++cR 0)++(cR 0++cR 0++cR 0)++[.b false]++zP5++zP5)) abY OE rfl rfl rfl) ?_
 refine gi<|ba ?_
 exact ai (mw (us:=([.b false]++(cR 0++cR 0++cR 0)++(cR 0++cR 0++cR 0)++[.b false]++zP5++zP5)) cG rfl rfl (by kernel_rfl) (by kernel_rfl) ag)
theorem UN (hk:GK k) (h0:0<k.q):Ok Tryz.prog 122 [.a (bT k)] [.c (.s 2 (aW (Xp (cR 0++cR 0++cR 0)) (bz k)))]:=by
 refine eo Tryz.func122 26 [.tmp 2] rfl<|ae<|ah<|ae<|ah ?_
 refine ac rfl (W1 hk h0) ?_
 refine ae<|wq 7 rfl rfl<|cK (dg rfl (Ys))<|cK (Ky (off:=1) (n:=12) (us:=(cR 0++cR 0++cR 0)) (by kernel_rfl) rfl rfl rfl) ?_
 refine ji 3<|cK (aF (us:=([.b true]++(cR 0++cR 0++cR 0)++bT k++[.b false]++aw (mi k)++aw (lX k))) abY OE rfl rfl rfl) ?_
 refine AU (jc OE rfl) rfl<|wd<|At<|gi<|ae<|ah ?_
 refine ar (j5 cG rfl) ?_
 refine r9 (eQ cG rfl)<|ae<|cX 4 [6,999999] ?_
 refine DQ.mk<|jE (br (us:=([.b true]++(cR 0++cR 0++cR 0)++bT k++[.b false]++aw (lX k)++aw (lX k))) cn rfl rfl rfl rfl (gj (by kernel_rfl)) (by kernel_rfl) rfl) rfl rfl rfl rfl<|dP ?_
 refine r9 (br (us:=([.b true]++(cR 0++cR 0++cR 0)++bT k++[.b false]++aw (lX k)++aw (mi k))) cn rfl rfl rfl rfl (gj (by kernel_rfl)) (by kernel_rfl) rfl) ?_
 refine ae<|ah ?_
 refine ar (j5 cG rfl) ?_
 refine ar (j5 cG rfl) ?_
 refine ar (bW (n:=2) (us:=([.b true]++(cR 0++cR 0++cR 0)++bT k++[.b false]++aw (mi k)++aw (lX k))++([.b true]++(cR 0++cR 0++cR 0)++bT k++[.b false]++aw (lX k)++aw (mi k))) xH rfl (by kernel_rfl) (by kernel_rfl) (by decide) (by decide) rfl) ?_
 refine ba ?_
 exact ai (ak ag)
theorem Yg (hk:GK k) (h0:0<k.q):Ok Tryz.prog 122 [.a (bT k)] [.c (.s ((bz k).length) (aW aZ (bz k)))]:=(UN hk h0).wks ((wkA rfl _ _ _ _).app ((wkA rfl _ _ _ _).app .nil))
theorem Y6 (vc:CvV c):Ok Tryz.prog 224 [.a (aZ c)] [.a (aZ c.rev)]:=by
 cases c with
 |seg l f t=>exact aal vc.g.1 vc.g.2.1 vc.g.2.2
 |arc k w f t=>exact Qr vc.g.1 vc.g.2.1 vc.g.2.2
theorem Zp:OkS Tryz.prog 243 49 1 c9 (aW aZ [e]++rs) (aW aZ [e]++rs) [.c (.i .i64 0),.c (.i .i64 1),.c (.f 226)]:=by
 refine OkS.of (K:=100000) (by kernel_rfl) Tryz.func243 rfl rfl rfl rfl ?_
 rw[show Tryz.f243.ntmps=53 from rfl]
 refine ae<|ah<|ar (er (r:=1) rfl rfl rfl rfl) ?_
 refine aG ?_
 refine bv (ι:=Nat) (fun i=>match i with|_=>⟨53,[(0,.o 100000 1 c9),(1,.v (.c (.i .i64 0))),(2,.v (.c (.i .i64 1))),(3,.v (.c (.f 226))),(8,.v (.c (.i .i64 1)))],[(100000,49,aW aZ [e]++rs)]⟩) (fun i=>0-i) 0 (ap (bo rfl) ⟨rfl,trivial⟩ rfl) ?_
 intro i
 match i with
 |_=>
  show Dw _ _ ⟨53,[(0,.o 100000 1 c9),(1,.v (.c (.i .i64 0))),(2,.v (.c (.i .i64 1))),(3,.v (.c (.f 226))),(8,.v (.c (.i .i64 1)))],[(100000,49,aW aZ [e]++rs)]⟩ _
  refine ae<|ae<|ah<|bh rfl<|bV ?_
  exact⟨.inl rfl,rfl⟩
theorem X2:OkS Tryz.prog 311 49 1 c9 (aW aZ [e]++rs) (aW aZ [e]++rs) [.c (.i .i64 1),.c (.f 226)]:=by
 refine OkS.of (K:=100000) (by kernel_rfl) Tryz.func311 rfl rfl rfl rfl ?_
 rw[show Tryz.f311.ntmps=63 from rfl]
 refine ae<|ah<|ae<|ah<|ae<|aG ?_
 refine bv (ι:=Nat) (fun i=>match i with|_=>⟨63,[(0,.o 100000 1 c9),(1,.v (.c (.i .i64 1))),(2,.v (.c (.f 226))),(6,.v (.c (.i .i64 20))),(7,.v (.c (.i .i64 0))),(8,.v (.c (.i .i64 20)))],[(100000,49,aW aZ [e]++rs)]⟩) (fun i=>0-i) 0 (ap (bo rfl) ⟨rfl,trivial⟩ rfl) ?_
 intro i
 match i with
 |_=>
  show Dw _ _ ⟨63,[(0,.o 100000 1 c9),(1,.v (.c (.i .i64 1))),(2,.v (.c (.f 226))),(6,.v (.c (.i .i64 20))),(7,.v (.c (.i .i64 0))),(8,.v (.c (.i .i64 20)))],[(100000,49,aW aZ [e]++rs)]⟩ _
  refine ae<|ae<|ah<|bh rfl<|bV<|ae<|ah ?_
  refine DL.mk<|tE (kU rfl rfl rfl rfl rfl (Zp) rfl)<|fa ?_
  refine aG ?_
  refine bv (ι:=Nat) (fun i=>match i with|_=>⟨63,[(0,.o 100000 1 c9),(1,.v (.c (.i .i64 1))),(2,.v (.c (.f 226))),(6,.v (.c (.i .i64 20))),(7,.v (.c (.i .i64 0))),(8,.v (.c (.i .i64 20)))],[(100000,49,aW aZ [e]++rs)]⟩) (fun i=>0-i) 0 (ap (bo rfl) ⟨rfl,trivial⟩ rfl) ?_
  intro i
  match i with
  |_=>
   show Dw _ _ ⟨63,[(0,.o 100000 1 c9),(1,.v (.c (.i .i64 1))),(2,.v (.c (.f 226))),(6,.v (.c (.i .i64 20))),(7,.v (.c (.i .i64 0))),(8,.v (.c (.i .i64 20)))],[(100000,49,aW aZ [e]++rs)]⟩ _
   refine ae<|ae<|ah<|bh rfl<|bV ?_
   exact⟨.inl rfl,rfl⟩
theorem Ye:OkS Tryz.prog 225 49 1 c9 (aW aZ [e]++rs) (aW aZ [e]++rs) [.c (.f 226)]:=by
 refine OkS.of (K:=100000) (by kernel_rfl) Tryz.func225 rfl rfl rfl rfl ?_
 rw[show Tryz.f225.ntmps=9 from rfl]
 refine ah<|ar (jm qN rfl rfl) ?_
 refine DL.mk<|tE (kU rfl rfl rfl rfl rfl (X2) rfl)<|fa ?_
 exact⟨.inl rfl,rfl⟩
theorem acg (vc:CvV (.arc k false f t)) (ea:(Cv.arc k false f t).inner (mi k)=false) (eb:(Cv.arc k false f t).inner (lX k)=false):Ok Tryz.prog 125 [.a (([.b true]++rx++bT k++[.b false]++aw f++aw t))] [.c (.s (([(Cv.arc k false f t).fwd]).length) (aW aZ ([(Cv.arc k false f t).fwd])))]:=by
 have vR: ∀d∈([(Cv.arc k false f t)]:List Cv),CvV d:=fun d hd=>by rw[nC.1 hd];exact vc
 have lM:(([(Cv.arc k false f t)]:List Cv).map Cv.fwd).length=([(Cv.arc k false f t)]:List Cv).length:=rfl
 have hk:=vc.g.1
 have hf:=vc.g.2.1
 have ht:=vc.g.2.2
 have gL:=r7 hk vc.pos
 have gR:=rR hk vc.pos
 have z2:(Xg++Xg).length=(2-0)*20:=rfl
 have hm2:2≤maxLen:=by decide
 refine eo Tryz.func125 57 [.tmp 2] rfl<|ae<|ah<|ae<|ah ?_
 refine ar (j5 cG rfl) ?_
 refine DL.mk<|qa (qA (us:=([.b true]++rx++bT k++[.b false]++aw f++aw t)) xH rfl rfl (by decide) (by decide) rfl) rfl<|fa ?_
 refine pr (ι:={x9:Nat×List CellD //([(Cv.arc k false f t)]:List Cv).length≤x9.1∧x9.1≤maxLen∧x9.2.length=(x9.1-([(Cv.arc k false f t)]:List Cv).length)*66}) (fun i=>⟨57,[(3,.o 29 (([(Cv.arc k false f t)]:List Cv).length) i.1.1)],[(29,49,aW aZ ([(Cv.arc k false f t)]:List Cv)++i.1.2)]⟩) ?_ ?_
 ·refine ae<|ah ?_
  refine ar (lp sK rfl) ?_
  refine cz rfl<|ae<|ah ?_
  refine ar (fv (bT k) AX rfl (by kernel_rfl)) ?_
  refine ac rfl (W1 hk vc.pos) ?_
  refine ae<|kW (t:=1) (k:=1) rfl rfl<|bq<|bH 2 ?_
  refine qa (qA (us:=aw (mi k)++aw (lX k)) kj rfl rfl (by decide) (by decide) rfl) rfl ?_
  refine aO (pT (us:=[.p (([.b true]++rx++bT k++[.b false]++aw f++aw t))]) rfl rfl) ?_
  refine Ht rfl rfl rfl rfl rfl (abJ (c:=(Cv.arc k false f t)) vc rfl gL gR ea eb) rfl<|gi<|ae ?_
  refine d7 (t:=6) (m:=20) (us:=([]:List CellD)) rfl rfl (pf (n:=0) (by first|exact a7 ao _|rfl) (by assumption) (by omega)) (by omega) (by assumption) (lq (by first|exact a7 ao _|rfl)) ?_
  refine bq<|aO (mH (us:=([.b true]++rx++bT k++[.b false]++aw f++aw t)) cG rfl rfl rfl rfl) ?_
  refine bH 1 ?_
  refine Ao rfl rfl ((show OkN _ _ [.a (aZ (Cv.arc k false f t)),.c (.s 0 [])] _ _ _ _ _ from Yn (c:=(Cv.arc k false f t)) (L:=[]) vc rfl (fun p h=>by cases h) (iW _) (fun p h=>by cases h))) rfl rfl (fun cg1 rg1 hga1 hgb1 hgc1=>?_)
  refine bH 1<|aO (CF rfl rfl) ?_
  refine aO (CU rfl rfl rfl) ?_
  refine gi<|ae<|ah<|cz rfl<|ah ?_
  exact⟨⟨⟨cg1,rg1⟩,hga1,hgb1,hgc1⟩,ap ⟨rfl,trivial⟩ ⟨rfl,trivial⟩ rfl⟩
 ·rintro⟨⟨c9,rs⟩,h1,h2,h3⟩
  dsimp only at h1 h2 h3
  dsimp only
  refine ae<|ae<|ah<|ar (jm qN rfl rfl) ?_
  refine aG<|bv (ι:={n:Nat // n≤([(Cv.arc k false f t)]:List Cv).length}) (fun i=>⟨57,[(3,.o 29 (([(Cv.arc k false f t)]:List Cv).length) c9),(35,.o 29 (([(Cv.arc k false f t)]:List Cv).length) c9),(36,.v (.c (.i .i64 ((([(Cv.arc k false f t)]:List Cv).length:Int))))),(37,.v (.c (.i .i64 (i.1:Int))))],[(29,49,aW aZ (JD ([(Cv.arc k false f t)]:List Cv) i.1)++rs)]⟩) (fun i=>([(Cv.arc k false f t)]:List Cv).length-i.1) ⟨0,iW _⟩ (ap (bo rfl) ⟨congrArg (fun q=>some (49,aW aZ q++rs)) (abe.symm),trivial⟩ rfl) ?_
  rintro⟨n,h4⟩
  replace h4:n≤([(Cv.arc k false f t)]:List Cv).length:=h4
  dsimp only
  refine ae<|ah<|ae ?_
  refine aP rfl (fun hc2=>?_) (fun hc2=>?_)
  ·have g1:n<([(Cv.arc k false f t)]:List Cv).length:=by have:=of_decide_eq_true hc2;omega
   have n1:n<1:=g1
   have hX:CvV (([(Cv.arc k false f t)]:List Cv).getD n bY):=vR _ (bX g1)
   refine aA<|ae<|aG<|ae<|bq<|bH 1<|aO (bE qN rfl rfl (by omega) rfl) ?_
   refine aO (cD (us:=aZ (([(Cv.arc k false f t)]:List Cv).getD n bY)) cG rfl rfl ((jX (e:=bY) (O:=(JD ([(Cv.arc k false f t)]:List Cv) n)) ao (by rw[zG h4];exact g1)).trans (congrArg aZ (O8 g1))) (ao _) rfl) ?_
   refine rQ (jc OE rfl) rfl<|bH 1<|jk (dN cG rfl rfl rfl (ao _) rfl rfl) ?_
   refine bt<|ae<|ah ?_
   refine ar (cD (us:=aw ((([(Cv.arc k false f t)]:List Cv).getD n bY)).p) cn rfl rfl (sj _) rfl rfl) ?_
   refine ar (cD (us:=aw ((([(Cv.arc k false f t)]:List Cv).getD n bY)).q) cn rfl rfl (wj _) rfl rfl) ?_
   refine ac rfl (S4 (kO hX.g) (tK hX.g)) ?_
   refine aP rfl (fun hc3=>?_) (fun hc3=>?_)
   ·have m2:=In hc3
    refine bq<|bH 2<|aO (pM (ao _) cG rfl)<|aO (dg rfl ((show Ok _ _ [.a (aZ (([(Cv.arc k false f t)]:List Cv).getD n bY))] [.a (aZ (([(Cv.arc k false f t)]:List Cv).getD n bY).rev)] from Y6 hX)))<|aO (bE qN rfl rfl (by omega) rfl) ?_
    refine jk (br (us:=aW aZ ((JD ([(Cv.arc k false f t)]:List Cv) n).set n (([(Cv.arc k false f t)]:List Cv).getD n bY).rev)++rs) cG rfl rfl rfl (ao _) (by rw[d6,a7 ao,zG h4];omega) (xc ao (by rw[zG h4];exact g1) _) rfl) ?_
    refine bt<|ah<|ar (dZ (by omega) rfl) ?_
    exact⟨⟨n+1,g1⟩,ap (bo rfl) ⟨congrArg (fun q=>some (49,aW aZ q++rs)) (by rw[←M2 g1,m2]),trivial⟩ rfl,by show([(Cv.arc k false f t)]:List Cv).length-(n+1)<([(Cv.arc k false f t)]:List Cv).length-n;omega⟩
   ·have m2:=Jw hc3
    refine aA<|ah<|ar (dZ (by omega) rfl) ?_
    exact⟨⟨n+1,g1⟩,ap (bo rfl) ⟨congrArg (fun q=>some (49,aW aZ q++rs)) (OX g1 m2),trivial⟩ rfl,by show([(Cv.arc k false f t)]:List Cv).length-(n+1)<([(Cv.arc k false f t)]:List Cv).length-n;omega⟩
  ·have hp:n=1:=by have:=of_decide_eq_false hc2;have h4:n≤1:=h4;have h5: ¬(n:Int)<((1:Nat):Int):=this;omega
   have h3m:rs.length=(c9-(([(Cv.arc k false f t)]:List Cv).map Cv.fwd).length)*66:=h3
   refine nH (σ':=⟨57,[(3,.o 29 ((([(Cv.arc k false f t)]:List Cv).map Cv.fwd).length) c9)],[(29,49,aW aZ (([(Cv.arc k false f t)]:List Cv).map Cv.fwd)++rs)]⟩) (ap ⟨rfl,trivial⟩ ⟨congrArg (fun q=>some (49,aW aZ q++rs)) (by rw[hp];exact Wd (R:=([(Cv.arc k false f t)]:List Cv))),trivial⟩ rfl) ?_
   refine bV<|ae<|ah ?_
   refine DL.mk<|tE (kU rfl rfl rfl rfl rfl (Ye (e:=(Cv.arc k false f t).fwd)) rfl)<|fa ?_
   refine ae<|ah ?_
   refine d7 (t:=2) (m:=66) (us:=aW aZ (([(Cv.arc k false f t)]:List Cv).map Cv.fwd)) rfl rfl (pf (n:=(([(Cv.arc k false f t)]:List Cv).map Cv.fwd).length) (by first|exact a7 ao _|rfl) (by assumption) (by omega)) (by omega) (by assumption) (lq (by first|exact a7 ao _|rfl)) ?_
   refine ba ?_
   exact ai (ak ag)
theorem adn (hp:GP p) (hx:Rz 148000 x):Ok Tryz.prog 139 [.a ((cR p.a1++cR p.b1++cR (zc p.b1 p.c))),.a ((cR x++cR 0++cR 0))] [.c (.i .i64 (lu p x))]:=
 cb (mu (hp.a1.mono (by decide)) (hp.b1.mono (by decide)) (Rz.zc (hp.c.mono (by decide)) (by decide)) (hx.mono (by decide)) (dW (by decide)) (dW (by decide)) ((hp.a1.sub hx).mono (by decide)) (lk (cg hp)) tQ) (Cn (lk (cg hp)))
theorem ada (hp:GP p) (hx:Rz 148000 x):Ok Tryz.prog 139 [.a ((cR x++cR 0++cR 0)),.a ((cR p.a1++cR p.b1++cR (zc p.b1 p.c)))] [.c (.i .i64 (-lu p x))]:=
 cb (mu (hx.mono (by decide)) (dW (by decide)) (dW (by decide)) (hp.a1.mono (by decide)) (hp.b1.mono (by decide)) (Rz.zc (hp.c.mono (by decide)) (by decide)) ((hx.sub hp.a1).mono (by decide)) tQ (lk (cg hp))) (by
  rw[nL tQ (lk (cg hp)),nG (cg hp),←bG]
  exact congrArg aB (aM fun n=>by unfold pX xG az;simp only[aD,aj,aE,aK,aV];grind))
theorem Aj (hc:c.good) (hx:Rz 148000 x):Ok Tryz.prog 232 [.a (aZ c),.a ((cR x++cR 0++cR 0))] [.c (.b (kY c x))]:=by
 refine b9 Tryz.func232 rfl<|dF 15 [] ?_
 refine aq (cD (us:=aw c.p) cn rfl rfl (sj _) rfl rfl) ?_
 refine aI rfl (qz) ?_
 refine aI rfl (adn (kO hc) hx) ?_
 refine D5 (bJ rfl) (fun c1 hb1=>?_)
 cases c1
 ·refine ai ?_
  rw[show kY c x=false from by unfold kY;rw[hb1];rfl]
  exact ak ag
 ·refine aq (cD (us:=aw c.q) cn rfl rfl (wj _) rfl rfl) ?_
  refine aI rfl (qz)<|aI rfl (ada (tK hc) hx)<|ai ?_
  rw[show kY c x=decide (-lu c.q x≤0) from by unfold kY;rw[hb1];rfl]
  exact ak ag
theorem rd (hk:GK k) (hx:Rz 148000 x):Rz 300000 (iB k x):=(hk.q.sub ((hx.sub hk.x).mul (hx.sub hk.x))).mono (by decide)
theorem Z3 (vc:CvV (Cv.seg l f t)) (hx:Rz 148000 x) (hb:yn (Cv.seg l f t) x=false):Ok Tryz.prog 128 [.a (([.b false]++oW l++w9++[.b false]++aw f++aw t)),dR x] [.a (w9),.c (.i .i64 1)]:=by
 have hf:=vc.g.2.1
 have ht:=vc.g.2.2
 have hl:=vc.g.1
 have hB:=hb
 rw[l6] at hB
 refine b9 Tryz.func128 rfl<|dF 9 [] ?_
 refine aq (j5 cG rfl) ?_
 refine aI rfl (MY hl hf ht) ?_
 refine D5 (bJ rfl) (fun c1 hb1=>?_)
 cases c1
 ·refine aq (j5 cG rfl) ?_
  refine aI rfl (gP) ?_
  refine aI rfl (Aj (c:=(Cv.seg l f t)) vc.g (hx.m_)) ?_
  refine dS rfl (fun hc2=>?_) (fun hc2=>?_)
  ·refine ar (aF (us:=w9) nA lW rfl rfl rfl) ?_
   exact ai (bj d9 rfl (ak ag))
  ·exact absurd hB (by rw[show(Cv.seg l f t).vert=false from hb1,show kY (Cv.seg l f t) x=true from by simpa using hc2];decide)
 ·refine lr rfl<|ar (aF (us:=w9) nA lW rfl rfl rfl) ?_
  exact ai (bj d9 rfl (ak ag))
theorem ZC (vc:CvV (Cv.seg l f t)) (hx:Rz 148000 x) (hb:yn (Cv.seg l f t) x=true):Ok Tryz.prog 128 [.a (([.b false]++oW l++w9++[.b false]++aw f++aw t)),dR x] [.a ((cR ((l.c-l.a*x)/l.b)++cR 0++cR 0)),.c (.i .i64 0)]:=by
 have hf:=vc.g.2.1
 have ht:=vc.g.2.2
 have hl:=vc.g.1
 have hB:=hb
 rw[l6] at hB
 refine b9 Tryz.func128 rfl<|dF 9 [] ?_
 refine aq (j5 cG rfl) ?_
 refine aI rfl (MY hl hf ht) ?_
 refine D5 (bJ rfl) (fun c1 hb1=>?_)
 cases c1
 ·refine aq (j5 cG rfl) ?_
  refine aI rfl (gP) ?_
  refine aI rfl (Aj (c:=(Cv.seg l f t)) vc.g (hx.m_)) ?_
  refine dS rfl (fun hc2=>?_) (fun hc2=>?_)
  ·exact absurd hB (by rw[show kY (Cv.seg l f t) x=false from by simpa using hc2,mX];decide)
  ·have hv:cx f t≠0:=fun e=>absurd (show(Cv.seg l f t).vert=false from hb1) (by show ¬(cx f t==0)=false;rw[e];decide)
   have hb0:l.b≠0:=fun e=>hv ((J6 hl hf ht (by have:=vc.sp;simpa [Cv.supp,Cv.p] using this) (by have:=vc.sq;simpa [Cv.supp,Cv.q] using this) vc.ne).2 e)
   refine ar (lp sK rfl)<|lr rfl<|dF 19 [6,999999] ?_
   refine aq (fv (cR l.c) bU rfl (by kernel_rfl)) ?_
   refine aq (fv (cR l.a) bU rfl (by kernel_rfl)) ?_
   refine aI rfl (cT (bk (hl.a)) (bk hx)) ?_
   refine aI rfl (fj (bk (hl.c)) (bk (a8 (hl.a) hx))) ?_
   refine aq (fv (cR l.b) bU rfl (by kernel_rfl)) ?_
   refine aI rfl (qB ((hl.c.sub (hl.a.mul hx)).m_) (hl.b.m_) hb0) ?_
   refine DQ.mk<|gD (eQ bU rfl) rfl rfl rfl rfl<|dP ?_
   refine ac rfl (gP) ?_
   exact ai (bj d9 rfl (ak ag))
 ·exact absurd hB (by rw[show(Cv.seg l f t).vert=true from hb1];exact Bool.false_ne_true)
theorem Zy (vc:CvV (Cv.arc k w f t)) (hx:Rz 148000 x) (hb:yn (Cv.arc k w f t) x=false):Ok Tryz.prog 128 [.a (([.b true]++rx++bT k++[.b w]++aw f++aw t)),dR x] [.a (w9),.c (.i .i64 1)]:=by
 have hf:=vc.g.2.1
 have ht:=vc.g.2.2
 have hk:=vc.g.1
 have hB:=hb
 rw[l6] at hB
 refine b9 Tryz.func128 rfl<|dF 9 [] ?_
 refine aq (j5 cG rfl) ?_
 refine aI rfl ((show Ok _ _ _ [.c (.b false)] from GO hk hf ht)) ?_
 refine aq (bJ rfl) ?_
 refine aq (j5 cG rfl) ?_
 refine aI rfl (gP) ?_
 refine aI rfl (Aj (c:=(Cv.arc k w f t)) vc.g (hx.m_)) ?_
 refine dS rfl (fun hc1=>?_) (fun hc1=>?_)
 ·refine ar (aF (us:=w9) nA lW rfl rfl rfl) ?_
  exact ai (bj d9 rfl (ak ag))
 ·exact absurd hB (by rw[show(Cv.arc k w f t).vert=false from rfl,show kY (Cv.arc k w f t) x=true from by simpa using hc1];decide)
theorem Uz (vc:CvV (Cv.arc k w f t)) (hx:Rz 148000 x) (hb:yn (Cv.arc k w f t) x=true) (hs:kg (iB k x)=true):Ok Tryz.prog 128 [.a (([.b true]++rx++bT k++[.b w]++aw f++aw t)),dR x] [.a ((cR (k.y+sW w*rt (iB k x))++cR 0++cR 0)),.c (.i .i64 0)]:=by
 have hf:=vc.g.2.1
 have ht:=vc.g.2.2
 have hk:=vc.g.1
 have hB:=hb
 rw[l6] at hB
 have ofk:OnK k f:=⟨hf,bK.1 vc.sp⟩
 have otk:OnK k t:=⟨ht,bK.1 vc.sq⟩
 have hm0: ¬iB k x<0:=by
  have hb2:=hb
  unfold yn at hb2
  rw[di,di] at hb2
  have:=AT ofk otk (of_decide_eq_true hb2.2.1) (of_decide_eq_true hb2.2.2)
  grind
 refine b9 Tryz.func128 rfl<|dF 9 [] ?_
 refine aq (j5 cG rfl) ?_
 refine aI rfl ((show Ok _ _ _ [.c (.b false)] from GO hk hf ht)) ?_
 refine aq (bJ rfl) ?_
 refine aq (j5 cG rfl) ?_
 refine aI rfl (gP) ?_
 refine aI rfl (Aj (c:=(Cv.arc k w f t)) vc.g (hx.m_)) ?_
 refine dS rfl (fun hc1=>?_) (fun hc1=>?_)
 ·exact absurd hB (by rw[show kY (Cv.arc k w f t) x=false from by simpa using hc1,mX];decide)
 ·refine ar (lp sK rfl)<|qq rfl<|ar (fv (cR k.x) bU rfl (by kernel_rfl))<|ac rfl (fj (bk hx) (bk (hk.x)))<|ar (lp sK rfl) ?_
  refine dS rfl (fun hc2=>?_) (fun hc2=>?_)
  ·have e9:((1:Int):Rat)=sW w:=VK hc2
   refine dF 15 [] ?_
   refine aq (fv (cR k.y) bU rfl (by kernel_rfl)) ?_
   refine aI rfl (kJ (ig (by decide) (by decide)) e9) ?_
   refine aq (fv (cR k.q) bU rfl (by kernel_rfl)) ?_
   refine aI rfl (cT (bk (df hx (hk.x))) (bk (df hx (hk.x)))) ?_
   refine aI rfl (fj (bk (hk.q)) (bk (a8 (df hx (hk.x)) (df hx (hk.x))))) ?_
   refine aI rfl (wM (c:=iB k x) (hk.y.m_) ((xL w).m_) ((rd hk hx).m_) hm0 hs) ?_
   exact ai (bj d9 rfl (ak ag))
  ·have e9:((-1:Int):Rat)=sW w:=Tz hc2
   refine dF 15 [] ?_
   refine aq (fv (cR k.y) bU rfl (by kernel_rfl)) ?_
   refine aI rfl (kJ (ig (by decide) (by decide)) e9) ?_
   refine aq (fv (cR k.q) bU rfl (by kernel_rfl)) ?_
   refine aI rfl (cT (bk (df hx (hk.x))) (bk (df hx (hk.x)))) ?_
   refine aI rfl (fj (bk (hk.q)) (bk (a8 (df hx (hk.x)) (df hx (hk.x))))) ?_
   refine aI rfl (wM (c:=iB k x) (hk.y.m_) ((xL w).m_) ((rd hk hx).m_) hm0 hs) ?_
   exact ai (bj d9 rfl (ak ag))
theorem UF (vc:CvV (Cv.arc k w f t)) (hx:Rz 148000 x) (hb:yn (Cv.arc k w f t) x=true) (hs:kg (iB k x)=false):Ok Tryz.prog 128 [.a (([.b true]++rx++bT k++[.b w]++aw f++aw t)),dR x] [.a ((cR k.y++cR (sW w)++cR (zc (sW w) (iB k x)))),.c (.i .i64 0)]:=by
 have hf:=vc.g.2.1
 have ht:=vc.g.2.2
 have hk:=vc.g.1
 have hB:=hb
 rw[l6] at hB
 have ofk:OnK k f:=⟨hf,bK.1 vc.sp⟩
 have otk:OnK k t:=⟨ht,bK.1 vc.sq⟩
 have hm0: ¬iB k x<0:=by
  have hb2:=hb
  unfold yn at hb2
  rw[di,di] at hb2
  have:=AT ofk otk (of_decide_eq_true hb2.2.1) (of_decide_eq_true hb2.2.2)
  grind
 refine b9 Tryz.func128 rfl<|dF 9 [] ?_
 refine aq (j5 cG rfl) ?_
 refine aI rfl ((show Ok _ _ _ [.c (.b false)] from GO hk hf ht)) ?_
 refine aq (bJ rfl) ?_
 refine aq (j5 cG rfl) ?_
 refine aI rfl (gP) ?_
 refine aI rfl (Aj (c:=(Cv.arc k w f t)) vc.g (hx.m_)) ?_
 refine dS rfl (fun hc1=>?_) (fun hc1=>?_)
 ·exact absurd hB (by rw[show kY (Cv.arc k w f t) x=false from by simpa using hc1,mX];decide)
 ·refine ar (lp sK rfl)<|qq rfl<|ar (fv (cR k.x) bU rfl (by kernel_rfl))<|ac rfl (fj (bk hx) (bk (hk.x)))<|ar (lp sK rfl) ?_
  refine dS rfl (fun hc2=>?_) (fun hc2=>?_)
  ·have e9:((1:Int):Rat)=sW w:=VK hc2
   refine dF 15 [] ?_
   refine aq (fv (cR k.y) bU rfl (by kernel_rfl)) ?_
   refine aI rfl (kJ (ig (by decide) (by decide)) e9) ?_
   refine aq (fv (cR k.q) bU rfl (by kernel_rfl)) ?_
   refine aI rfl (cT (bk (df hx (hk.x))) (bk (df hx (hk.x)))) ?_
   refine aI rfl (fj (bk (hk.q)) (bk (a8 (df hx (hk.x)) (df hx (hk.x))))) ?_
   refine aI rfl (wV (c:=iB k x) (hk.y.m_) ((xL w).m_) ((rd hk hx).m_) hm0 hs) ?_
   exact ai (bj d9 rfl (ak ag))
  ·have e9:((-1:Int):Rat)=sW w:=Tz hc2
   refine dF 15 [] ?_
   refine aq (fv (cR k.y) bU rfl (by kernel_rfl)) ?_
   refine aI rfl (kJ (ig (by decide) (by decide)) e9) ?_
   refine aq (fv (cR k.q) bU rfl (by kernel_rfl)) ?_
   refine aI rfl (cT (bk (df hx (hk.x))) (bk (df hx (hk.x)))) ?_
   refine aI rfl (fj (bk (hk.q)) (bk (a8 (df hx (hk.x)) (df hx (hk.x))))) ?_
   refine aI rfl (wV (c:=iB k x) (hk.y.m_) ((xL w).m_) ((rd hk hx).m_) hm0 hs) ?_
   exact ai (bj d9 rfl (ak ag))
theorem aas (vc:CvV c) (hx:Rz 148000 x):Ok Tryz.prog 128 [.a (aZ c),dR x] (if yn c x then[.a (Xd c x),.c (.i .i64 0)] else[.a w9,.c (.i .i64 1)]):=by
 cases hb:yn c x with
 |false=>
  rw[if_neg (by decide)]
  cases c with
  |seg l f t=>exact Z3 vc hx hb
  |arc k w f t=>exact Zy vc hx hb
 |true=>
  rw[if_pos rfl]
  cases c with
  |seg l f t=>exact ZC vc hx hb
  |arc k w f t=>
   cases hs:kg (iB k x) with
   |true=>rw[RT hs];exact Uz vc hx hb hs
   |false=>rw[SP hs];exact UF vc hx hb hs
end Go.Proofs.YtegpmhlfjkhjmaaGreat
