/-A run on known values:operations on numbers,slices,structs that touch no memory. -/
import Derived.Test.YtacopbfkmnpfgaaGreatSpR
namespace Go.Proofs.YtacopbfkmnpfgaaGreat
open Go Go.RowKit
section
variable {P:Program}{ops:Array Oper}{o:Oper}{TT:TX}{m N:Nat}{L:LX}{T:Tr XV}{H:Tr Bx}{x:XV}
variable {N':Nat}{H':Tr Bx}{g:Lg}{call:eC}
variable {dst:Option Nat}{ty:TypeId}{pos:String}{af:Array Edge}{gd:Option (Nat×Bool)}
theorem Gr {k k':IntKind}(h:Nat.beq (kN k) (kN k')=true):k=k':=by
 have h:=Nat.eq_of_beq_eq_true h
 cases k<;>cases k'<;>simp[kN] at h<;>rfl
theorem gZ (x y:Int):nC x y=decide (x<y):=by
 unfold nC
 show @Int.rec (fun _=>Bool) (fun _=>false) (fun _=>true) (x-y)=_
 cases h:x-y with
 |ofNat n=>
  have:(Int.ofNat n)=(n:Int):=rfl
  show false=_
  symm;simp;omega
 |negSucc n=>
  have:Int.negSucc n<0:=Int.negSucc_lt_zero n
  show true=_
  symm;simp;omega
theorem rj (x y:Int):BD x y=(x==y):=by
 unfold BD
 show @Int.rec (fun _=>Bool) (fun n=>Nat.beq n 0) (fun _=>false) (x-y)=_
 cases h:x-y with
 |ofNat n=>
  have h:x-y=(n:Int):=h
  show Nat.beq n 0=_
  cases n with
  |zero=>
   have:x=y:=by omega
   subst this;simp
  |succ n=>
   have:x≠y:=by omega
   show false=_
   symm;simpa using this
 |negSucc n=>
  have:Int.negSucc n<0:=Int.negSucc_lt_zero n
  have:x≠y:=by omega
  show false=_
  symm;simpa using this
theorem H5 {op:BinOp}{f:IntKind→Int→Int→Option AV}(hf:Ho op=some f) {k:IntKind}{a b:Int}{r:AV}(hr:f k a b=some r) (xt:TypeId) (x y:Operand) (w:World) (A Z:Nat→Prop) (β:Nat→Pl):
 ∃v,(do eqGuard op xt x y (.int k a) (.int k b);binOp op xt (.int k a) (.int k b):Go.Sem Value).run P w=.ok v w∧RdA A Z w β v r:=by
 have hb: ∀ {b c:Bool},b=c→RdA A Z w β (.bool b) (.b c):=fun e=>by subst e;exact .b _
 cases op<;>simp[Ho] at hf<;>subst hf
 ·injection hr with hr;subst hr;rw[kr];exact⟨.int k (k.wrap (a+b)),by simp[eqGuard,binOp,Op.intArith],.i _ _⟩
 ·injection hr with hr;subst hr;rw[kr];exact⟨.int k (k.wrap (a-b)),by simp[eqGuard,binOp,Op.intArith],.i _ _⟩
 ·injection hr with hr;subst hr;rw[kr];exact⟨.int k (k.wrap (a*b)),by simp[eqGuard,binOp,Op.intArith],.i _ _⟩
 ·unfold Pk at hr
  rw[eP,rj] at hr
  split at hr
  ·cases hr
  ·rename_i h0
   injection hr with hr;subst hr;rw[kr]
   have h0:b≠0:=by simpa using h0
   exact⟨.int k (k.wrap (a.tdiv b)),by simp[eqGuard,binOp,Op.intDiv,h0],.i _ _⟩
 ·unfold Nz at hr
  rw[eP,rj] at hr
  split at hr
  ·cases hr
  ·rename_i h0
   injection hr with hr;subst hr
   have h0:b≠0:=by simpa using h0
   exact⟨.int k (a.tmod b),by simp[eqGuard,binOp,Op.intDiv,h0],.i _ _⟩
 ·injection hr with hr;subst hr;exact⟨_,by simp[eqGuard,binOp,Op.intBits],.i _ _⟩
 ·injection hr with hr;subst hr;exact⟨_,by simp[eqGuard,binOp,Op.intBits],.i _ _⟩
 ·injection hr with hr;subst hr;exact⟨_,by simp[eqGuard,binOp,Op.intBits],.i _ _⟩
 ·injection hr with hr;subst hr;exact⟨.bool (a==b),by simp[eqGuard,binOp,Op.intCmp],hb (rj a b).symm⟩
 ·injection hr with hr;subst hr;exact⟨.bool (a !=b),by simp[eqGuard,binOp,Op.intCmp],hb (by rw[eP,rj];cases h:(a==b)<;>simp[bne,h])⟩
 ·injection hr with hr;subst hr;exact⟨.bool (a<b),by simp[eqGuard,binOp,Op.intCmp],hb (gZ a b).symm⟩
 ·injection hr with hr;subst hr;exact⟨.bool (a≤b),by simp[eqGuard,binOp,Op.intCmp],hb (by rw[eP,gZ];by_cases h:b<a<;>simp[h]<;>omega)⟩
 ·injection hr with hr;subst hr;exact⟨.bool (a>b),by simp[eqGuard,binOp,Op.intCmp],hb (gZ b a).symm⟩
 ·injection hr with hr;subst hr;exact⟨.bool (a≥b),by simp[eqGuard,binOp,Op.intCmp],hb (by rw[eP,gZ];by_cases h:a<b<;>simp[h]<;>omega)⟩
theorem N8 (_hT:gz (TS m L T)) (hO:fC H) (hL:fF N H) {op:BinOp}{f:IntKind→Int→Int→Option AV}{xt yt:TypeId}{y z:Operand}{xo yo:XO}{x:XV}(hf:Ho op=some f) (h1:cO m y=some xo) (h2:cO m z=some yo)
 (h:JH f xo yo call L T N H=some (.mk x N' H' g)):ek P ops ⟨dst,.binOp op xt y z yt,ty,pos,af,gd⟩ (TS m L T) N H x N' H' g:=by
 obtain⟨v,hv,h⟩:=aK h
 obtain⟨v2,hv2,h⟩:=aK h
 obtain⟨k,a,q1,h⟩:=gN h
 obtain⟨k',b,q2,h⟩:=gN h
 subst q1 q2
 obtain⟨hk,h⟩:=bo h
 obtain⟨r,hr,h⟩:=aK h
 obtain⟨rfl,rfl,rfl,rfl⟩:=bO h
 have hk:=Gr hk
 subst hk
 refine bm hO hL trivial fun A Z w β ac ht=>?_
 have e1:ac.eval y=.int k a:=RdA.i_eq (aU (o:=⟨dst,.binOp op xt y z yt,ty,pos,af,gd⟩) (by simp[Op.operands]) h1 hv ht)
 have e2:ac.eval z=.int k b:=RdA.i_eq (aU (o:=⟨dst,.binOp op xt y z yt,ty,pos,af,gd⟩) (by simp[Op.operands]) h2 hv2 ht)
 obtain⟨v,hrun,hrd⟩:=H5 (P:=P) hf hr xt y z w A Z β
 refine⟨v,?_,hrd⟩
 show(do let r ←(do eqGuard op xt y z (ac.eval y) (ac.eval z);binOp op xt (ac.eval y) (ac.eval z):Go.Sem Value);pure (Next.value r):Go.Sem Next).run P w=_
 rw[e1,e2,Sem.run_bind,hrun]
 rfl
theorem Pi (_hT:gz (TS m L T)) (hO:fC H) (hL:fF N H) {op:BinOp}{f:IntKind→Int→Int→Option AV}{xt yt:TypeId}{y z:Operand}{xo yo:XO}{x:XV}(hf:KS op=some f) (h1:cO m y=some xo) (h2:cO m z=some yo)
 (h:JM f xo yo call L T N H=some (.mk x N' H' g)):ek P ops ⟨dst,.binOp op xt y z yt,ty,pos,af,gd⟩ (TS m L T) N H x N' H' g:=by
 obtain⟨v,hv,h⟩:=aK h
 obtain⟨v2,hv2,h⟩:=aK h
 obtain⟨k,a,q1,h⟩:=gN h
 obtain⟨k',b,q2,h⟩:=gN h
 subst q1 q2
 obtain⟨r,hr,h⟩:=aK h
 obtain⟨rfl,rfl,rfl,rfl⟩:=bO h
 refine bm hO hL trivial fun A Z w β ac ht=>?_
 have e1:ac.eval y=.int k a:=RdA.i_eq (aU (o:=⟨dst,.binOp op xt y z yt,ty,pos,af,gd⟩) (by simp[Op.operands]) h1 hv ht)
 have e2:ac.eval z=.int k' b:=RdA.i_eq (aU (o:=⟨dst,.binOp op xt y z yt,ty,pos,af,gd⟩) (by simp[Op.operands]) h2 hv2 ht)
 cases op<;>simp[KS] at hf<;>subst hf
 ·unfold OR at hr
  rw[eP,gZ] at hr
  split at hr
  ·cases hr
  ·rename_i h0
   injection hr with hr;subst hr
   have h0: ¬b<0:=by simpa using h0
   exact⟨.int k (k.wrap (a*2^(min b.toNat k.bits))),by simp[execOp,e1,e2,eqGuard,binOp,Op.shift,h0],.i _ _⟩
 ·unfold NU at hr
  rw[eP,gZ] at hr
  split at hr
  ·cases hr
  ·rename_i h0
   injection hr with hr;subst hr
   have h0: ¬b<0:=by simpa using h0
   exact⟨.int k (a.fdiv (2^(min b.toNat k.bits))),by simp[execOp,e1,e2,eqGuard,binOp,Op.shift,h0],.i _ _⟩
theorem OM (_hT:gz (TS m L T)) (hO:fC H) (hL:fF N H) {xt yt:TypeId}{y z:Operand}{xo yo:XO}{x:XV}(hu:P.underlying xt=some .bool) (h1:cO m y=some xo) (h2:cO m z=some yo)
 (h:AS false xo yo call L T N H=some (.mk x N' H' g)):ek P ops ⟨dst,.binOp .eql xt y z yt,ty,pos,af,gd⟩ (TS m L T) N H x N' H' g:=by
 obtain⟨v,hv,h⟩:=aK h
 obtain⟨v2,hv2,h⟩:=aK h
 obtain⟨a,q1,h⟩:=kK h
 obtain⟨b,q2,h⟩:=kK h
 subst q1 q2
 obtain⟨rfl,rfl,rfl,rfl⟩:=bO h
 refine bm hO hL trivial fun A Z w β ac ht=>?_
 have e1:ac.eval y=.bool a:=RdA.b_eq (aU (o:=⟨dst,.binOp .eql xt y z yt,ty,pos,af,gd⟩) (by simp[Op.operands]) h1 hv ht)
 have e2:ac.eval z=.bool b:=RdA.b_eq (aU (o:=⟨dst,.binOp .eql xt y z yt,ty,pos,af,gd⟩) (by simp[Op.operands]) h2 hv2 ht)
 refine⟨.bool (a==b),?_,.b _⟩
 have h1:(eqGuard .eql xt y z (.bool a) (.bool b)).run P w=.ok () w:=rfl
 have h2:binOp .eql xt (.bool a) (.bool b)=(do pure (.bool (←Op.equal xt (.bool a) (.bool b)))):=rfl
 simp only[execOp,e1,e2,Sem.run_bind,h1,Result.andThen_ok,h2,gJ hu,Sem.run_pure]
theorem OT (_hT:gz (TS m L T)) (hO:fC H) (hL:fF N H) {xt yt:TypeId}{y z:Operand}{xo yo:XO}{x:XV}(hu:P.underlying xt=some .bool) (h1:cO m y=some xo) (h2:cO m z=some yo)
 (h:AS true xo yo call L T N H=some (.mk x N' H' g)):ek P ops ⟨dst,.binOp .neq xt y z yt,ty,pos,af,gd⟩ (TS m L T) N H x N' H' g:=by
 obtain⟨v,hv,h⟩:=aK h
 obtain⟨v2,hv2,h⟩:=aK h
 obtain⟨a,q1,h⟩:=kK h
 obtain⟨b,q2,h⟩:=kK h
 subst q1 q2
 obtain⟨rfl,rfl,rfl,rfl⟩:=bO h
 refine bm hO hL trivial fun A Z w β ac ht=>?_
 have e1:ac.eval y=.bool a:=RdA.b_eq (aU (o:=⟨dst,.binOp .neq xt y z yt,ty,pos,af,gd⟩) (by simp[Op.operands]) h1 hv ht)
 have e2:ac.eval z=.bool b:=RdA.b_eq (aU (o:=⟨dst,.binOp .neq xt y z yt,ty,pos,af,gd⟩) (by simp[Op.operands]) h2 hv2 ht)
 refine⟨.bool (!(a==b)),?_,.b _⟩
 have h1:(eqGuard .neq xt y z (.bool a) (.bool b)).run P w=.ok () w:=rfl
 have h2:binOp .neq xt (.bool a) (.bool b)=(do pure (.bool (!(←Op.equal xt (.bool a) (.bool b))))):=rfl
 simp only[execOp,e1,e2,Sem.run_bind,h1,Result.andThen_ok,h2,gJ hu,Sem.run_pure]
theorem m9 {xt e:TypeId}{w:World}{b:Option Addr}{n c:Nat}(hu:P.underlying xt=some (.slice e)):(Op.equal xt (.slice b n c) (.slice none 0 0)).run P w=.ok b.isNone w:=by
 unfold Op.equal Op.maxDepth
 rw[show(10000:Nat)=9999+1 from rfl,Op.equalIn]
 simp only[Sem.run_bind,run_underlying hu,Result.andThen_ok]
 cases b<;>rfl
theorem Ot (_hT:gz (TS m L T)) (hO:fC H) (hL:fF N H) {xt yt e:TypeId}{y:Operand}{xo:XO}{x:XV}(hu:P.underlying xt=some (.slice e)) (h1:cO m y=some xo)
 (h:zZ false xo call L T N H=some (.mk x N' H' g)):ek P ops ⟨dst,.binOp .eql xt y (.const (.slice none 0 0)) yt,ty,pos,af,gd⟩ (TS m L T) N H x N' H' g:=by
 obtain⟨v,hv,h⟩:=aK h
 obtain⟨a,rfl,h⟩:=eS h
 have key: ∀(ac:Act) (w:World) (b:Option Addr) (n c:Nat),ac.eval y=.slice b n c→(execOp ac.eval ⟨dst,.binOp .eql xt y (.const (.slice none 0 0)) yt,ty,pos,af,gd⟩).run P w=.ok (.value (.bool b.isNone)) w:=by
  intro ac w b n c e1
  have h1:(eqGuard .eql xt y (.const (.slice none 0 0)) (.slice b n c) (.slice none 0 0)).run P w=.ok () w:=rfl
  have h2:binOp .eql xt (.slice b n c) (.slice none 0 0)=(do pure (.bool (←Op.equal xt (.slice b n c) (.slice none 0 0)))):=rfl
  have e2:ac.eval (.const (.slice none 0 0))=.slice none 0 0:=rfl
  simp only[execOp,e1,e2,Sem.run_bind,h1,Result.andThen_ok,h2,m9 hu,Sem.run_pure]
 rcases gc h with⟨k,off,n,lo,ex,m',rfl,h⟩|⟨rfl,h⟩|⟨rfl,h⟩
 ·obtain⟨rfl,rfl,rfl,rfl⟩:=bO h
  refine bm hO hL trivial fun A Z w β ac ht=>?_
  obtain⟨c,e1,_⟩:=RdA.s_eq (aU (o:=⟨dst,.binOp .eql xt y (.const (.slice none 0 0)) yt,ty,pos,af,gd⟩) (by simp[Op.operands]) h1 hv ht)
  exact⟨_,key ac w _ _ _ e1,.b _⟩
 ·obtain⟨rfl,rfl,rfl,rfl⟩:=bO h
  refine bm hO hL trivial fun A Z w β ac ht=>?_
  have e1:=RdA.z_eq (aU (o:=⟨dst,.binOp .eql xt y (.const (.slice none 0 0)) yt,ty,pos,af,gd⟩) (by simp[Op.operands]) h1 hv ht)
  exact⟨_,key ac w _ _ _ e1,.b _⟩
 ·cases h
theorem O1 (_hT:gz (TS m L T)) (hO:fC H) (hL:fF N H) {xt yt e:TypeId}{y:Operand}{xo:XO}{x:XV}(hu:P.underlying xt=some (.slice e)) (h1:cO m y=some xo)
 (h:zZ true xo call L T N H=some (.mk x N' H' g)):ek P ops ⟨dst,.binOp .neq xt y (.const (.slice none 0 0)) yt,ty,pos,af,gd⟩ (TS m L T) N H x N' H' g:=by
 obtain⟨v,hv,h⟩:=aK h
 obtain⟨a,rfl,h⟩:=eS h
 have key: ∀(ac:Act) (w:World) (b:Option Addr) (n c:Nat),ac.eval y=.slice b n c→(execOp ac.eval ⟨dst,.binOp .neq xt y (.const (.slice none 0 0)) yt,ty,pos,af,gd⟩).run P w=.ok (.value (.bool (!b.isNone))) w:=by
  intro ac w b n c e1
  have h1:(eqGuard .neq xt y (.const (.slice none 0 0)) (.slice b n c) (.slice none 0 0)).run P w=.ok () w:=rfl
  have h2:binOp .neq xt (.slice b n c) (.slice none 0 0)=(do pure (.bool (!(←Op.equal xt (.slice b n c) (.slice none 0 0))))):=rfl
  have e2:ac.eval (.const (.slice none 0 0))=.slice none 0 0:=rfl
  simp only[execOp,e1,e2,Sem.run_bind,h1,Result.andThen_ok,h2,m9 hu,Sem.run_pure]
 rcases gc h with⟨k,off,n,lo,ex,m',rfl,h⟩|⟨rfl,h⟩|⟨rfl,h⟩
 ·obtain⟨rfl,rfl,rfl,rfl⟩:=bO h
  refine bm hO hL trivial fun A Z w β ac ht=>?_
  obtain⟨c,e1,_⟩:=RdA.s_eq (aU (o:=⟨dst,.binOp .neq xt y (.const (.slice none 0 0)) yt,ty,pos,af,gd⟩) (by simp[Op.operands]) h1 hv ht)
  exact⟨_,key ac w _ _ _ e1,.b _⟩
 ·obtain⟨rfl,rfl,rfl,rfl⟩:=bO h
  refine bm hO hL trivial fun A Z w β ac ht=>?_
  have e1:=RdA.z_eq (aU (o:=⟨dst,.binOp .neq xt y (.const (.slice none 0 0)) yt,ty,pos,af,gd⟩) (by simp[Op.operands]) h1 hv ht)
  exact⟨_,key ac w _ _ _ e1,.b _⟩
 ·cases h
theorem P6 (_hT:gz (TS m L T)) (hO:fC H) (hL:fF N H) {U:TypeId}{f o':Nat}{y:Operand}{xo:XO}{x:XV}(hU:L5 P U f=some o') (h1:cO m y=some xo)
 (h:Nt o' xo call L T N H=some (.mk x N' H' g)):ek P ops ⟨dst,.fieldAddr U y f,ty,pos,af,gd⟩ (TS m L T) N H x N' H' g:=by
 obtain⟨v,hv,h⟩:=aK h
 obtain⟨k,off,rfl,h⟩:=jC h
 obtain⟨rfl,rfl,rfl,rfl⟩:=bO h
 refine bm hO hL trivial fun A Z w β ac ht=>?_
 obtain⟨e1,hk⟩:=RdA.p_eq (aU (o:=⟨dst,.fieldAddr U y f,ty,pos,af,gd⟩) (by simp[Op.operands]) h1 hv ht)
 obtain⟨fs,fd,g1,g2,g3,g4⟩:=An hU
 refine⟨.pointer (some ⟨(β k).b,off+o',none⟩),?_,.p _ _ hk⟩
 simp only[execOp,Instr.fieldAt,e1,Instr.sureAddr,Sem.run_bind,Sem.run_pure,Result.andThen_ok,run_underlying g1,g2,g4,dO]
theorem AX {U:TypeId}{f off n:Nat}{b:Bool}(h:Ol P U f=some (b,off,n)): ∃fs fd,P.underlying U=some (.struct fs)∧fs[f]? =some fd∧fd.offset=off∧jB P fd.type=some (b,n):=by
 unfold Ol at h
 split at h
 ·rename_i fs h1
  split at h
  ·rename_i fd h2
   split at h
   ·rename_i b' n' h3
    injection h with h
    injection h with h4 h5
    injection h5 with h5 h6
    subst h4 h5 h6
    exact⟨fs,fd,h1,h2,rfl,h3⟩
   ·cases h
  ·cases h
 ·cases h
theorem Nj (hT:gz (TS m L T)) (hO:fC H) (hL:fF N H) {U:TypeId}{f o' n:Nat}{y:Operand}{xo:XO}{x:XV}(hU:Ol P U f=some (true,o',n)) (h1:cO m y=some xo)
 (h:Kh o' n xo call L T N H=some (.mk x N' H' g)):ek P ops ⟨dst,.field U y f,ty,pos,af,gd⟩ (TS m L T) N H x N' H' g:=by
 obtain⟨v,hv,h2⟩:=aK h
 cases v with
 |a tot r=>
  obtain⟨hn,h3⟩:=bo (show bT (Nat.ble (Nat.add o' n) tot) (pR (.a n (e8 r tot o' n)) N H)=some (.mk x N' H' g) from h2)
  obtain⟨rfl,rfl,rfl,rfl⟩:=bO h3
  rw[cZ] at hn
  obtain⟨hr1,hr2⟩:=mz hT h1 hv
  obtain⟨g1,g2⟩:=fP r tot o' n hr1 hr2 hn
  have hn':o'+n≤r.flat.length:=by rw[←hr2];exact hn
  refine bm hO hL ⟨g1,by rw[g2];simp;omega⟩ fun A Z w β ac ht=>?_
  obtain⟨cs,e1,hr⟩:=aU (o:=⟨dst,.field U y f,ty,pos,af,gd⟩) (by simp[Op.operands]) h1 hv ht
  obtain⟨fs,fd,k1,k2,k3,k4⟩:=AX hU
  obtain⟨k5,k6⟩:=iY k4 w
  refine⟨.agg (cs.extract o' (o'+n)),?_,_,rfl,?_⟩
  ·simp only[execOp,Instr.field,e1,Sem.run_bind,Sem.run_pure,Result.andThen_ok,run_underlying k1,k2,part,asAgg,k5,k6,k3,if_true]
  ·rw[g2]
   have:=(hr.drop o').take n
   simpa [Array.toList_extract,List.extract_eq_take_drop] using this
 |_=>cases h2
theorem M2 (hT:gz (TS m L T)) (hO:fC H) (hL:fF N H) {U:TypeId}{f o' n:Nat}{y:Operand}{xo:XO}{x:XV}(hU:Ol P U f=some (false,o',n)) (h1:cO m y=some xo)
 (h:KC o' xo call L T N H=some (.mk x N' H' g)):ek P ops ⟨dst,.field U y f,ty,pos,af,gd⟩ (TS m L T) N H x N' H' g:=by
 obtain⟨v,hv,h2⟩:=aK h
 cases v with
 |a tot r=>
  obtain⟨c,hc2,h3⟩:=aK (show oO (jU r o') (fun a=>pR (.c a) N H)=some (.mk x N' H' g) from h2)
  obtain⟨rfl,rfl,rfl,rfl⟩:=bO h3
  obtain⟨hr1,hr2⟩:=mz hT h1 hv
  rw[j8 r o' hr1] at hc2
  refine bm hO hL trivial fun A Z w β ac ht=>?_
  obtain⟨cs,e1,hr⟩:=aU (o:=⟨dst,.field U y f,ty,pos,af,gd⟩) (by simp[Op.operands]) h1 hv ht
  obtain⟨fs,fd,k1,k2,k3,k4⟩:=AX hU
  obtain⟨k5,_⟩:=iY k4 w
  have hlt:o'<cs.toList.length:=by rw[hr.1];exact(List.getElem?_eq_some_iff.1 hc2).1
  have hv2:cs.toList[o']? =some (cs.toList[o']'hlt):=List.getElem?_eq_getElem _
  refine⟨_,?_,hr.2 o' _ c hv2 hc2⟩
  have hv3:cs[o']? =some (cs.toList[o']'hlt):=by rw[←Array.getElem?_toList];exact hv2
  simp only[execOp,Instr.field,e1,Sem.run_bind,Sem.run_pure,Result.andThen_ok,run_underlying k1,k2,part,asAgg,k5,k3,hv3]
  rfl
 |_=>cases h2
theorem NV (hT:gz (TS m L T)) (hO:fC H) (hL:fF N H) {i:Nat}{y:Operand}{xo:XO}{x:XV}(h1:cO m y=some xo)
 (h:JJ xo i call L T N H=some (.mk x N' H' g)):ek P ops ⟨dst,.extract y i,ty,pos,af,gd⟩ (TS m L T) N H x N' H' g:=by
 obtain⟨v,hv,h⟩:=aK h
 obtain⟨ds,rfl,h⟩:=Ir h
 obtain⟨d,hd,h⟩:=aK h
 obtain⟨rfl,rfl,rfl,rfl⟩:=bO h
 have nthD_eq: ∀(ds:List XD) (i:Nat),HC ds i=ds[i]? :=by
  intro ds
  induction ds with
  |nil=>intro i;simp[HC]
  |cons d ds ih=>
   intro i
   show @Bool.rec (fun _=>Option XD) (HC ds (Nat.pred i)) (some d) (Nat.beq i 0)=_
   rw[kx]
   cases i with
   |zero=>rfl
   |succ i=>rw[if_neg (by omega)];simpa using ih i
 rw[nthD_eq] at hd
 have hok: ∀d∈ds,rH d:=mz hT h1 hv
 have hdk:=hok d (List.mem_of_getElem? hd)
 refine bm hO hL (by cases d<;>exact hdk) fun A Z w β ac ht=>?_
 obtain⟨vs,e1,hr⟩:=aU (o:=⟨dst,.extract y i,ty,pos,af,gd⟩) (by simp[Op.operands]) h1 hv ht
 have hlt:i<ds.length:=(List.getElem?_eq_some_iff.1 hd).1
 have hv:vs.toList[i]? =some (vs.toList[i]'(by rw[hr.1];exact hlt)):=List.getElem?_eq_getElem _
 have hrd:=hr.2 i _ d hv hd
 rw[Array.getElem?_toList] at hv
 refine⟨vs.toList[i]'(by rw[hr.1];exact hlt),?_,?_⟩
 ·simp only[execOp,e1,Instr.extract,hv,Sem.run_bind,Sem.run_pure,Result.andThen_ok]
 ·cases d<;>exact hrd
theorem Od (_hT:gz (TS m L T)) (hO:fC H) (hL:fF N H) {U:TypeId}{sz:Nat}{y:Operand}{xo:XO}{x:XV}(hU:lq P U=some sz) (h1:cO m y=some xo)
 (h:JG xo call L T N H=some (.mk x N' H' g)):ek P ops ⟨dst,.call ⟨.builtin .len,#[y],#[U]⟩,ty,pos,af,gd⟩ (TS m L T) N H x N' H' g:=by
 obtain⟨v,hv,h⟩:=aK h
 obtain⟨a,rfl,h⟩:=eS h
 have key: ∀(ac:Act) (w:World) (b:Option Addr) (n c:Nat),ac.eval y=.slice b n c→(execOp ac.eval ⟨dst,.call ⟨.builtin .len,#[y],#[U]⟩,ty,pos,af,gd⟩).run P w=.ok (.value (.int .i64 n)) w:=by
  intro ac w b n c e
  unfold lq at hU
  split at hU
  ·rename_i el hu
   simp[execOp,resolve,invoke,builtin,Builtin.len_,e,run_underlying hu,goInt]
  ·cases hU
 rcases gc h with⟨k,off,n,lo,ex,m',rfl,h⟩|⟨rfl,h⟩|⟨rfl,h⟩
 ·obtain⟨rfl,rfl,rfl,rfl⟩:=bO h
  refine bm hO hL trivial fun A Z w β ac ht=>?_
  obtain⟨c,e1,_⟩:=RdA.s_eq (aU (o:=⟨dst,.call ⟨.builtin .len,#[y],#[U]⟩,ty,pos,af,gd⟩) (by simp[Op.operands,Call.operands]) h1 hv ht)
  exact⟨_,key ac w _ _ _ e1,.i _ _⟩
 ·obtain⟨rfl,rfl,rfl,rfl⟩:=bO h
  refine bm hO hL trivial fun A Z w β ac ht=>?_
  have e1:=RdA.z_eq (aU (o:=⟨dst,.call ⟨.builtin .len,#[y],#[U]⟩,ty,pos,af,gd⟩) (by simp[Op.operands,Call.operands]) h1 hv ht)
  exact⟨_,key ac w _ _ _ e1,.i _ _⟩
 ·obtain⟨rfl,rfl,rfl,rfl⟩:=bO h
  refine bm hO hL trivial fun A Z w β ac ht=>?_
  obtain⟨b,c,e1,_⟩:=RdA.ev_eq (aU (o:=⟨dst,.call ⟨.builtin .len,#[y],#[U]⟩,ty,pos,af,gd⟩) (by simp[Op.operands,Call.operands]) h1 hv ht)
  exact⟨_,key ac w _ _ _ e1,.i _ _⟩
theorem O4 (_hT:gz (TS m L T)) (hO:fC H) (hL:fF N H) {U:TypeId}{sz:Nat}{y:Operand}{xo:XO}{x:XV}(hU:lq P U=some sz) (h1:cO m y=some xo)
 (h:JW xo call L T N H=some (.mk x N' H' g)):ek P ops ⟨dst,.call ⟨.builtin .cap,#[y],#[U]⟩,ty,pos,af,gd⟩ (TS m L T) N H x N' H' g:=by
 obtain⟨v,hv,h⟩:=aK h
 obtain⟨a,rfl,h⟩:=eS h
 have key: ∀(ac:Act) (w:World) (b:Option Addr) (n c:Nat),ac.eval y=.slice b n c→(execOp ac.eval ⟨dst,.call ⟨.builtin .cap,#[y],#[U]⟩,ty,pos,af,gd⟩).run P w=.ok (.value (.int .i64 c)) w:=by
  intro ac w b n c e
  unfold lq at hU
  split at hU
  ·rename_i el hu
   simp[execOp,resolve,invoke,builtin,Builtin.cap_,e,run_underlying hu,goInt]
  ·cases hU
 rcases gc h with⟨k,off,n,lo,ex,m',rfl,h⟩|⟨rfl,h⟩|⟨rfl,h⟩
 ·obtain⟨hex,h⟩:=bo h
  obtain⟨rfl,rfl,rfl,rfl⟩:=bO h
  refine bm hO hL trivial fun A Z w β ac ht=>?_
  obtain⟨c,e1,_,_,_,_,hc,_⟩:=RdA.s_eq (aU (o:=⟨dst,.call ⟨.builtin .cap,#[y],#[U]⟩,ty,pos,af,gd⟩) (by simp[Op.operands,Call.operands]) h1 hv ht)
  have hc:=hc hex
  subst hc
  exact⟨_,key ac w _ _ _ e1,.i _ _⟩
 ·obtain⟨rfl,rfl,rfl,rfl⟩:=bO h
  refine bm hO hL trivial fun A Z w β ac ht=>?_
  have e1:=RdA.z_eq (aU (o:=⟨dst,.call ⟨.builtin .cap,#[y],#[U]⟩,ty,pos,af,gd⟩) (by simp[Op.operands,Call.operands]) h1 hv ht)
  exact⟨_,key ac w _ _ _ e1,.i _ _⟩
 ·cases h
theorem P4 (_hT:gz (TS m L T)) (hO:fC H) (hL:fF N H) {U:TypeId}{sz:Nat}{y z:Operand}{xo yo:XO}{x:XV}(hU:lq P U=some sz) (h1:cO m y=some xo) (h2:cO m z=some yo)
 (h:O2 sz xo yo call L T N H=some (.mk x N' H' g)):ek P ops ⟨dst,.indexAddr U y z,ty,pos,af,gd⟩ (TS m L T) N H x N' H' g:=by
 obtain⟨v,hv,h⟩:=aK h
 obtain⟨v2,hv2,h⟩:=aK h
 obtain⟨a,rfl,h⟩:=eS h
 obtain⟨ki,j,rfl,h⟩:=li h
 rcases gc h with⟨k,off,n,lo,ex,m',rfl,h⟩|⟨rfl,h⟩|⟨rfl,h⟩
 ·obtain⟨hj,h⟩:=bo h
  obtain⟨hm,h⟩:=bo h
  obtain⟨rfl,rfl,rfl,rfl⟩:=bO h
  rw[bU] at hj
  refine bm hO hL trivial fun A Z w β ac ht=>?_
  obtain⟨c,e1,hk,_⟩:=RdA.s_eq (aU (o:=⟨dst,.indexAddr U y z,ty,pos,af,gd⟩) (by simp[Op.operands]) h1 hv ht)
  have e2:=RdA.i_eq (aU (o:=⟨dst,.indexAddr U y z,ty,pos,af,gd⟩) (by simp[Op.operands]) h2 hv2 ht)
  refine⟨.pointer (some ⟨(β k).b,off+j*sz,none⟩),?_,.p _ _ hk⟩
  unfold lq at hU
  split at hU
  case h_2=>cases hU
  rename_i el hul
  cases hinf:P.info? el with
  |none=>rw[hinf] at hU;cases hU
  |some inf=>
   rw[hinf] at hU
   simp at hU
   have hso: ∀w,(sizeOf el).run P w=.ok sz w:=fun w=>by unfold sizeOf typeInfo;simp[program,Sem.run,hinf,hU]
   have hj0:(0:Int)≤(j:Int):=by omega
   have hj1:(j:Int)<(n:Int):=by omega
   simp[execOp,Instr.indexAt,e1,e2,asIntOf,run_underlying hul,hj0,hso,dO,hj]
 ·cases h
 ·cases h
end
section
variable {P:Program}{ops:Array Oper}{o:Oper}{TT:TX}{m N:Nat}{L:LX}{T:Tr XV}{H:Tr Bx}{x:XV}
variable {N':Nat}{H':Tr Bx}{g:Lg}{call:eC}
variable {dst:Option Nat}{ty:TypeId}{pos:String}{af:Array Edge}{gd:Option (Nat×Bool)}
theorem Al {U:TypeId}{sz:Nat}(hU:lq P U=some sz): ∃el,P.underlying U=some (.slice el)∧ ∀w,(sizeOf el).run P w=.ok sz w:=by
 unfold lq at hU
 split at hU
 case h_2=>cases hU
 rename_i el hul
 cases hinf:P.info? el with
 |none=>rw[hinf] at hU;cases hU
 |some inf=>
  rw[hinf] at hU
  simp at hU
  exact⟨el,hul,fun w=>by unfold sizeOf typeInfo;simp[program,Sem.run,hinf,hU]⟩
theorem kI {A Z:Nat→Prop}{w:World}{β:Nat→Pl}{a:Act}{d l:Nat}{y:Option Operand}{yo:Option XO}(hc:ug m y=some yo) (hg:p6 L T d yo=some l) (hy: ∀z,y=some z→z∈o.op.operands)
 (ht:pm A Z w β (dg ops o) (TS m L T) a):(y=none∧l=d)∨ ∃z k,y=some z∧a.eval z=.int k (l:Int):=by
 cases y with
 |none=>
  injection hc with hc
  subst hc
  injection hg with hg
  exact .inl ⟨rfl,hg.symm⟩
 |some z=>
  cases h1:cO m z with
  |none=>simp[ug,h1] at hc
  |some zo=>
   simp[ug,h1] at hc
   subst hc
   obtain⟨v,hv,hg2⟩:=aK (show oO (zo.get L T) (fun v=>xN v some)=some l from hg)
   obtain⟨k,j,q,hg3⟩:=li hg2
   injection hg3 with hg4
   subst q hg4
   exact .inr ⟨z,k,rfl,RdA.i_eq (aU (hy z rfl) h1 hv ht)⟩
theorem tn {U:TypeId}{sz:Nat}(hU:lq P U=some sz) {y:Operand}{lo hi:Option Operand}{a:Act}{w:World}{b:Option Addr}{n c l h:Nat}(e:a.eval y=.slice b n c)
 (hlo:(lo=none∧l=0)∨ ∃z k,lo=some z∧a.eval z=.int k (l:Int)) (hhi:(hi=none∧h=n)∨ ∃z k,hi=some z∧a.eval z=.int k (h:Int)) (h1:l≤h) (h2:h≤c):
 (execOp a.eval ⟨dst,.slice U y lo hi none,ty,pos,af,gd⟩).run P w=.ok (.value (.slice (if c=l then b else b.map (·.add (l*sz))) (h-l) (c-l))) w:=by
 obtain⟨el,hul,hso⟩:=Al hU
 have i1:(0:Int)≤(l:Int):=by omega
 have i2:(l:Int)≤(h:Int):=by omega
 have i3:(0:Int)≤(h:Int):=by omega
 have i4:(h:Int)≤(c:Int):=by omega
 rcases hlo with⟨rfl,rfl⟩|⟨z,k,rfl,e1⟩<;>rcases hhi with⟨rfl,rfl⟩|⟨z2,k2,rfl,e2⟩
 ·simp[execOp,Instr.sliceAt,Instr.slice,run_underlying hul,e,Instr.sliceBounds,hso]
 ·simp[execOp,Instr.sliceAt,Instr.slice,run_underlying hul,e,e2,Instr.sliceBounds,Instr.sliceBound,asIntOf,h2,hso]
 ·simp[execOp,Instr.sliceAt,Instr.slice,run_underlying hul,e,e1,Instr.sliceBounds,Instr.sliceBound,asIntOf,h1,hso]
 ·simp[execOp,Instr.sliceAt,Instr.slice,run_underlying hul,e,e1,e2,Instr.sliceBounds,Instr.sliceBound,asIntOf,h1,h2,hso]
theorem Ox (_hT:gz (TS m L T)) (hO:fC H) (hL:fF N H) {U:TypeId}{sz:Nat}{y:Operand}{xo:XO}{lo hi:Option Operand}{lo' hi':Option XO}{x:XV}(hU:lq P U=some sz) (h1:cO m y=some xo) (h2:ug m lo=some lo') (h3:ug m hi=some hi')
 (h:Jz sz xo lo' hi' call L T N H=some (.mk x N' H' g)):ek P ops ⟨dst,.slice U y lo hi none,ty,pos,af,gd⟩ (TS m L T) N H x N' H' g:=by
 obtain⟨v,hv,h⟩:=aK h
 obtain⟨a,rfl,h⟩:=eS h
 have hml: ∀z,lo=some z→z∈(Op.slice U y lo hi none).operands:=fun z e=>by subst e;simp[Op.operands]
 have hmh: ∀z,hi=some z→z∈(Op.slice U y lo hi none).operands:=fun z e=>by subst e;simp[Op.operands]
 have hmy:y∈(Op.slice U y lo hi none).operands:=by simp[Op.operands]
 rcases gc h with⟨k,off,n,lb,ex,m',rfl,h⟩|⟨rfl,h⟩|⟨rfl,h⟩
 ·obtain⟨l,hl,h⟩:=aK h
  obtain⟨hh,hhg,h⟩:=aK h
  obtain⟨hm,h⟩:=bo h
  obtain⟨r,hr,h⟩:=aK h
  obtain⟨rfl,rfl,rfl,rfl⟩:=bO h
  have hm:=Nat.eq_of_beq_eq_true hm
  subst hm
  obtain⟨g1,hr⟩:=bo hr
  obtain⟨g2,hr⟩:=bo hr
  rw[cZ] at g1 g2
  refine bm hO hL trivial fun A Z w β ac ht=>?_
  obtain⟨c,e1,hk,c1,c2,c3,c4,c5⟩:=RdA.s_eq (aU (o:=⟨dst,.slice U y lo hi none,ty,pos,af,gd⟩) hmy h1 hv ht)
  have el:=kI (o:=⟨dst,.slice U y lo hi none,ty,pos,af,gd⟩) h2 hl hml ht
  have eh:=kI (o:=⟨dst,.slice U y lo hi none,ty,pos,af,gd⟩) h3 hhg hmh ht
  refine⟨_,tn (dst:=dst) (ty:=ty) (pos:=pos) (af:=af) (gd:=gd) hU e1 el eh g1 (Nat.le_trans g2 c2),?_⟩
  rw[eP,eP] at hr
  split at hr
  ·rename_i hlt
   rw[bU] at hlt
   injection hr with hr
   subst hr
   rw[if_neg (by omega)]
   show RdA A Z w β (.slice (some ((⟨(β k).b,off,none⟩:Addr).add (l*sz))) (hh-l) (c-l)) _
   rw[dO]
   refine .s k (off+l*sz) (hh-l) (lb-l) ex sz (c-l) hk (by omega) (by omega) (by omega) (fun e=>by rw[c4 e]) ?_
   have:l*sz+(c-l)*sz=c*sz:=by rw[←Nat.add_mul];congr 1;omega
   omega
  ·rename_i hlt
   rw[bU] at hlt
   have hll:l=lb:=by omega
   split at hr
   ·rename_i hex
    injection hr with hr
    subst hr
    have hc:=c4 hex
    rw[if_pos (by omega),show hh-l=0 by omega,show c-l=0 by omega]
    exact .s k off 0 0 true sz 0 hk (Nat.le_refl _) (Nat.le_refl _) (by decide) (fun _=>rfl) (by omega)
   ·injection hr with hr
    subst hr
    rw[show hh-l=0 by omega]
    refine .ev _ _ (by omega) (fun ad had=>?_)
    split at had
    ·injection had with had;subst had;rfl
    ·have had:some ((⟨(β k).b,off,none⟩:Addr).add (l*sz))=some ad:=had
     rw[dO] at had
     injection had with had;subst had;rfl
 ·obtain⟨l,hl,h⟩:=aK h
  obtain⟨hh,hhg,h⟩:=aK h
  obtain⟨q1,h⟩:=bo h
  obtain⟨q2,h⟩:=bo h
  obtain⟨rfl,rfl,rfl,rfl⟩:=bO h
  have q1:=Nat.eq_of_beq_eq_true q1
  have q2:=Nat.eq_of_beq_eq_true q2
  subst q1 q2
  refine bm hO hL trivial fun A Z w β ac ht=>?_
  have e1:=RdA.z_eq (aU (o:=⟨dst,.slice U y lo hi none,ty,pos,af,gd⟩) hmy h1 hv ht)
  have el:=kI (o:=⟨dst,.slice U y lo hi none,ty,pos,af,gd⟩) h2 hl hml ht
  have eh:=kI (o:=⟨dst,.slice U y lo hi none,ty,pos,af,gd⟩) h3 hhg hmh ht
  refine⟨_,tn (dst:=dst) (ty:=ty) (pos:=pos) (af:=af) (gd:=gd) hU e1 el eh (Nat.le_refl _) (Nat.le_refl _),?_⟩
  exact .z
 ·cases h
theorem yY {U:TypeId}{sz:Nat}(hU:lq P U=some sz) {y zh zM:Operand}{lo:Option Operand}{a:Act}{w:World}{b:Option Addr}{n c l h M:Nat}{kh kM:IntKind}(e:a.eval y=.slice b n c)
 (hlo:(lo=none∧l=0)∨ ∃z k,lo=some z∧a.eval z=.int k (l:Int)) (eh:a.eval zh=.int kh (h:Int)) (eM:a.eval zM=.int kM (M:Int)) (h1:l≤h) (h2:h≤M) (h3:M≤c):
 (execOp a.eval ⟨dst,.slice U y lo (some zh) (some zM),ty,pos,af,gd⟩).run P w=.ok (.value (.slice (if M=l then b else b.map (·.add (l*sz))) (h-l) (M-l))) w:=by
 obtain⟨el,hul,hso⟩:=Al hU
 have i1:(0:Int)≤(l:Int):=by omega
 have i2:(l:Int)≤(h:Int):=by omega
 have i3:(0:Int)≤(h:Int):=by omega
 have i4:(h:Int)≤(M:Int):=by omega
 have i5:(0:Int)≤(M:Int):=by omega
 have i6:(M:Int)≤(c:Int):=by omega
 rcases hlo with⟨rfl,rfl⟩|⟨z,k,rfl,e1⟩
 ·simp[execOp,Instr.sliceAt,Instr.slice,run_underlying hul,e,eh,eM,Instr.sliceBounds,Instr.sliceBound,asIntOf,h2,h3,hso]
 ·simp[execOp,Instr.sliceAt,Instr.slice,run_underlying hul,e,e1,eh,eM,Instr.sliceBounds,Instr.sliceBound,asIntOf,h1,h2,h3,hso]
theorem NB (_hT:gz (TS m L T)) (hO:fC H) (hL:fF N H) {U:TypeId}{sz:Nat}{y zh zM:Operand}{xo ho Mo:XO}{lo:Option Operand}{lo':Option XO}{x:XV}(hU:lq P U=some sz) (h1:cO m y=some xo) (h2:ug m lo=some lo') (h3:cO m zh=some ho) (h4:cO m zM=some Mo)
 (h:Jy sz xo lo' ho Mo call L T N H=some (.mk x N' H' g)):ek P ops ⟨dst,.slice U y lo (some zh) (some zM),ty,pos,af,gd⟩ (TS m L T) N H x N' H' g:=by
 obtain⟨v,hv,h⟩:=aK h
 obtain⟨a,rfl,h⟩:=eS h
 have hml: ∀z,lo=some z→z∈(Op.slice U y lo (some zh) (some zM)).operands:=fun z e=>by subst e;simp[Op.operands]
 have hmy:y∈(Op.slice U y lo (some zh) (some zM)).operands:=by simp[Op.operands]
 have hmh: ∀z,(some zh)=some z→z∈(Op.slice U y lo (some zh) (some zM)).operands:=fun z e=>by injection e with e;subst e;simp[Op.operands]
 have hmM: ∀z,(some zM)=some z→z∈(Op.slice U y lo (some zh) (some zM)).operands:=fun z e=>by injection e with e;subst e;simp[Op.operands]
 rcases gc h with⟨k,off,n,lb,ex,m',rfl,h⟩|⟨rfl,h⟩|⟨rfl,h⟩
 ·obtain⟨l,hl,h⟩:=aK h
  obtain⟨hh,hhg,h⟩:=aK h
  obtain⟨M,hM,h⟩:=aK h
  obtain⟨hm,h⟩:=bo h
  obtain⟨r,hr,h⟩:=aK h
  obtain⟨rfl,rfl,rfl,rfl⟩:=bO h
  have hm:=Nat.eq_of_beq_eq_true hm
  subst hm
  obtain⟨g1,hr⟩:=bo hr
  obtain⟨g2,hr⟩:=bo hr
  obtain⟨g3,hr⟩:=bo hr
  rw[cZ] at g1 g2 g3
  refine bm hO hL trivial fun A Z w β ac ht=>?_
  obtain⟨c,e1,hk,c1,c2,c3,c4,c5⟩:=RdA.s_eq (aU (o:=⟨dst,.slice U y lo (some zh) (some zM),ty,pos,af,gd⟩) hmy h1 hv ht)
  have el:=kI (o:=⟨dst,.slice U y lo (some zh) (some zM),ty,pos,af,gd⟩) h2 hl hml ht
  have eh:=kI (o:=⟨dst,.slice U y lo (some zh) (some zM),ty,pos,af,gd⟩) (y:=some zh) (yo:=some ho) (by simp[ug,h3]) hhg hmh ht
  have eM:=kI (o:=⟨dst,.slice U y lo (some zh) (some zM),ty,pos,af,gd⟩) (y:=some zM) (yo:=some Mo) (by simp[ug,h4]) hM hmM ht
  obtain⟨q,_⟩|⟨z,kh,q,eh⟩:=eh
  ·cases q
  injection q with q
  subst q
  obtain⟨q,_⟩|⟨z,kM,q,eM⟩:=eM
  ·cases q
  injection q with q
  subst q
  refine⟨_,yY (dst:=dst) (ty:=ty) (pos:=pos) (af:=af) (gd:=gd) hU e1 el eh eM g1 g2 (Nat.le_trans g3 c2),?_⟩
  have hcM:M*sz≤c*sz:=Nat.mul_le_mul_right _ (Nat.le_trans g3 c2)
  rw[eP] at hr
  split at hr
  ·rename_i hlt
   rw[bU] at hlt
   injection hr with hr
   subst hr
   rw[if_neg (by omega)]
   show RdA A Z w β (.slice (some ((⟨(β k).b,off,none⟩:Addr).add (l*sz))) (hh-l) (M-l)) _
   rw[dO]
   refine .s k (off+l*sz) (hh-l) (M-l) true sz (M-l) hk (by omega) (by omega) (by omega) (fun _=>rfl) ?_
   have:l*sz+(M-l)*sz=M*sz:=by rw[←Nat.add_mul];congr 1;omega
   omega
  ·rename_i hlt
   rw[bU] at hlt
   injection hr with hr
   subst hr
   rw[if_pos (by omega),show hh-l=0 by omega,show M-l=0 by omega]
   exact .s k off 0 0 true sz 0 hk (Nat.le_refl _) (Nat.le_refl _) (by decide) (fun _=>rfl) (by omega)
 ·cases h
 ·cases h
theorem pa: ∀ {xs:List XO}{vs:List XV},vX xs L T=some vs→vs.length=xs.length∧ ∀(j:Nat) (xo:XO) (v:XV),xs[j]? =some xo→vs[j]? =some v→xo.get L T=some v
 |[],vs,h=>by
  have h:some []=some vs:=h
  injection h with h
  subst h
  exact⟨rfl,fun j xo v hx=>by simp at hx⟩
 |x::xs,vs,h=>by
  obtain⟨v,hv,h⟩:=aK (show oO (x.get L T) (fun v=>oO (vX xs L T) fun vs=>some (v::vs))=some vs from h)
  obtain⟨vs',hvs,h⟩:=aK h
  injection h with h
  subst h
  obtain⟨h1,h2⟩:=pa hvs
  refine⟨by simp[h1],fun j xo v3 hx hu=>?_⟩
  cases j with
  |zero=>simp at hx hu;subst hx hu;exact hv
  |succ j=>exact h2 j xo v3 (by simpa using hx) (by simpa using hu)
def sM (A Z:Nat→Prop) (w:World) (β:Nat→Pl) (vs:List Value) (xs:List XV):Prop:=vs.length=xs.length∧ ∀(j:Nat) (v:Value) (x:XV),vs[j]? =some v→xs[j]? =some x→RdX2 A Z w β v x
theorem jk {A Z:Nat→Prop}{w:World}{β:Nat→Pl}{a:Act}{ys:List Operand}{xs:List XO}{vs:List XV}(hy: ∀y∈ys,y∈o.op.operands) (hc:gm (cO m) ys=some xs) (hg:vX xs L T=some vs)
 (ht:pm A Z w β (dg ops o) (TS m L T) a):sM A Z w β (ys.map a.eval) vs:=by
 obtain⟨h1,h2⟩:=pa hg
 have hl:=oE _ _ hc
 refine⟨by simp[hl,h1],fun j v x hv hx=>?_⟩
 have hj:j<ys.length:=by
  have:=(List.getElem?_eq_some_iff.1 hv).1
  simpa using this
 have hy':ys[j]? =some ys[j]:=List.getElem?_eq_getElem hj
 have hx':xs[j]? =some (xs[j]'(by omega)):=List.getElem?_eq_getElem (by omega)
 have e:v=a.eval ys[j]:=by
  rw[List.getElem?_map,hy'] at hv
  injection hv with hv
  exact hv.symm
 rw[e]
 exact aU (hy _ (List.getElem_mem hj)) (qp _ _ hc j _ _ hy' hx') (h2 j _ _ hx' hx) ht
theorem Ae {ys:List Operand}{xs:List XO}{vs:List XV}(hT:gz (TS m L T)) (hc:gm (cO m) ys=some xs) (hg:vX xs L T=some vs): ∀v∈vs,sE v:=by
 obtain⟨h1,h2⟩:=pa hg
 have hl:=oE _ _ hc
 intro v hv
 obtain⟨j,hj⟩:=List.getElem?_of_mem hv
 have hjl:=(List.getElem?_eq_some_iff.1 hj).1
 exact mz hT (qp _ _ hc j _ _ (List.getElem?_eq_getElem (by omega)) (List.getElem?_eq_getElem (by omega))) (h2 j _ _ (List.getElem?_eq_getElem (by omega)) hj)
theorem tD: ∀ {vs:List XV}{y:AV}{f:FuncId},KQ f vs=some y→ ∃cs,y.fn=some (f,cs)∧vs=cs.map XV.c
 |[],y,f,h=>by
  have h:some (AV.f0 f)=some y:=h
  injection h with h
  subst h
  exact⟨[],rfl,rfl⟩
 |v::vs,y,f,h=>by
  obtain⟨a,rfl,h⟩:=eS (show xC v (fun a=>oO (KQ f vs) fun y=>some (.fc a y))=some y from h)
  obtain⟨y',hy,h⟩:=aK h
  injection h with h
  subst h
  obtain⟨cs,h1,h2⟩:=tD hy
  exact⟨a::cs,by simp[AV.fn,h1],by rw[h2];rfl⟩
theorem NW (_hT:gz (TS m L T)) (hO:fC H) (hL:fF N H) {f:FuncId}{first cs:Array Operand}{xs:List XO}{x:XV}(hf:first.isEmpty=true) (hc:gm (cO m) cs.toList=some xs)
 (h:Ko f xs call L T N H=some (.mk x N' H' g)):ek P ops ⟨dst,.makeFunc (.func f) first cs,ty,pos,af,gd⟩ (TS m L T) N H x N' H' g:=by
 obtain⟨vs,hvs,h⟩:=aK h
 obtain⟨y,hy,h⟩:=aK h
 obtain⟨rfl,rfl,rfl,rfl⟩:=bO h
 have hf:first= #[]:=Array.isEmpty_iff.1 hf
 subst hf
 obtain⟨us,h1,h2⟩:=tD hy
 refine bm hO hL trivial fun A Z w β ac ht=>?_
 have hr:=jk (o:=⟨dst,.makeFunc (.func f) #[] cs,ty,pos,af,gd⟩) (fun y hy=>by simp[Op.operands];simpa using hy) hc hvs ht
 refine⟨.func (.func f) #[] (cs.map ac.eval),by simp[execOp,Instr.makeFunc],?_⟩
 refine .f f (cs.map ac.eval) us y h1 ?_ (fun j v x hv hx=>?_)
 ·have:=hr.1;rw[h2] at this;simpa using this
 ·refine hr.2 j v (.c x) ?_ ?_
  ·rw[←Array.getElem?_toList] at hv;simpa using hv
  ·rw[h2,List.getElem?_map,hx];rfl
end
section
variable {P:Program}{ops:Array Oper}{o:Oper}{TT:TX}{m N:Nat}{L:LX}{T:Tr XV}{H:Tr Bx}{x:XV}
variable {N':Nat}{H':Tr Bx}{g:Lg}{call:eC}
variable {dst:Option Nat}{ty:TypeId}{pos:String}{af:Array Edge}{gd:Option (Nat×Bool)}
theorem jg {b:Bx}{k j:Nat}{c}(h:HS (H.set b k) j=some c):(j=k∧c=(b.U,b.r.flat))∨(j≠k∧HS H j=some c):=by
 unfold HS at h⊢
 cases h1:(H.set b k).get j with
 |none=>rw[h1] at h;cases h
 |some b'=>
  rw[h1] at h
  injection h with h
  rcases Tr.set_get H k j h1 with⟨e1,e2⟩|⟨e1,e2⟩
  ·subst e2;exact .inl ⟨e1,h.symm⟩
  ·refine .inr ⟨e1,?_⟩
   rw[e2,←h];rfl
theorem iW {b:Bx}{k:Nat}(hO:fC H) (h1:b.r.ok) (h2:b.n=b.r.flat.length):fC (H.set b k):=fun j b' hj=>by
 rcases Tr.set_get H k j hj with⟨_,e2⟩|⟨_,e2⟩
 ·subst e2;exact⟨h1,h2⟩
 ·exact hO j b' e2
theorem iS {b:Bx}{k:Nat}(hL:fF N H) (h1:N≤N') (h2:k<N'):fF N' (H.set b k):=fun j b' hj=>by
 rcases Tr.set_get H k j hj with⟨e1,_⟩|⟨_,e2⟩
 ·omega
 ·have:=hL j b' e2;omega
theorem s9 {γ:Type}{k l:Nat}{c:γ}(h:(if k=l then some c else none)≠none):k=l:=by
 apply Classical.byContradiction
 intro e
 rw[if_neg e] at h;exact h rfl
theorem jW {k:Nat}{b:Bx}(h:H.get k=some b):HS H k=some (b.U,b.r.flat):=by unfold HS;rw[h];rfl
theorem oV (hO:fC H) (hL:fF N H) {U n:Nat}{r:Rp}{y:AV}(hr:r.ok) (hn:n=r.flat.length)
 (h: ∀A Z w β a,pm A Z w β (dg ops o) TT a→ ∃v,∃vs:Array Value,(execOp a.eval o).run P w=.ok (.value v) (w.alloc (.cells vs U))∧RdAs A Z w β vs.toList r.flat∧ ∀A' Z' w' β',A' N→β' N=⟨w.heap.size,vs.size⟩→RdA A' Z' w' β' v y):
 ek P ops o TT N H (.c y) (N+1) (H.set ⟨U,n,r⟩ N) (.nw N):=by
 have hf:Foot N (N+1) H (H.set ⟨U,n,r⟩ N) e0 (fun k=>if k=N then some (U,r.flat) else none) (.nw N):=⟨rfl,rfl,rfl,fun j hj=>if_neg hj⟩
 refine⟨Nat.le_succ _,trivial,iW hO hr hn,iS hL (Nat.le_succ _) (Nat.lt_succ_self _),e0,fun k=>if k=N then some (U,r.flat) else none,?_,fun k c h=>(by cases h),?_,hf⟩
 ·intro V A β a w hA hm ht
  obtain⟨v,vs,hrun,hrd,hv⟩:=h _ _ w β a ht
  unfold Gives
  rw[hrun]
  have hN: ∀k,A k→k≠N:=fun k hk e=>hA k hk ⟨Nat.le_of_eq e.symm,by show k<N+1;omega⟩
  have hlen:vs.size=r.flat.length:=by rw[←hrd.1];simp
  have hH:Hst N (N+1) A e0 β w (fun k=>if k=N then some (U,r.flat) else none) (fun k=>if k=N then⟨w.heap.size,vs.size⟩ else β k) (w.alloc (.cells vs U)):=by
   refine⟨rfl,rfl,rfl,by simp,fun b hb _=>Below.heap_alloc _ _ _ hb,fun k hk=>if_neg (hN k hk),fun k hk=>?_,fun k hk=>?_⟩
   ·by_cases e:k=N
    ·rw[if_pos e];exact .inl (Nat.le_refl _)
    ·exact absurd (s9 hk) e
   ·by_cases e:k=N
    ·exact .inr ⟨Nat.le_of_eq e.symm,by omega⟩
    ·exact absurd (s9 hk) e
  have hkeep:=hH.keep hm
  refine⟨fun k=>A k∨k=N,fun k=>if k=N then⟨w.heap.size,vs.size⟩ else β k,fun k hk=>.inl hk,fun k hk=>?_,?_,hH,hv _ _ _ _ (.inr rfl) (if_pos rfl)⟩
  ·rcases hk with hk|hk
   ·exact .inl hk
   ·exact .inr ⟨Nat.le_of_eq hk.symm,by show k<N+1;omega⟩
  ·refine⟨fun b hb=>by rw[cH];exact Nat.lt_succ_of_lt (hm.vlt b hb),fun k hk=>?_,fun k hk=>?_,fun k l hk hl _=>?_,fun k hk hv2=>?_,fun k U' cs hk=>?_⟩
   ·by_cases e:k=N
    ·exact .inr e
    ·exact absurd (s9 hk) e
   ·rw[cH]
    rcases hk with hk|hk
    ·rw[if_neg (hN k hk)];exact Nat.lt_succ_of_lt (hm.lt k hk)
    ·rw[if_pos hk];exact Nat.lt_succ_self _
   ·by_cases e:k=N
    ·by_cases e2:l=N
     ·rw[e,e2]
     ·exact absurd (s9 hl) e2
    ·exact absurd (s9 hk) e
   ·by_cases e:k=N
    ·rw[if_pos e] at hv2
     have:=hm.vlt _ hv2
     exact Nat.lt_irrefl _ this
    ·exact absurd (s9 hk) e
   ·by_cases e:k=N
    ·have hk':(if k=N then some (U,r.flat) else none)=some (U',cs):=hk
     rw[if_pos e] at hk'
     injection hk' with hk'
     injection hk' with h1 h2
     subst h1 h2
     rw[if_pos e]
     refine⟨vs,heap_alloc_new w _,rfl,by omega,?_⟩
     rw[List.take_of_length_le (by simp;omega)]
     exact hrd.mono hkeep (fun _ h=>.inl h) hH.same
    ·have hk':(if k=N then some (U,r.flat) else none)=some (U',cs):=hk
     rw[if_neg e] at hk';cases hk'
 ·intro k c hk
  rcases jg hk with⟨e,hc⟩|⟨e,hc⟩
  ·show eJ (HS H) e0 _ k=_
   unfold eJ
   show(match (if k=N then some (U,r.flat) else none),(none:Option (TypeId×List AV)) with|some c,_=>some c|none,some _=>none|none,none=>HS H k)=some c
   rw[if_pos e,hc]
  ·show eJ (HS H) e0 _ k=_
   unfold eJ
   show(match (if k=N then some (U,r.flat) else none),(none:Option (TypeId×List AV)) with|some c,_=>some c|none,some _=>none|none,none=>HS H k)=some c
   rw[if_neg e];exact hc
theorem ov {y x:XV}{U n:Nat}{r:Rp}(h:MW y U n r N H=some (.mk x N' H' g)):x=y∧N'=N+1∧H'=H.set ⟨U,n,r⟩ N∧g=.nw N:=by
 unfold MW at h
 injection h with h
 injection h with h1 h2 h3 h4
 exact⟨h1.symm,h2.symm,h3.symm,h4.symm⟩
theorem zl {A Z:Nat→Prop}{w:World}{β:Nat→Pl}{z:Value}{zs:List AV}(h:ME z=some zs):RdAs A Z w β z.cells.toList zs:=by
 unfold ME at h
 split at h
 ·exact oI h
 ·rename_i hne
  cases h1:gX z with
  |none=>rw[h1] at h;cases h
  |some u2=>
   rw[h1] at h
   injection h with h
   subst h
   have hr:RdA A Z w β z u2:=mp h1
   rw[hr.one.1]
   exact RdAs.cons hr RdAs.nil
theorem pN {U:TypeId}{zs:List AV}(h:KJ P U=some zs): ∃it z,P.info? U=some it∧it.zero=some z∧ ∀A Z w β,RdAs A Z w β z.cells.toList zs:=by
 unfold KJ at h
 cases hi:P.info? U with
 |none=>rw[hi] at h;cases h
 |some it=>
  rw[hi] at h
  dsimp only at h
  cases hz:it.zero with
  |none=>rw[hz] at h;cases h
  |some z=>
   rw[hz] at h
   exact⟨it,z,rfl,hz,fun A Z w β=>zl h⟩
theorem GX (hO:fC H) (hL:fF N H) {U:TypeId}{zs:List AV}{x:XV}(hz:KJ P U=some zs)
 (h:At U zs.length (lI zs) call L T N H=some (.mk x N' H' g)):ek P ops ⟨dst,.alloc U,ty,pos,af,gd⟩ (TS m L T) N H x N' H' g:=by
 obtain⟨rfl,rfl,rfl,rfl⟩:=ov h
 obtain⟨h1,h2⟩:=iF zs
 refine oV hO hL h1 (by rw[h2]) fun A Z w β a _=>?_
 obtain⟨it,z,hi,hz,hr⟩:=pN hz
 refine⟨.pointer (some ⟨w.heap.size,0,none⟩),z.cells,?_,by rw[h2];exact hr _ _ _ _,fun A' Z' w' β' hA hβ=>?_⟩
 ·simp[execOp,Instr.alloc,zeroValue,typeInfo,program,Sem.run,hi,hz,newVar,newRow,newObj]
  try rfl
 ·have:=RdA.p (A:=A') (Z:=Z') (w:=w') (β:=β') N 0 hA
  rw[hβ] at this;exact this
theorem qX {A Z:Nat→Prop}{w:World}{β:Nat→Pl}{v:Value}{y:XV}{n:Nat}{r:Rp}(h:RdX2 A Z w β v y) (hr:y.rp=some (n,r)):RdAs A Z w β v.cells.toList r.flat:=by
 cases y with
 |c a=>injection hr with hr;injection hr with h1 h2;subst h1 h2;exact RdD.cells (d:=.c a) h
 |a n' r'=>injection hr with hr;injection hr with h1 h2;subst h1 h2;exact RdD.cells (d:=.a n' r') h
 |t ds=>cases hr
 |u=>cases hr
theorem DO {y:XV}{n:Nat}{r:Rp}(h:sE y) (hr:y.rp=some (n,r)):r.ok∧n=r.flat.length:=by
 cases y with
 |c a=>injection hr with hr;injection hr with h1 h2;subst h1 h2;exact⟨trivial,rfl⟩
 |a n' r'=>injection hr with hr;injection hr with h1 h2;subst h1 h2;exact h
 |t ds=>cases hr
 |u=>cases hr
theorem OZ (hT:gz (TS m L T)) (hO:fC H) (hL:fF N H) {U:TypeId}{y:Operand}{xo:XO}{x:XV}(hc:cO m y=some xo)
 (h:Kt U xo call L T N H=some (.mk x N' H' g)):ek P ops ⟨dst,.box U y,ty,pos,af,gd⟩ (TS m L T) N H x N' H' g:=by
 obtain⟨v,hv,h⟩:=aK h
 obtain⟨n,r,hrp,h⟩:=vf h
 obtain⟨rfl,rfl,rfl,rfl⟩:=ov h
 obtain⟨h1,h2⟩:=DO (mz hT hc hv) hrp
 refine oV hO hL h1 h2 fun A Z w β a ht=>?_
 refine⟨.pointer (some ⟨w.heap.size,0,none⟩),(a.eval y).cells,?_,qX (aU (o:=⟨dst,.box U y,ty,pos,af,gd⟩) (by simp[Op.operands]) hc hv ht) hrp,fun A' Z' w' β' hA hβ=>?_⟩
 ·simp[execOp,Instr.box,Sem.run,newVar,newRow,newObj]
  try rfl
 ·have:=RdA.p (A:=A') (Z:=Z') (w:=w') (β:=β') N 0 hA
  rw[hβ] at this;exact this
noncomputable def iT (H:Tr Bx) (k:Nat):HF:=fun j=>if j=k then HS H k else none
theorem rD {k j:Nat}{c}(h:iT H k j=some c):HS H j=some c:=by
 unfold iT at h
 split at h
 ·rename_i e;rw[e];exact h
 ·cases h
theorem mR {k:Nat}:iT H k k=HS H k:=if_pos rfl
theorem tO (hO:fC H) (hL:fF N H) {k:Nat}{b:Bx}(hb:H.get k=some b) (hx:sE x)
 (h: ∀V A β a w,Mem V A (iT H k) β w→pm A (Zs V (iT H k) β) w β (dg ops o) TT a→ ∃v,(execOp a.eval o).run P w=.ok (.value v) w∧RdX2 A (Zs V (iT H k) β) w β v x):
 ek P ops o TT N H x N H (.r k):=by
 have hf:Foot N N H H (iT H k) (iT H k) (.r k):=⟨fun j hj=>if_neg hj,rfl,rfl,by rw[jW hb];rfl⟩
 have hp:eJ (HS H) (iT H k) (iT H k)=HS H:=by
  funext j
  unfold eJ
  cases h:iT H k j with
  |none=>rfl
  |some c=>exact(rD h).symm
 refine⟨Nat.le_refl _,hx,hO,hL,iT H k,iT H k,?_,fun j c h=>rD h,fun j c h=>(by rw[hp];exact h),hf⟩
 intro V A β a w _ hm ht
 obtain⟨v,hrun,hr⟩:=h V A β a w hm ht
 unfold Gives
 rw[hrun]
 exact⟨A,β,fun _ h=>h,fun _ h=>.inl h,hm,Hst.refl,hr⟩
theorem NQ (_hT:gz (TS m L T)) (hO:fC H) (hL:fF N H) {U:TypeId}{n:Nat}{y:Operand}{xo:XO}{x:XV}(hU:jB P U=some (true,n)) (hc:cO m y=some xo)
 (h:Jw n xo call L T N H=some (.mk x N' H' g)):ek P ops ⟨dst,.load U y,ty,pos,af,gd⟩ (TS m L T) N H x N' H' g:=by
 obtain⟨v,hv,h⟩:=aK h
 obtain⟨k,off,rfl,h⟩:=jC h
 obtain⟨b,hb,h⟩:=aK h
 obtain⟨hn,h⟩:=bo h
 rw[cZ] at hn
 injection h with h
 injection h with h1 h2 h3 h4
 subst h1 h2 h3 h4
 obtain⟨hb1,hb2⟩:=hO k b hb
 obtain⟨g1,g2⟩:=fP b.r b.n off n hb1 hb2 hn
 have hn':off+n≤b.r.flat.length:=by rw[←hb2];exact hn
 refine tO hO hL hb ⟨g1,by rw[g2];simp;omega⟩ fun V A β a w hm ht=>?_
 obtain⟨e1,hk⟩:=RdA.p_eq (aU (o:=⟨dst,.load U y,ty,pos,af,gd⟩) (by simp[Op.operands]) hc hv ht)
 obtain⟨vs,ev,hz,hl,hr⟩:=hm.box k b.U b.r.flat (by rw[mR];exact jW hb)
 have hr2:=(hr.drop off).take n
 have hlen:((vs.toList.take b.r.flat.length).drop off).take n=((vs.toList.drop off).take n):=by
  rw[List.drop_take,List.take_take,Nat.min_eq_left (by omega)]
 rw[hlen] at hr2
 have hrun:=fy (P:=P) (w:=w) hU (b:=(β k).b) (off:=off) (vs:=(vs.toList.drop off).take n) (by simp;omega) (fun j v hv=>by
  rw[List.getElem?_take] at hv
  split at hv
  ·rw[bq ev,←hv];simp
  ·cases hv)
 refine⟨.agg ((vs.toList.drop off).take n).toArray,?_,((vs.toList.drop off).take n).toArray,rfl,by rw[g2];simpa using hr2⟩
 simp only[execOp,Instr.loadAt,e1,Instr.sureAddr,Sem.run_bind,Sem.run_pure,Result.andThen_ok,hrun]
theorem OQ (_hT:gz (TS m L T)) (hO:fC H) (hL:fF N H) {U:TypeId}{n:Nat}{y:Operand}{xo:XO}{x:XV}(hU:jB P U=some (false,n)) (hc:cO m y=some xo)
 (h:Km xo call L T N H=some (.mk x N' H' g)):ek P ops ⟨dst,.load U y,ty,pos,af,gd⟩ (TS m L T) N H x N' H' g:=by
 obtain⟨v,hv,h⟩:=aK h
 obtain⟨k,off,rfl,h⟩:=jC h
 obtain⟨b,hb,h⟩:=aK h
 obtain⟨c,hc2,h⟩:=aK h
 injection h with h
 injection h with h1 h2 h3 h4
 subst h1 h2 h3 h4
 obtain⟨hb1,hb2⟩:=hO k b hb
 rw[j8 b.r off hb1] at hc2
 have hlt:=(List.getElem?_eq_some_iff.1 hc2).1
 refine tO hO hL hb trivial fun V A β a w hm ht=>?_
 obtain⟨e1,hk⟩:=RdA.p_eq (aU (o:=⟨dst,.load U y,ty,pos,af,gd⟩) (by simp[Op.operands]) hc hv ht)
 obtain⟨vs,ev,hz,hl,hr⟩:=hm.box k b.U b.r.flat (by rw[mR];exact jW hb)
 have hv2:vs.toList[off]? =some (vs.toList[off]'(by simp;omega)):=List.getElem?_eq_getElem _
 have hrd:=hr.2 off (vs.toList[off]'(by simp;omega)) c (by rw[List.getElem?_take,if_pos hlt];exact hv2) hc2
 have hrun:=fv (P:=P) (w:=w) hU (b:=(β k).b) (off:=off) (by rw[bq ev,←Array.getElem?_toList,hv2])
 refine⟨_,?_,hrd⟩
 simp only[execOp,Instr.loadAt,e1,Instr.sureAddr,Sem.run_bind,Sem.run_pure,Result.andThen_ok,hrun]
theorem mQ {V A:Nat→Prop}{β:Nat→Pl}{w w':World}{Hv:HF}{k:Nat}{U:TypeId}{cs0 cs:List AV}(hm:Mem V A Hv β w) (hk:Hv k=some (U,cs0)) {vs:Array Value}(hz:vs.size=(β k).z)
 (hh:w'.heap=w.heap.setIfInBounds (β k).b (.cells vs U (0,0))) (ho:w'.os=w.os) (ht:w'.tape=w.tape) (hu:w'.output=w.output) (hl:cs.length≤vs.size)
 (hr:RdAs A (Zs V Hv β) w β (vs.toList.take cs.length) cs):Mem V A (fun j=>if j=k then some (U,cs) else Hv j) β w'∧Hst N N A Hv β w (fun j=>if j=k then some (U,cs) else Hv j) β w':=by
 have hne: ∀j,(if j=k then some (U,cs) else Hv j)≠none↔Hv j≠none:=by
  intro j
  by_cases e:j=k
  ·subst e;rw[if_pos rfl,hk];simp
  ·rw[if_neg e]
 have hsz:w'.heap.size=w.heap.size:=by rw[hh];simp
 have hbk:(β k).b<w.heap.size:=hm.lt k (hm.dom k (by rw[hk];simp))
 have hoth: ∀b,b≠(β k).b→w'.heap[b]? =w.heap[b]? :=fun b hb=>by rw[hh,Array.getElem?_setIfInBounds_ne (Ne.symm hb)]
 have hZ:Zs V (fun j=>if j=k then some (U,cs) else Hv j) β=Zs V Hv β:=by
  funext b
  unfold Zs
  simp only[hne]
 have hH:Hst N N A Hv β w (fun j=>if j=k then some (U,cs) else Hv j) β w':=
  ⟨ho,ht,hu,by omega,fun b _ hb=>hoth b (fun e=>hb k (by rw[hk];simp) e.symm),fun _ _=>rfl,fun j hj=>.inr ⟨j,(hne j).1 hj,rfl⟩,fun j hj=>.inl ((hne j).1 hj)⟩
 have hkeep:=hH.keep hm
 refine⟨⟨fun b hb=>by rw[hsz];exact hm.vlt b hb,fun j hj=>hm.dom j ((hne j).1 hj),fun j hj=>by rw[hsz];exact hm.lt j hj,fun j l hj hl=>hm.inj j l ((hne j).1 hj) ((hne l).1 hl),fun j hj=>hm.clr j ((hne j).1 hj),fun j U' cs' hj=>?_⟩,hH⟩
 have hj:(if j=k then some (U,cs) else Hv j)=some (U',cs'):=hj
 by_cases e:j=k
 ·subst e
  rw[if_pos rfl] at hj
  injection hj with hj
  injection hj with h1 h2
  subst h1 h2
  exact⟨vs,by rw[hh];simp[hbk],hz,hl,hr.mono hkeep (fun _ h=>h) (fun _ _=>rfl)⟩
 ·rw[if_neg e] at hj
  obtain⟨vs',e1,e2,e3,e4⟩:=hm.box j U' cs' hj
  refine⟨vs',(hoth _ (fun q=>e (hm.inj j k (by rw[hj];simp) (by rw[hk];simp) q))).trans e1,e2,e3,e4.mono hkeep (fun _ h=>h) (fun _ _=>rfl)⟩
theorem Qt (hT:gz (TS m L T)) (hO:fC H) (hL:fF N H) {U:TypeId}{q:Bool}{n:Nat}{y z:Operand}{xo yo:XO}{x:XV}(hU:jB P U=some (q,n)) (hc:cO m y=some xo) (hc2:cO m z=some yo)
 (h:OX n xo yo call L T N H=some (.mk x N' H' g)):ek P ops ⟨dst,.store U y z,ty,pos,af,gd⟩ (TS m L T) N H x N' H' g:=by
 obtain⟨v,hv,h⟩:=aK h
 obtain⟨v2,hv2,h⟩:=aK h
 obtain⟨k,off,q1,h⟩:=jC h
 subst q1
 obtain⟨b,hb,h⟩:=aK h
 obtain⟨n',d,hrp,h⟩:=vf h
 obtain⟨hn,h⟩:=bo h
 obtain⟨hle,h⟩:=bo h
 have hn:=Nat.eq_of_beq_eq_true hn
 subst hn
 rw[cZ] at hle
 injection h with h
 injection h with h1 h2 h3 h4
 subst h1 h2 h3 h4
 obtain⟨hb1,hb2⟩:=hO k b hb
 obtain⟨hd1,hd2⟩:=DO (mz hT hc2 hv2) hrp
 obtain⟨g1,g2⟩:=mH hd1 b.r b.n off n' hb1 hb2 hd2 hle
 have hle':off+n'≤b.r.flat.length:=by rw[←hb2];exact hle
 have hlen:b.n=(gP d b.r b.n off n').flat.length:=by rw[g2,hb2];simp;omega
 have hf:Foot N N H (H.set ⟨b.U,b.n,gP d b.r b.n off n'⟩ k) (iT H k) (fun j=>if j=k then some (b.U,(gP d b.r b.n off n').flat) else iT H k j) (.w k):=⟨fun j hj=>⟨if_neg hj,(if_neg hj).trans (if_neg hj)⟩,rfl⟩
 have hkk:=jW hb
 refine⟨Nat.le_refl _,trivial,iW hO g1 hlen,iS hL (Nat.le_refl _) (hL k b hb),iT H k,fun j=>if j=k then some (b.U,(gP d b.r b.n off n').flat) else iT H k j,?_,fun j c h=>rD h,fun j c hj=>?_,hf⟩
 ·intro V A β a w _ hm ht
  obtain⟨e1,hk⟩:=RdA.p_eq (aU (o:=⟨dst,.store U y z,ty,pos,af,gd⟩) (by simp[Op.operands]) hc hv ht)
  have hcl:=qX (aU (o:=⟨dst,.store U y z,ty,pos,af,gd⟩) (by simp[Op.operands]) hc2 hv2 ht) hrp
  obtain⟨vs,ev,hz,hl,hr⟩:=hm.box k b.U b.r.flat (mR.trans hkk)
  obtain⟨_,hsz⟩:=iY hU w
  have hl2:(a.eval z).cells.size=n':=by rw[hd2,←hcl.1];simp
  have hst:=run_storeCells_at (P:=P) (β k).b off b.U (a.eval z).cells.toList 0 vs w ev (by simp;omega) hcl.one
  have hrun:(execOp a.eval ⟨dst,.store U y z,ty,pos,af,gd⟩).run P w=.ok .skip (w.setRow (β k).b (vs.toList.take (off+0)++(a.eval z).cells.toList++vs.toList.drop (off+0+(a.eval z).cells.toList.length)).toArray):=by
   simp only[execOp,Instr.storeAt,e1,Instr.sureAddr,storeVar,Sem.run_bind,Sem.run_pure,Result.andThen_ok,hsz]
   rw[if_neg (by simp[hl2])]
   rw[hst]
   rfl
  unfold Gives
  rw[hrun]
  have el:(a.eval z).cells.toList.length=n':=by simpa using hl2
  simp only[Nat.add_zero,el]
  obtain⟨m1,m2⟩:=mQ (N:=N) (cs:=(gP d b.r b.n off n').flat) hm (mR.trans hkk) (vs:=(vs.toList.take off++(a.eval z).cells.toList++vs.toList.drop (off+n')).toArray) (by simp;omega) (ew ev) rfl rfl rfl
   (by rw[←hlen,hb2];simp;omega) (by
    rw[←hlen,g2]
    have hw:=RdAs.append (RdAs.append (hr.take off) hcl) (hr.drop (off+n'))
    have e3:(vs.toList.take b.r.flat.length).take off=vs.toList.take off:=by rw[List.take_take,Nat.min_eq_left (by omega)]
    rw[e3] at hw
    have e4:((vs.toList.take off++(a.eval z).cells.toList++vs.toList.drop (off+n')).toArray).toList.take b.n=vs.toList.take off++(a.eval z).cells.toList++(vs.toList.take b.r.flat.length).drop (off+n'):=by
     show(vs.toList.take off++(a.eval z).cells.toList++vs.toList.drop (off+n')).take b.n=_
     rw[List.take_append,List.take_of_length_le (l:=vs.toList.take off++(a.eval z).cells.toList) (by simp;omega),List.drop_take]
     congr 2
     simp;omega
    rw[e4];exact hw)
  exact⟨A,β,fun _ h=>h,fun _ h=>.inl h,m1,m2,rfl⟩
 ·show eJ (HS H) (iT H k) (fun j=>if j=k then some (b.U,(gP d b.r b.n off n').flat) else iT H k j) j=some c
  unfold eJ
  rcases jg hj with⟨e,hc⟩|⟨e,hc⟩
  ·show(match (if j=k then some (b.U,(gP d b.r b.n off n').flat) else iT H k j),iT H k j with|some c,_=>some c|none,some _=>none|none,none=>HS H j)=some c
   rw[if_pos e,hc]
  ·show(match (if j=k then some (b.U,(gP d b.r b.n off n').flat) else iT H k j),iT H k j with|some c,_=>some c|none,some _=>none|none,none=>HS H j)=some c
   rw[if_neg e,show iT H k j=none from if_neg e];exact hc
end
structure CallP (P:Program) (f:FuncId) (vs:List XV) (x:XV):Prop where
 cal:eg P f=true
 ok:sE x
 run: ∀(Z A:Nat→Prop) (β:Nat→Pl) (args:Array Value) (w:World),(∀b,Z b→b<w.heap.size)→sM A Z w β args.toList vs→
  Calls P f args w fun e w'=> ∃v,e=.returned v∧(∀A' β',RdX2 A' Z w' β' v x)∧Below w.heap.size w w'
structure CallH (P:Program) (f:FuncId) (vs:List XV) (N:Nat) (H:Tr Bx) (x:XV) (N':Nat) (H':Tr Bx):Prop where
 le:N≤N'
 cal:eg P f=true
 ok:sE x
 hok:fC H'
 hlt:fF N' H'
 run: ∀(V A:Nat→Prop) (β:Nat→Pl) (args:Array Value) (w:World),(∀k,A k→ ¬(N≤k∧k<N'))→Mem V A (HS H) β w→sM A (Zs V (HS H) β) w β args.toList vs→
  Calls P f args w fun e w'=> ∃v A' β',e=.returned v∧(∀k,A k→A' k)∧(∀k,A' k→Ad A N N' k)∧Mem V A' (HS H') β' w'∧Hst N N' A (HS H) β w (HS H') β' w'∧RdX2 A' (Zs V (HS H') β') w' β' v x
def ig (P:Program) (call:eC):Prop:= ∀f vs N H,(∀v∈vs,sE v)→fC H→fF N H→(∀x,call f vs N H=.p x→CallP P f vs x)∧ ∀x N' H',call f vs N H=.h x N' H'→CallH P f vs N H x N' H'
section
variable {P:Program}{ops:Array Oper}{o:Oper}{TT:TX}{m N:Nat}{L:LX}{T:Tr XV}{H:Tr Bx}{x:XV}
variable {N':Nat}{H':Tr Bx}{g:Lg}{call:eC}
variable {dst:Option Nat}{ty:TypeId}{pos:String}{af:Array Edge}{gd:Option (Nat×Bool)}
theorem MY {V:Nat→Prop}{β:Nat→Pl}:Zs V e0 β=V:=by
 funext b
 refine propext ⟨?_,.inl⟩
 rintro(h|⟨k,hk,_⟩)
 ·exact h
 ·exact absurd rfl hk
theorem CY {V A:Nat→Prop}{β:Nat→Pl}{w w':World}(hm:Mem V A e0 β w) (hb:Below w.heap.size w w'):Mem V A e0 β w'∧Hst N N A e0 β w e0 β w':=by
 refine⟨⟨fun b h=>Nat.lt_of_lt_of_le (hm.vlt b h) hb.size,fun k hk=>absurd rfl hk,fun k hk=>Nat.lt_of_lt_of_le (hm.lt k hk) hb.size,fun k l hk=>absurd rfl hk,fun k hk=>absurd rfl hk,fun k U cs hk=>by cases hk⟩,hb.os,hb.tape,hb.output,hb.size,fun b h _=>hb.block b h,fun _ _=>rfl,fun k hk=>absurd rfl hk,fun k hk=>absurd rfl hk⟩
theorem tX (hO:fC H) (hL:fF N H) (hcall:ig P call) {f:FuncId}{vs:List XV}(hvs: ∀v∈vs,sE v) (h:Qu H N (call f vs N H)=some (.mk x N' H' g))
 (hrun:eg P f=true→ ∀A Z w β a,pm A Z w β (dg ops o) TT a→ ∃args:Array Value,(execOp a.eval o).run P w=.ok (.enter f args) w∧sM A Z w β args.toList vs):ek P ops o TT N H x N' H' g:=by
 obtain⟨hp,hh⟩:=hcall f vs N H hvs hO hL
 cases hc:call f vs N H with
 |no=>rw[hc] at h;cases h
 |p y=>
  rw[hc] at h
  have h:some (Rs.mk y N H .p)=some (.mk x N' H' g):=h
  injection h with h
  injection h with h1 h2 h3 h4
  subst h1 h2 h3 h4
  have hP:=hp y hc
  have hf:Foot N N H H e0 e0 .p:=⟨rfl,rfl,rfl⟩
  refine⟨Nat.le_refl _,hP.ok,hO,hL,e0,e0,fun V A β a w _ hm ht=>?_,fun k c h=>(by cases h),fun k c h=>(by rw[ui];exact h),hf⟩
  obtain⟨args,e1,hr⟩:=hrun hP.cal _ _ w β a ht
  unfold Gives
  rw[e1]
  refine(hP.run (Zs V e0 β) A β args w (by rw[MY];exact hm.vlt) hr).mono ?_
  rintro e w' ⟨v,rfl,hx,hb⟩
  obtain⟨m1,m2⟩:=CY (N:=N) hm hb
  exact⟨v,rfl,A,β,fun _ h=>h,fun _ h=>.inl h,m1,m2,hx A β⟩
 |h y M K=>
  rw[hc] at h
  have h:some (Rs.mk y M K (.c H K))=some (.mk x N' H' g):=h
  injection h with h
  injection h with h1 h2 h3 h4
  subst h1 h2 h3 h4
  have hC:=hh y M K hc
  have hf:Foot N M H K (HS H) (HS K) (.c H K):=⟨rfl,rfl,rfl,rfl⟩
  refine⟨hC.le,hC.ok,hC.hok,hC.hlt,HS H,HS K,fun V A β a w hA hm ht=>?_,fun k c h=>h,fun k c h=>?_,hf⟩
  ·obtain⟨args,e1,hr⟩:=hrun hC.cal _ _ w β a ht
   unfold Gives
   rw[e1]
   refine(hC.run V A β args w hA hm hr).mono ?_
   rintro e w' ⟨v,A',β',rfl,h1,h2,h3,h4,h5⟩
   exact⟨v,rfl,A',β',h1,h2,h3,h4,h5⟩
  ·unfold eJ;rw[h]
theorem th {f:FuncId}(hcal:eg P f=true) {c:Call}{a:Act}{w:World}{args:Array Value}{fo:Operand}(hc:c.callee=.value fo) {cs:Array Value}(hf:a.eval fo=.func (.func f) #[] cs) (ha:args=c.args.map a.eval++cs):
 (execOp a.eval ⟨dst,.call c,ty,pos,af,gd⟩).run P w=.ok (.enter f args) w:=by
 subst ha
 unfold eg at hcal
 cases hfn:P.funcs[f]? with
 |none=>rw[hfn] at hcal;cases hcal
 |some fn=>
  rw[hfn] at hcal
  simp only[Bool.and_eq_true,bne_iff_ne,ne_eq,Bool.not_eq_true'] at hcal
  have hb2:fn.body≠none:=by have:=hcal.2;cases hbb:fn.body with
   |none=>rw[hbb] at this;cases this
   |some c=>simp
  simp[execOp,resolve,hc,hf,Deferred.ofValue,invoke,callFunc,program,Sem.run,hfn,hcal.1,hb2]
theorem Mt (hT:gz (TS m L T)) (hO:fC H) (hL:fF N H) (hcall:ig P call) {f:FuncId}{ys:Array Operand}{ats:Array TypeId}{xs:List XO}{x:XV}(hc:gm (cO m) ys.toList=some xs)
 (h:zy f xs call L T N H=some (.mk x N' H' g)):ek P ops ⟨dst,.call ⟨.value (.func f),ys,ats⟩,ty,pos,af,gd⟩ (TS m L T) N H x N' H' g:=by
 obtain⟨vs,hvs,h⟩:=aK h
 refine tX hO hL hcall (Ae hT hc hvs) h fun hcal A Z w β a ht=>?_
 have hr:=jk (o:=⟨dst,.call ⟨.value (.func f),ys,ats⟩,ty,pos,af,gd⟩) (fun y hy=>by have hy2:=Array.mem_toList_iff.1 hy;simp[Op.operands,Call.operands,hy2]) hc hvs ht
 exact⟨ys.map a.eval,th hcal rfl (cs:= #[]) rfl (by simp),by simpa using hr⟩
theorem EW: ∀ {y:AV}{acc:List XV}{k:FuncId→List XV→Option Rs}{r:Rs},Qx y acc k=some r→ ∃f cs,y.fn=some (f,cs)∧k f (acc.reverse++cs.map .c)=some r:=by
 intro y
 induction y with
 |f0 g=>intro acc k r h;exact⟨g,[],rfl,by simpa using(show k g acc.reverse=some r from h)⟩
 |fc a y _ ihy=>
  intro acc k r h
  obtain⟨f,cs,h1,h2⟩:=ihy (show Qx y (.c a::acc) k=some r from h)
  exact⟨f,a::cs,by simp[AV.fn,h1],by simpa using h2⟩
 |_=>intro acc k r h;cases h
theorem RdA.fn_eq {A Z:Nat→Prop}{w:World}{β:Nat→Pl}{v:Value}{y:AV}{f:FuncId}{xs:List AV}(h:RdA A Z w β v y) (hf:y.fn=some (f,xs)): ∃cs:Array Value,v=.func (.func f) #[] cs∧RdAs A Z w β cs.toList xs:=by
 cases h with
 |f g cs ys _ h0 h1 h2=>
  rw[h0] at hf
  injection hf with hf
  injection hf with e1 e2
  subst e1 e2
  exact⟨cs,rfl,by simpa using h1,fun j v x hv hx=>h2 j v x (by rw[←Array.getElem?_toList];exact hv) hx⟩
 |_=>cases hf
theorem Mk (hT:gz (TS m L T)) (hO:fC H) (hL:fF N H) (hcall:ig P call) {t:Nat}{fo:XO}{ys:Array Operand}{ats:Array TypeId}{xs:List XO}{x:XV}(hcf:cO m (.tmp t)=some fo) (hc:gm (cO m) ys.toList=some xs)
 (h:Fd fo xs call L T N H=some (.mk x N' H' g)):ek P ops ⟨dst,.call ⟨.value (.tmp t),ys,ats⟩,ty,pos,af,gd⟩ (TS m L T) N H x N' H' g:=by
 obtain⟨v,hv,h⟩:=aK h
 obtain⟨y,q,h⟩:=eS h
 subst q
 obtain⟨vs,hvs,h⟩:=aK h
 obtain⟨f,cs,hf,h⟩:=EW h
 rw[List.reverse_reverse] at h
 refine tX hO hL hcall (fun v hv=>?_) h fun hcal A Z w β a ht=>?_
 ·rcases List.mem_append.1 hv with hv|hv
  ·exact Ae hT hc hvs v hv
  ·obtain⟨c,_,rfl⟩:=List.mem_map.1 hv
   trivial
 ·have hr:=jk (o:=⟨dst,.call ⟨.value (.tmp t),ys,ats⟩,ty,pos,af,gd⟩) (fun y hy=>by have hy2:=Array.mem_toList_iff.1 hy;simp[Op.operands,Call.operands,hy2]) hc hvs ht
  obtain⟨us,e1,hu⟩:=RdA.fn_eq (aU (o:=⟨dst,.call ⟨.value (.tmp t),ys,ats⟩,ty,pos,af,gd⟩) (by simp[Op.operands,Call.operands]) hcf hv ht) hf
  refine⟨ys.map a.eval++us,th hcal rfl e1 rfl,?_,fun j v x hv hx=>?_⟩
  ·have h1:=hr.1
   have h2:=hu.1
   simp at h1 h2
   simp[h1,h2]
  ·have h1:=hr.1
   simp only[Array.toList_append,Array.toList_map] at hv
   by_cases hj:j<vs.length
   ·rw[List.getElem?_append_left (by rw[h1];exact hj)] at hv
    rw[List.getElem?_append_left hj] at hx
    exact hr.2 j v x hv hx
   ·rw[List.getElem?_append_right (by rw[h1];omega)] at hv
    rw[List.getElem?_append_right (by omega),List.getElem?_map] at hx
    rw[h1] at hv
    cases hcx:cs[j-vs.length]? with
    |none=>rw[hcx] at hx;cases hx
    |some c=>
     rw[hcx] at hx
     injection hx with hx
     subst hx
     exact hu.2 _ v c hv hcx
theorem ue {pl:Nat→Option (Nat×Nat)}(hT:gz (TS m L T)) {tot:Nat}: ∀ {ps:List (Nat×Operand)}{qs:List (Nat×Nat×XO)}{r r':Rp},Ml m pl ps=some qs→A3 L T tot qs r=some r'→r.ok→tot=r.flat.length→r'.ok∧tot=r'.flat.length∧
 ∀A Z w β a (cells:Array Value),(∀p∈ps,p.2∈o.op.operands)→pm A Z w β (dg ops o) (TS m L T) a→RdAs A Z w β cells.toList r.flat→ ∃cells',Instr.fill pl cells (ps.map fun(i,y)=>(i,a.eval y))=some cells'∧RdAs A Z w β cells'.toList r'.flat
 |[],qs,r,r',h,hf,hr,ht=>by
  injection h with h
  subst h
  have hf:some r=some r':=hf
  injection hf with hf
  subst hf
  exact⟨hr,ht,fun A Z w β a cells _ _ hc=>⟨cells,rfl,hc⟩⟩
 |(i,y)::ps,qs,r,r',h,hf,hr,ht=>by
  unfold Ml at h
  split at h
  case h_2=>cases h
  rename_i off sz y' ys h1 h2 h3
  injection h with h
  subst h
  obtain⟨v,hv,hf⟩:=aK (show oO (y'.get L T) (fun v=>xD v fun n d=>bT (Nat.beq n sz) (bT (Nat.ble (Nat.add off n) tot) (A3 L T tot ys (gP d r tot off n))))=some r' from hf)
  obtain⟨n,d,hrp,hf2⟩:=vf hf
  obtain⟨hn,hf3⟩:=bo hf2
  obtain⟨hle,hf4⟩:=bo hf3
  have hn:=Nat.eq_of_beq_eq_true hn
  subst hn
  rw[cZ] at hle
  obtain⟨hd1,hd2⟩:=DO (mz hT h2 hv) hrp
  have hle':off+n≤tot:=hle
  obtain⟨g1,g2⟩:=mH hd1 r tot off n hr ht hd2 hle'
  obtain⟨k1,k2,k3⟩:=ue hT h3 hf4 g1 (by rw[g2];simp;omega)
  refine⟨k1,k2,fun A Z w β a cells hy htm hc=>?_⟩
  have hcl:=qX (aU (o:=o) (hy (i,y) (by simp)) h2 hv htm) hrp
  have hvs:(a.eval y).cells.size=n:=by rw[hd2,←hcl.1];simp
  have hcs:cells.size=tot:=by rw[ht,←hc.1];simp
  have hfr:=nJ off (a.eval y).cells.toList 0 cells (by simp;omega)
  have hrd:RdAs A Z w β (((a.eval y).cells.zipIdx.foldl (fun(cs:Array Value) (p:Value×Nat)=>cs.setIfInBounds (off+p.2) p.1) cells)).toList (gP d r tot off n).flat:=by
   rw[←Array.foldl_toList]
   have:(a.eval y).cells.zipIdx.toList=(a.eval y).cells.toList.zipIdx:=by simp
   rw[this,hfr,g2]
   refine RdAs.append (RdAs.append (by simpa using hc.take off) hcl) ?_
   have:=hc.drop (off+n)
   simpa [hvs] using this
  obtain⟨cells',e,hr'⟩:=k3 A Z w β a _ (fun p hp=>hy p (by simp[hp])) htm hrd
  refine⟨cells',?_,hr'⟩
  show Instr.fill pl cells ((i,a.eval y)::ps.map fun(i,y)=>(i,a.eval y))=_
  unfold Instr.fill
  rw[h1]
  dsimp only
  rw[if_neg (by simp[hvs];omega)]
  exact e
theorem I5 (hT:gz (TS m L T)) (hO:fC H) (hL:fF N H) {U:TypeId}{ps:Array (Nat×Operand)}{pl:List (Nat×Nat)}{zs:List AV}{qs:List (Nat×Nat×XO)}{x:XV}(hU:v7 P U=some pl) (hz:KJ P U=some zs) (hp:Ml m (fun i=>pl[i]?) ps.toList=some qs)
 (h:AU zs.length (lI zs) qs call L T N H=some (.mk x N' H' g)):ek P ops ⟨dst,.build U ps,ty,pos,af,gd⟩ (TS m L T) N H x N' H' g:=by
 obtain⟨r,hr,h⟩:=aK h
 obtain⟨rfl,rfl,rfl,rfl⟩:=bO h
 obtain⟨z1,z2⟩:=iF zs
 obtain⟨k1,k2,k3⟩:=ue (ops:=ops) (o:=⟨dst,.build U ps,ty,pos,af,gd⟩) hT hp hr z1 (by rw[z2])
 refine bm hO hL ⟨k1,k2⟩ fun A Z w β a ht=>?_
 obtain⟨it,z,hi,hz,hzr⟩:=pN hz
 obtain⟨cells,hfl,hrd⟩:=k3 A Z w β a z.cells (fun p hp=>by simp only[Op.operands,List.mem_toArray,List.mem_map];exact⟨p,hp,rfl⟩) ht (by rw[z2];exact hzr _ _ _ _)
 refine⟨.agg cells,?_,cells,rfl,hrd⟩
 unfold v7 at hU
 split at hU
 ·rename_i fs hu
  have:=run_build (P:=P) w U (ps.map fun(i,x)=>(i,a.eval x)) cells (by
   unfold Program.built
   simp only[hi,hu,hz,hU]
   simpa using hfl)
  simp[execOp,this]
 ·cases hU
end
section
variable {P:Program}{ops:Array Oper}{o:Oper}{TT:TX}{m N:Nat}{L:LX}{T:Tr XV}{H:Tr Bx}{x:XV}
variable {N':Nat}{H':Tr Bx}{g:Lg}{call:eC}
variable {dst:Option Nat}{ty:TypeId}{pos:String}{af:Array Edge}{gd:Option (Nat×Bool)}
theorem lR {U e:TypeId}{sz by_:Nat}{zs:List AV}(h:EJ P U=some (e,sz,by_,zs)):P.underlying U=some (.slice e)∧ ∃i z,P.info? e=some i∧i.zero=some z∧i.size=sz∧i.bytes=by_∧zs.length=sz∧0<sz∧ ∀A Z w β,RdAs A Z w β z.cells.toList zs:=by
 unfold EJ at h
 split at h
 ·rename_i e' hu
  split at h
  ·rename_i i zs' hi hz
   cases hb:Nat.beq zs'.length i.size&&Nat.blt 0 i.size with
   |false=>rw[hb] at h;cases h
   |true=>
    rw[hb] at h
    have h:=Option.some.inj (show some (e',i.size,i.bytes,zs')=some (e,sz,by_,zs) from h)
    injection h with h1 h
    injection h with h2 h
    injection h with h3 h4
    subst h1 h2 h3 h4
    rw[Bool.and_eq_true] at hb
    obtain⟨it,z,g1,g2,g3⟩:=pN hz
    rw[hi] at g1
    injection g1 with g1
    subst g1
    exact⟨hu,i,z,hi,g2,rfl,rfl,Nat.eq_of_beq_eq_true hb.1,bU.1 hb.2,g3⟩
  ·cases h
 ·cases h
theorem nT {A Z:Nat→Prop}{w:World}{β:Nat→Pl}{z:Value}{zs:List AV}{sz:Nat}(hl:zs.length=sz) (hz:RdAs A Z w β z.cells.toList zs): ∀n:Nat,RdAs A Z w β ((List.range (n*sz)).map (fun j=>z.cells[j%z.cells.size]!)) (pB zs n):=by
 have hzs:z.cells.size=sz:=by rw[←hl,←hz.1];simp
 intro n
 induction n with
 |zero=>simp[pB];exact RdAs.nil
 |succ n ih=>
  rw[Nat.succ_mul,Nat.add_comm,List.range_add,List.map_append]
  refine RdAs.append ?_ ?_
  ·have e2:(List.range sz).map (fun j=>z.cells[j%z.cells.size]!)=z.cells.toList:=by
    apply List.ext_getElem (by simp[hzs])
    intro j h1 h2
    simp at h1
    simp only[List.getElem_map,List.getElem_range,hzs]
    rw[Nat.mod_eq_of_lt h1,getElem!_pos z.cells j (by omega)]
    simp
   rw[e2];exact hz
  ·have e3:(List.map (fun x=>sz+x) (List.range (n*sz))).map (fun j=>z.cells[j%z.cells.size]!)=(List.range (n*sz)).map (fun j=>z.cells[j%z.cells.size]!):=by
    rw[List.map_map]
    apply List.map_congr_left
    intro j _
    show z.cells[(sz+j)%z.cells.size]! =_
    rw[hzs,Nat.add_mod_left]
   rw[e3];exact ih
theorem qc (w:World) (t e:TypeId) (len:Nat) (parts:Array (Nat×Value)) (cells:Array Value) (ie:TypeInfo)
 (hu:P.underlying t=some (.slice e)) (hie:P.info? e=some ie) (hpos:len*ie.size=0) (h:Instr.fill (fun i=>some (i*ie.size,ie.size)) #[] parts.toList=some cells):
 (Instr.buildSlice t len parts).run P w=.ok (.slice (some ⟨w.heap.size,0,none⟩) len len) (w.alloc (.cells cells e)):=by
 have h0: ∀f:Nat→Value,Array.map f (Array.range 0)= #[]:=fun f=>by apply Array.eq_empty_of_size_eq_zero;simp
 simp[Instr.buildSlice,run_underlying hu,sizeOf,typeInfo,hie,hpos,h0,h,newRow]
theorem Pr (hT:gz (TS m L T)) (hO:fC H) (hL:fF N H) {U e:TypeId}{n sz by_:Nat}{ps:Array (Nat×Operand)}{zs:List AV}{qs:List (Nat×Nat×XO)}{x:XV}(hU:EJ P U=some (e,sz,by_,zs)) (hn:n*sz≤10000) (hp:Ml m (fun i=>some (i*sz,sz)) ps.toList=some qs)
 (h:Ku e n sz (jy sz (lI zs) n) qs call L T N H=some (.mk x N' H' g)):ek P ops ⟨dst,.buildSlice U n ps,ty,pos,af,gd⟩ (TS m L T) N H x N' H' g:=by
 obtain⟨r,hr,h⟩:=aK h
 obtain⟨rfl,rfl,rfl,rfl⟩:=ov h
 obtain⟨hu,i,z,hi,hz,hsz,hby,hzl,h0,hzr⟩:=lR hU
 obtain⟨z1,z2⟩:=iF zs
 obtain⟨r1,r2⟩:=ks (m:=sz) (z:=lI zs) (by rw[z2,hzl]) z1 n
 have r2':(jy sz (lI zs) n).flat=pB zs n:=by rw[r2,z2]
 have hlen:n*sz=(jy sz (lI zs) n).flat.length:=by rw[r2',mq,hzl]
 obtain⟨k1,k2,k3⟩:=ue (ops:=ops) (o:=⟨dst,.buildSlice U n ps,ty,pos,af,gd⟩) hT hp hr r1 hlen
 refine oV hO hL k1 k2 fun A Z w β a ht=>?_
 have hrow:=nT hzl (hzr A Z w β) n
 obtain⟨cells,hfl,hrd⟩:=k3 A Z w β a ((Array.range (n*sz)).map (z.cells[· %z.cells.size]!)) (fun p hp=>by simp only[Op.operands,List.mem_toArray,List.mem_map];exact⟨p,hp,rfl⟩) ht (by rw[r2'];simpa using hrow)
 have hcs:cells.size=n*sz:=by
  have h1:=hrd.1
  have h2:n*sz=r.flat.length:=k2
  simp at h1
  omega
 have hout: ∀A' Z' w' β',A' N→β' N=⟨w.heap.size,cells.size⟩→RdA A' Z' w' β' (.slice (some ⟨w.heap.size,0,none⟩) n n) (.s N 0 n n true sz):=by
  intro A' Z' w' β' hA hβ
  have hnl:n≤maxLen:=by
   have:n≤n*sz:=Nat.le_mul_of_pos_right n h0
   have:maxLen=9223372036854775807:=rfl
   omega
  have:=RdA.s (A:=A') (Z:=Z') (w:=w') (β:=β') N 0 n n true sz n hA (Nat.le_refl _) (Nat.le_refl _) hnl (fun _=>rfl) (by rw[hβ];show 0+n*sz≤cells.size;omega)
  rw[hβ] at this;exact this
 refine⟨.slice (some ⟨w.heap.size,0,none⟩) n n,cells,?_,hrd,hout⟩
 by_cases hpos:n*sz=0
 ·have hc:cells= #[]:=by
   apply Array.eq_empty_of_size_eq_zero;omega
  subst hc
  have hz0:(Array.range (n*sz)).map (z.cells[· %z.cells.size]!)= #[]:=by rw[hpos];apply Array.eq_empty_of_size_eq_zero;simp
  rw[hz0] at hfl
  subst hsz
  have hrun:=qc (P:=P) w U e n (ps.map fun(i,x)=>(i,a.eval x)) #[] i hu hi hpos (by simpa using hfl)
  simp only[execOp,Sem.run_bind,hrun,Result.andThen_ok,Sem.run_pure]
 ·subst hsz
  have hrun:=run_buildSlice (P:=P) w U e n (ps.map fun(i,x)=>(i,a.eval x)) cells i z hu hi hz (by have:(2:Nat)^24=16777216:=rfl;omega) hpos (by simpa using hfl)
  simp only[execOp,Sem.run_bind,hrun,Result.andThen_ok,Sem.run_pure]
theorem NT (_hT:gz (TS m L T)) (hO:fC H) (hL:fF N H) {U e:TypeId}{sz by_:Nat}{y z:Operand}{zs:List AV}{xo yo:XO}{x:XV}(hU:EJ P U=some (e,sz,by_,zs)) (h1:cO m y=some xo) (h2:cO m z=some yo)
 (h:Kn e sz by_ (lI zs) xo yo call L T N H=some (.mk x N' H' g)):ek P ops ⟨dst,.makeSlice U y z,ty,pos,af,gd⟩ (TS m L T) N H x N' H' g:=by
 obtain⟨v,hv,h⟩:=aK h
 obtain⟨v2,hv2,h⟩:=aK h
 obtain⟨ka,a,q1,h⟩:=li h
 obtain⟨kb,b,q2,h⟩:=li h
 subst q1 q2
 obtain⟨g1,h⟩:=bo h
 obtain⟨g2,h⟩:=bo h
 obtain⟨g3,h⟩:=bo h
 obtain⟨rfl,rfl,rfl,rfl⟩:=ov h
 rw[cZ] at g1 g2 g3
 obtain⟨hu,i,zv,hi,hz,hsz,hby,hzl,h0,hzr⟩:=lR hU
 obtain⟨z1,z2⟩:=iF zs
 obtain⟨r1,r2⟩:=ks (m:=sz) (z:=lI zs) (by rw[z2,hzl]) z1 b
 have r2':(jy sz (lI zs) b).flat=pB zs b:=by rw[r2,z2]
 have hlen:b*sz=(jy sz (lI zs) b).flat.length:=by rw[r2',mq,hzl]
 refine oV hO hL r1 hlen fun A Z w β ac ht=>?_
 have e1:ac.eval y=.int ka (a:Int):=RdA.i_eq (aU (o:=⟨dst,.makeSlice U y z,ty,pos,af,gd⟩) (by simp[Op.operands]) h1 hv ht)
 have e2:ac.eval z=.int kb (b:Int):=RdA.i_eq (aU (o:=⟨dst,.makeSlice U y z,ty,pos,af,gd⟩) (by simp[Op.operands]) h2 hv2 ht)
 have g2':(b*by_:Nat)≤140737488355328:=g2
 have hrun:=run_make (P:=P) w U e i zv hu hi hz ka kb a b (by omega) (by omega) (by rw[hby];have h2:((b*by_:Nat):Int)≤140737488355328:=Int.ofNat_le.2 g2';rw[Int.natCast_mul,Int.mul_comm] at h2;omega) (by omega)
 have hrow:=nT hzl (hzr A Z w β) b
 refine⟨.slice (some ⟨w.heap.size,0,none⟩) a b,madeCells zv.cells (b*sz),?_,?_,fun A' Z' w' β' hA hβ=>?_⟩
 ·simp only[execOp,e1,e2,Sem.run_bind,hrun,Result.andThen_ok,Sem.run_pure,hsz]
  simp
 ·rw[r2']
  unfold madeCells
  simpa using hrow
 ·have hbl:b≤maxLen:=by have:maxLen=9223372036854775807:=rfl;omega
  have:=RdA.s (A:=A') (Z:=Z') (w:=w') (β:=β') N 0 a b true sz b hA g1 (Nat.le_refl _) hbl (fun _=>rfl) (by rw[hβ];show 0+b*sz≤(madeCells zv.cells (b*sz)).size;simp[madeCells])
  rw[hβ] at this;exact this
end
section
variable {P:Program}{ops:Array Oper}{o:Oper}{TT:TX}{m N:Nat}{L:LX}{T:Tr XV}{H:Tr Bx}{x:XV}
variable {N':Nat}{H':Tr Bx}{g:Lg}{call:eC}
variable {dst:Option Nat}{ty:TypeId}{pos:String}{af:Array Edge}{gd:Option (Nat×Bool)}
variable {V A A':Nat→Prop}{Hm Hn:HF}{β β':Nat→Pl}{w w':World}
theorem Hst.less (h:Hst N N' A Hm β w Hn β' w') {H2:HF}(hs: ∀k c,H2 k=some c→Hn k=some c):Hst N N' A Hm β w H2 β' w':=by
 have hn: ∀k,H2 k≠none→Hn k≠none:=fun k hk=>by
  cases e:H2 k with
  |none=>exact absurd e hk
  |some c=>rw[hs k c e];simp
 exact⟨h.os,h.tape,h.output,h.size,h.blk,h.same,fun k hk=>h.own k (hn k hk),fun k hk=>h.nam k (hn k hk)⟩
theorem x5 (hm:Mem V A Hm β w):Mem V A Hm β w.drew:=by
 refine⟨hm.vlt,hm.dom,hm.lt,hm.inj,hm.clr,fun k U cs hk=>?_⟩
 obtain⟨vs,h1,h2,h3,h4⟩:=hm.box k U cs hk
 have hk2:Keep (Zs V Hm β) (Zs V Hm β) w w.drew:=⟨Nat.le_refl _,fun _ _ _=>rfl,fun _ _ h=>h⟩
 exact⟨vs,h1,h2,h3,h4.mono hk2 (fun _ h=>h) (fun _ _=>rfl)⟩
theorem IC (hm:Mem V A Hm β w) (hN: ∀k,A k→k≠N) {U:TypeId}{vs:Array Value}{cs:List AV}(hl:cs.length≤vs.size) (hr:RdAs A (Zs V Hm β) w β (vs.toList.take cs.length) cs):
 Mem V (fun k=>A k∨k=N) (fun k=>if k=N then some (U,cs) else Hm k) (fun k=>if k=N then⟨w.heap.size,vs.size⟩ else β k) (w.alloc (.cells vs U))∧
  Hst N (N+1) A Hm β w (fun k=>if k=N then some (U,cs) else Hm k) (fun k=>if k=N then⟨w.heap.size,vs.size⟩ else β k) (w.alloc (.cells vs U)):=by
 have hne: ∀k,(if k=N then some (U,cs) else Hm k)≠none→k≠N→Hm k≠none:=fun k hk e=>by rw[if_neg e] at hk;exact hk
 have hH:Hst N (N+1) A Hm β w (fun k=>if k=N then some (U,cs) else Hm k) (fun k=>if k=N then⟨w.heap.size,vs.size⟩ else β k) (w.alloc (.cells vs U)):=by
  refine⟨rfl,rfl,rfl,by simp,fun b hb _=>Below.heap_alloc _ _ _ hb,fun k hk=>if_neg (hN k hk),fun k hk=>?_,fun k hk=>?_⟩
  ·by_cases e:k=N
   ·rw[if_pos e];exact .inl (Nat.le_refl _)
   ·rw[if_neg e];exact .inr ⟨k,hne k hk e,rfl⟩
  ·by_cases e:k=N
   ·exact .inr ⟨Nat.le_of_eq e.symm,by omega⟩
   ·exact .inl (hne k hk e)
 have hkeep:=hH.keep hm
 refine⟨⟨fun b hb=>by rw[cH];exact Nat.lt_succ_of_lt (hm.vlt b hb),fun k hk=>?_,fun k hk=>?_,fun k l hk hl e=>?_,fun k hk hv=>?_,fun k U' cs' hk=>?_⟩,hH⟩
 ·by_cases e:k=N
  ·exact .inr e
  ·exact .inl (hm.dom k (hne k hk e))
 ·rw[cH]
  rcases hk with hk|hk
  ·rw[if_neg (hN k hk)];exact Nat.lt_succ_of_lt (hm.lt k hk)
  ·rw[if_pos hk];exact Nat.lt_succ_self _
 ·by_cases e1:k=N<;>by_cases e2:l=N
  ·rw[e1,e2]
  ·rw[if_pos e1,if_neg e2] at e
   have:=hm.lt l (hm.dom l (hne l hl e2))
   rw[←e] at this;exact absurd this (Nat.lt_irrefl _)
  ·rw[if_neg e1,if_pos e2] at e
   have:=hm.lt k (hm.dom k (hne k hk e1))
   rw[e] at this;exact absurd this (Nat.lt_irrefl _)
  ·rw[if_neg e1,if_neg e2] at e
   exact hm.inj k l (hne k hk e1) (hne l hl e2) e
 ·by_cases e:k=N
  ·rw[if_pos e] at hv;exact Nat.lt_irrefl _ (hm.vlt _ hv)
  ·rw[if_neg e] at hv;exact hm.clr k (hne k hk e) hv
 ·have hk':(if k=N then some (U,cs) else Hm k)=some (U',cs'):=hk
  by_cases e:k=N
  ·rw[if_pos e] at hk'
   injection hk' with hk'
   injection hk' with h1 h2
   subst h1 h2
   rw[if_pos e]
   exact⟨vs,heap_alloc_new w _,rfl,hl,hr.mono hkeep (fun _ h=>.inl h) hH.same⟩
  ·rw[if_neg e] at hk'
   obtain⟨vs',e1,e2,e3,e4⟩:=hm.box k U' cs' hk'
   rw[if_neg e]
   exact⟨vs',(Below.heap_alloc _ _ _ (hm.lt k (hm.dom k (by rw[hk'];simp)))).trans e1,e2,e3,e4.mono hkeep (fun _ h=>.inl h) hH.same⟩
theorem Is (hm:Mem V A Hm β w) (hN: ∀k,A k→k≠N) {k0:Nat}{U:TypeId}{cs:List AV}(hk0:Hm k0=some (U,cs)):
 Mem V (fun k=>A k∨k=N) (fun k=>if k=N then some (U,cs) else if k=k0 then none else Hm k) (fun k=>if k=N then β k0 else β k) w∧
  Hst N (N+1) A Hm β w (fun k=>if k=N then some (U,cs) else if k=k0 then none else Hm k) (fun k=>if k=N then β k0 else β k) w:=by
 have hA0:=hm.dom k0 (by rw[hk0];simp)
 have hne: ∀k,(if k=N then some (U,cs) else if k=k0 then none else Hm k)≠none→k≠N→k≠k0∧Hm k≠none:=fun k hk e=>by
  rw[if_neg e] at hk
  by_cases e2:k=k0
  ·rw[if_pos e2] at hk;exact absurd rfl hk
  ·rw[if_neg e2] at hk;exact⟨e2,hk⟩
 have hH:Hst N (N+1) A Hm β w (fun k=>if k=N then some (U,cs) else if k=k0 then none else Hm k) (fun k=>if k=N then β k0 else β k) w:=by
  refine⟨rfl,rfl,rfl,Nat.le_refl _,fun _ _ _=>rfl,fun k hk=>if_neg (hN k hk),fun k hk=>?_,fun k hk=>?_⟩
  ·by_cases e:k=N
   ·rw[if_pos e];exact .inr ⟨k0,by rw[hk0];simp,rfl⟩
   ·rw[if_neg e];exact .inr ⟨k,(hne k hk e).2,rfl⟩
  ·by_cases e:k=N
   ·exact .inr ⟨Nat.le_of_eq e.symm,by omega⟩
   ·exact .inl (hne k hk e).2
 have hkeep:=hH.keep hm
 refine⟨⟨hm.vlt,fun k hk=>?_,fun k hk=>?_,fun k l hk hl e=>?_,fun k hk hv=>?_,fun k U' cs' hk=>?_⟩,hH⟩
 ·by_cases e:k=N
  ·exact .inr e
  ·exact .inl (hm.dom k (hne k hk e).2)
 ·rcases hk with hk|hk
  ·rw[if_neg (hN k hk)];exact hm.lt k hk
  ·rw[if_pos hk];exact hm.lt k0 hA0
 ·by_cases e1:k=N<;>by_cases e2:l=N
  ·rw[e1,e2]
  ·rw[if_pos e1,if_neg e2] at e
   exact absurd (hm.inj k0 l (by rw[hk0];simp) (hne l hl e2).2 e).symm (hne l hl e2).1
  ·rw[if_neg e1,if_pos e2] at e
   exact absurd (hm.inj k k0 (hne k hk e1).2 (by rw[hk0];simp) e) (hne k hk e1).1
  ·rw[if_neg e1,if_neg e2] at e
   exact hm.inj k l (hne k hk e1).2 (hne l hl e2).2 e
 ·by_cases e:k=N
  ·rw[if_pos e] at hv;exact hm.clr k0 (by rw[hk0];simp) hv
  ·rw[if_neg e] at hv;exact hm.clr k (hne k hk e).2 hv
 ·have hk':(if k=N then some (U,cs) else if k=k0 then none else Hm k)=some (U',cs'):=hk
  by_cases e:k=N
  ·rw[if_pos e] at hk'
   injection hk' with hk'
   injection hk' with h1 h2
   subst h1 h2
   rw[if_pos e]
   obtain⟨vs',e1,e2,e3,e4⟩:=hm.box k0 U cs hk0
   exact⟨vs',e1,e2,e3,e4.mono hkeep (fun _ h=>.inl h) hH.same⟩
  ·rw[if_neg e] at hk'
   by_cases e2:k=k0
   ·rw[if_pos e2] at hk';cases hk'
   ·rw[if_neg e2] at hk'
    obtain⟨vs',e1,e3,e4,e5⟩:=hm.box k U' cs' hk'
    rw[if_neg e]
    exact⟨vs',e1,e3,e4,e5.mono hkeep (fun _ h=>.inl h) hH.same⟩
theorem CN {U e:TypeId}{sz:Nat}{y:AV}{f:Nat→Rp→Option Rs}{r:Rs}(hu:P.underlying U=some (.slice e)) (hO:fC H) (h:Nu H e sz y f=some r): ∃q ys,f q ys=some r∧ys.ok∧ys.flat.length=q*sz∧
 (∀V A β w v,Mem V A (HS H) β w→RdA A (Zs V (HS H) β) w β v y→ ∃news,Src P sz U v q news w∧RdAs A (Zs V (HS H) β) w β news ys.flat)∧(q=0→ ∀A Z β w v,RdA A Z w β v y→Src P sz U v 0 [] w):=by
 have hz0: ∀ {A Z:Nat→Prop}{β:Nat→Pl}{w:World}{v:Value},RdA A Z w β v .z→Src P sz U v 0 [] w:=fun h=>by rw[h.z_eq];exact Src.ofNil _ hu 0
 have he0: ∀ {A Z:Nat→Prop}{β:Nat→Pl}{w:World}{v:Value},RdA A Z w β v .ev→Src P sz U v 0 [] w:=fun h=>by
  obtain⟨a,c,e1,_,_⟩:=h.ev_eq
  rw[e1]
  cases a with
  |none=>exact Src.ofNil _ hu c
  |some a=>exact Src.ofSlice _ hu a 0 c [] (by simp) (fun j u hj=>by simp at hj) (fun _ h=>by cases h)
 rcases gc h with⟨k,off,q,lo,ex,m',rfl,h⟩|⟨rfl,h⟩|⟨rfl,h⟩
 ·obtain⟨b,hb,h⟩:=aK h
  obtain⟨g1,h⟩:=bo h
  obtain⟨g2,h⟩:=bo h
  obtain⟨g3,hfin⟩:=bo h
  have g1:=Nat.eq_of_beq_eq_true g1
  have g2:=Nat.eq_of_beq_eq_true g2
  rw[cZ] at g3
  subst g1 g2
  obtain⟨hb1,hb2⟩:=hO k b hb
  have g3':off+q*sz≤b.n:=g3
  obtain⟨k1,k2⟩:=fP b.r b.n off (q*sz) hb1 hb2 g3'
  refine⟨q,e8 b.r b.n off (q*sz),hfin,k1,by rw[k2];simp;omega,fun V A β w v hm hr=>?_,fun hq A Z β w v hr=>?_⟩
  ·obtain⟨c,e1,hk,c1,c2,c3,c4,c5⟩:=hr.s_eq
   obtain⟨vs,ev,hz,hl,hrd⟩:=hm.box k b.U b.r.flat (jW hb)
   have hr2:=(hrd.drop off).take (q*sz)
   have hle:off+q*sz≤b.r.flat.length:=by rw[←hb2];exact g3'
   have hlen:((vs.toList.take b.r.flat.length).drop off).take (q*sz)=(vs.toList.drop off).take (q*sz):=by
    rw[List.drop_take,List.take_take,Nat.min_eq_left (by omega)]
   rw[hlen] at hr2
   refine⟨(vs.toList.drop off).take (q*sz),?_,by rw[k2];exact hr2⟩
   rw[e1]
   refine Src.ofSlice w hu _ q c _ (by simp;omega) (fun j u hj=>?_) hr2.one
   rw[dO]
   rw[List.getElem?_take] at hj
   split at hj
   ·rw[bq ev,←hj];simp
   ·cases hj
  ·obtain⟨c,e1,_⟩:=hr.s_eq
   rw[e1,hq]
   exact Src.ofSlice w hu _ 0 c [] (by simp) (fun j u hj=>by simp at hj) (fun _ h=>by cases h)
 ·exact⟨0,.e,h,trivial,by simp[Rp.flat],fun V A β w v _ hr=>⟨[],hz0 hr,RdAs.nil⟩,fun _ A Z β w v hr=>hz0 hr⟩
 ·exact⟨0,.e,h,trivial,by simp[Rp.flat],fun V A β w v _ hr=>⟨[],he0 hr,RdAs.nil⟩,fun _ A Z β w v hr=>he0 hr⟩
theorem ky {y x:XV}{N1 N':Nat}{H0 H1 H':Tr Bx}{g:Lg}(h:GI y N1 H0 H1=some (.mk x N' H' g)):x=y∧N'=N1∧H'=H1∧g=.c H0 H1:=by
 unfold GI at h
 injection h with h
 injection h with h1 h2 h3 h4
 exact⟨h1.symm,h2.symm,h3.symm,h4.symm⟩
theorem o4 (hx:sE x) (hO':fC H') (hL':fF N' H') (hle:N≤N') (hrun:ND P ops o TT ⟨x,HS H,HS H',N,N'⟩):ek P ops o TT N H x N' H' (.c H H'):=by
 have hf:Foot N N' H H' (HS H) (HS H') (.c H H'):=⟨rfl,rfl,rfl,rfl⟩
 refine⟨hle,hx,hO',hL',HS H,HS H',hrun,fun k c h=>h,fun k c h=>?_,hf⟩
 unfold eJ;rw[h]
theorem jd {U:TypeId}{y z:Operand}{a:Act}{w w':World}{v:Value}(h:(Builtin.append_ #[U,U] ty #[a.eval y,a.eval z]).run P w=.ok v w'):(execOp a.eval ⟨dst,.call ⟨.builtin .append,#[y,z],#[U,U]⟩,ty,pos,af,gd⟩).run P w=.ok (.value v) w':=by
 simp only[execOp,resolve,invoke,builtin,Sem.run_bind,Sem.run_pure,Result.andThen_ok,List.map_toArray,List.map_cons,List.map_nil]
 rw[h]
 rfl
theorem oy (hm:Mem V A Hm β w) (hN: ∀k,A k→k≠N) {e:TypeId}{i:TypeInfo}{z:Value}(hsz:z.cells.size=i.size) {n q c':Nat}{olds news:List Value}{us:List AV}
 (hl:(olds++news).length=(n+q)*i.size) (hr:RdAs A (Zs V Hm β) w β (olds++news) us) (hc1:n+q≤c') (hc2:c'≤maxLen):
 ∃A' β',(∀k,A k→A' k)∧(∀k,A' k→Ad A N (N+1) k)∧Mem V A' (fun k=>if k=N then some (e,us) else Hm k) β' (w.drew.alloc (.cells ((olds++news).toArray++Builtin.zeroCells z.cells (c'-(n+q))) e))∧
  Hst N (N+1) A Hm β w (fun k=>if k=N then some (e,us) else Hm k) β' (w.drew.alloc (.cells ((olds++news).toArray++Builtin.zeroCells z.cells (c'-(n+q))) e))∧
  ∀Z w',RdA A' Z w' β' (.slice (some ⟨w.heap.size,0,none⟩) (n+q) c') (.s N 0 (n+q) (n+q) false i.size):=by
 have hul:us.length=(n+q)*i.size:=by rw[←hr.1,hl]
 have hzl:(Builtin.zeroCells z.cells (c'-(n+q))).size=(c'-(n+q))*i.size:=by unfold Builtin.zeroCells;simp[hsz]
 have hvs:((olds++news).toArray++Builtin.zeroCells z.cells (c'-(n+q))).size=c'*i.size:=by
  rw[Array.size_append,hzl]
  show(olds++news).length+_=_
  rw[hl,←Nat.add_mul];congr 1;omega
 obtain⟨m1,m2⟩:=IC (U:=e) (vs:=(olds++news).toArray++Builtin.zeroCells z.cells (c'-(n+q))) (cs:=us) (x5 hm) hN (by rw[hvs,hul];exact Nat.mul_le_mul_right _ hc1) (by
  have e1:((olds++news).toArray++Builtin.zeroCells z.cells (c'-(n+q))).toList.take us.length=olds++news:=by
   rw[Array.toList_append,List.take_append_of_le_length (by rw[hul,←hl];exact Nat.le_refl _),List.take_of_length_le (by rw[hul,←hl];exact Nat.le_refl _)]
  rw[e1]
  have hk2:Keep (Zs V Hm β) (Zs V Hm β) w w.drew:=⟨Nat.le_refl _,fun _ _ _=>rfl,fun _ _ h=>h⟩
  exact hr.mono hk2 (fun _ h=>h) (fun _ _=>rfl))
 refine⟨_,_,fun k hk=>.inl hk,fun k hk=>?_,m1,⟨m2.os,m2.tape,m2.output,m2.size,m2.blk,m2.same,m2.own,m2.nam⟩,fun Z w'=>?_⟩
 ·rcases hk with hk|hk
  ·exact .inl hk
  ·exact .inr ⟨Nat.le_of_eq hk.symm,by omega⟩
 ·have:=RdA.s (A:=fun k=>A k∨k=N) (Z:=Z) (w:=w') (β:=fun k=>if k=N then⟨w.drew.heap.size,((olds++news).toArray++Builtin.zeroCells z.cells (c'-(n+q))).size⟩ else β k) N 0 (n+q) (n+q) false i.size c' (.inr rfl) (Nat.le_refl _) hc1 hc2 (fun e=>by cases e) (by
   show 0+c'*i.size≤(if N=N then(⟨w.drew.heap.size,_⟩:Pl) else β N).z
   rw[if_pos rfl]
   show 0+c'*i.size≤((olds++news).toArray++Builtin.zeroCells z.cells (c'-(n+q))).size
   omega)
  have e2:(if N=N then(⟨w.drew.heap.size,((olds++news).toArray++Builtin.zeroCells z.cells (c'-(n+q))).size⟩:Pl) else β N)=⟨w.drew.heap.size,((olds++news).toArray++Builtin.zeroCells z.cells (c'-(n+q))).size⟩:=if_pos rfl
  rw[e2] at this
  exact this
end
end Go.Proofs.YtacopbfkmnpfgaaGreat
