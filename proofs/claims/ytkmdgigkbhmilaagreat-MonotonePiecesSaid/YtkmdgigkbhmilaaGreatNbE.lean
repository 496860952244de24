/-Data:calls,new memory,stores;code. -/
import Derived.Test.YtkmdgigkbhmilaaGreatNbD
import Derived.Laws.MakeOwn
import Derived.Deep.AppendSrc
import Derived.Great.BuildSlice
namespace Go.Proofs.YtkmdgigkbhmilaaGreat
open Go Go.RowKit
variable {ty:TypeId}{pos:String}{af:Array Edge}{g:Option (Nat×Bool)}{dst:Option Nat}
def DV.d0:DV→Option D0
 | .v d=>some d
 |_=>none
def nI (T:TF):List Operand→Option (List D0)
 |[]=>some []
 |x::xs=>match di T x with
  |some (.v d)=>match nI T xs with
   |some ds=>some (d::ds)
   |none=>none
  |_=>none
def s8:List D0→DV
 |[d]=>.v d
 |ds=>.t ds
def qG (pl:Nat→Option (Nat×Nat)):List CellD→List (Nat×D0)→Option (List CellD)
 |us,[]=>some us
 |us,(i,d)::rest=>match pl i with
  |none=>none
  |some (off,size)=>if Nat.beq d.cells.length size&&Nat.ble (off+size) us.length then qG pl (us.take off++d.cells++us.drop (off+size)) rest else none
def pT (T:TF):List (Nat×Operand)→Option (List (Nat×D0))
 |[]=>some []
 |(i,x)::xs=>match di T x with
  |some (.v d)=>match pT T xs with
   |some ds=>some ((i,d)::ds)
   |none=>none
  |_=>none
def qP (P:Program) (U:TypeId):Option Nat:=
 match P.underlying U with
 |some (.slice e)=>(P.info? e).map (·.size)
 |_=>none
section
variable {P:Program}{ops:Array Oper}{o:Oper}{T:TF}{B:BF}{V:Nat→Prop}{β:Nat→Nat}{a:Act}{w:World}
theorem gU (hs:Sees V (gy ops o) T B β a w): ∀(xs:List Operand) (ds:List D0),(∀x∈xs,x∈o.op.operands)→nI T xs=some ds→RdL V w (xs.map a.eval) ds
 |[],ds,_,h=>by injection h with h;subst h;exact RdL.nil
 |x::xs,ds,hx,h=>by
  unfold nI at h
  split at h
  ·rename_i d hd
   split at h
   ·rename_i ds' hds
    injection h with h
    subst h
    exact RdL.cons (aS hs (hx x (by simp)) hd) (gU hs xs ds' (fun y hy=>hx y (by simp[hy])) hds)
   ·cases h
  ·cases h
theorem L5 {fo:Operand}{args:Array Operand}{at_:Array TypeId}{f:FuncId}{ds rs:List D0}
 (hf:di T fo=some (.v (.c (.f f)))) (ha:nI T args.toList=some ds) (hok:Ok P f ds rs) (hg:gd ops ⟨dst,.call ⟨.value fo,args,at_⟩,ty,pos,af,g⟩ T=some true):
 Sem P ops ⟨dst,.call ⟨.value fo,args,at_⟩,ty,pos,af,g⟩ T B (.r (s8 rs)):=by
 refine⟨mG (by unfold s8;split<;>rfl),fun V β a w hs=>⟨d8 hs hg,?_⟩⟩
 have h1:=RdC.func_eq (aS hs (x:=fo) (by simp[Op.operands,Call.operands]) hf)
 have h2:=gU hs args.toList ds (fun x hx=>by have hx2:=Array.mem_toList_iff.1 hx;simp[Op.operands,Call.operands,hx2]) ha
 have hc:=hok.cal
 unfold fg at hc
 cases hfn:P.funcs[f]? with
 |none=>rw[hfn] at hc;cases hc
 |some fn=>
  rw[hfn] at hc
  simp only[Bool.and_eq_true,bne_iff_ne,ne_eq,Bool.not_eq_true'] at hc
  have hrun:(execOp a.eval ⟨dst,.call ⟨.value fo,args,at_⟩,ty,pos,af,g⟩).run P w=.ok (.enter f (args.map a.eval)) w:=by
   have hb2:fn.body≠none:=by have:=hc.2;cases hbb:fn.body with
    |none=>rw[hbb] at this;cases this
    |some c=>simp
   simp[execOp,resolve,h1,Deferred.ofValue,invoke,callFunc,program,Sem.run,hfn,hc.1,hb2]
  unfold Gives
  rw[hrun]
  refine(hok.run V (args.map a.eval) w hs.av (by simpa using h2)).mono ?_
  rintro e w' ⟨v,rfl,hr,hb⟩
  refine⟨v,rfl,?_,hb⟩
  unfold OY at hr
  split at hr
  ·exact hr
  ·rename_i hne
   have e2:s8 rs=.t rs:=by
    unfold s8
    split
    ·rename_i d;exact absurd rfl (hne d)
    ·rfl
   rw[e2];exact hr
theorem Mk {x:Operand}{U:TypeId}{n m:Nat}{xs:List CellD}
 (hU:qP P U=some m) (hx:di T x=some (.v (.c (.s n xs)))) (hg:gd ops ⟨dst,.call ⟨.builtin .len,#[x],#[U]⟩,ty,pos,af,g⟩ T=some true):
 Sem P ops ⟨dst,.call ⟨.builtin .len,#[x],#[U]⟩,ty,pos,af,g⟩ T B (.r (.v (.c (.i .i64 n)))):=
 bO hg (mG rfl) (fun V β a w hs=>by
  have h1:=aS hs (x:=x) (by simp[Op.operands,Call.operands]) hx
  have h2: ∃A c,a.eval x=.slice A n c:=by
   generalize a.eval x=v at h1
   have h1:RdC V w v (.s n xs):=h1
   cases h1 with
   |s0 A c _=>exact⟨A,c,rfl⟩
   |s b off c _ _ _ _=>exact⟨_,c,rfl⟩
  obtain⟨A,c,e⟩:=h2
  unfold qP at hU
  split at hU
  ·rename_i el hu
   refine⟨.int .i64 n,?_,.i _ _⟩
   simp[execOp,resolve,invoke,builtin,Builtin.len_,e,run_underlying hu,goInt]
  ·cases hU)
theorem p5 {m q q':Nat}(h:(List.range m)[q]? =some q'):q<m∧q'=q:=by
 obtain⟨hlt,e⟩:=List.getElem?_eq_some_iff.1 h
 simp at hlt e
 exact⟨hlt,e.symm⟩
theorem aW {x i:Operand}{U:TypeId}{n m:Nat}{xs us:List CellD}{k:IntKind}{j:Int}
 (hU:qP P U=some m) (hx:di T x=some (.v (.c (.s n xs)))) (hi:di T i=some (.v (.c (.i k j)))) (hj:0≤j∧j<n) (hl:xs.length=n*m) (hu:xs.drop (j.toNat*m)=us) (hg:gd ops ⟨dst,.indexAddr U x i,ty,pos,af,g⟩ T=some true):
 Sem P ops ⟨dst,.indexAddr U x i,ty,pos,af,g⟩ T B (.r (.q us)):=
 bO hg (mG rfl) (fun V β a w hs=>by
  have h1:=aS hs (x:=x) (by simp[Op.operands]) hx
  have h2:=RdC.int_eq (aS hs (x:=i) (by simp[Op.operands]) hi)
  generalize hv:a.eval x=v at h1
  have h1:RdC V w v (.s n xs):=h1
  unfold qP at hU
  split at hU
  case h_2=>cases hU
  rename_i el hul
  cases hinf:P.info? el with
  |none=>rw[hinf] at hU;cases hU
  |some inf=>
   rw[hinf] at hU
   simp at hU
   cases h1 with
   |s0 A c _=>omega
   |s b off c sz _ _ cv h0 hnc hcm hlen hb hav hc hr=>
    have hsz:sz=m:=by
     rw[hl] at hlen
     exact(Nat.eq_of_mul_eq_mul_left h0 hlen).symm
    subst hsz
    refine⟨.pointer (some ⟨b,off+j.toNat*sz,none⟩),?_,b,off+j.toNat*sz,(List.range (n*sz-j.toNat*sz)).map (fun q=>cv (j.toNat*sz+q)),rfl,hb,hav,?_,?_⟩
    ·have hso: ∀w,(sizeOf el).run P w=.ok sz w:=fun w=>by unfold sizeOf typeInfo;simp[program,Sem.run,hinf,hU]
     simp[execOp,Instr.indexAt,hv,h2,asIntOf,run_underlying hul,hj.1,hj.2,hso,jb]
    ·rw[←hu]
     refine⟨by simp[hl],fun q v u hv hu=>?_⟩
     rw[List.getElem?_drop] at hu
     rw[List.getElem?_map] at hv
     generalize hq:(List.range (n*sz-j.toNat*sz))[q]? =r at hv
     match r,hq,hv with
     |some q',hq,hv=>
      simp at hv
      obtain⟨_,rfl⟩:=p5 hq
      subst hv
      exact hr _ u hu
    ·intro q u hq
     rw[List.getElem?_map] at hq
     generalize hq2:(List.range (n*sz-j.toNat*sz))[q]? =r at hq
     match r,hq2,hq with
     |some q',hq2,hq=>
      simp at hq
      obtain⟨hlt,rfl⟩:=p5 hq2
      subst hq
      rw[Nat.add_assoc]
      exact hc _ (by omega))
theorem u4 (off:Nat): ∀(l:List Value) (k:Nat) (cells:Array Value),off+k+l.length≤cells.size→
 ((l.zipIdx k).foldl (fun(cs:Array Value) (p:Value×Nat)=>cs.setIfInBounds (off+p.2) p.1) cells).toList=cells.toList.take (off+k)++l++cells.toList.drop (off+k+l.length)
 |[],k,cells,_=>by simp
 |v::l,k,cells,h=>by
  simp at h
  rw[List.zipIdx_cons,List.foldl_cons,u4 off l (k+1) _ (by simp;omega)]
  simp only[Array.toList_setIfInBounds]
  have e1:(cells.toList.set (off+k) v).take (off+(k+1))=cells.toList.take (off+k)++[v]:=by
   apply List.ext_getElem?
   intro j
   rw[List.getElem?_take,List.getElem?_append,List.getElem?_set,List.getElem?_take]
   by_cases h1:j<off+k
   ·simp[h1,show j<off+(k+1) by omega,show off+k≠j by omega,show j<min (off+k) cells.size by omega]
   ·by_cases h2:j=off+k
    ·subst h2;simp[show off+k<cells.size by omega,show min (off+k) cells.size=off+k by omega]
    ·have h3:j-(off+k)≠0:=by omega
     simp[show ¬j<off+(k+1) by omega,show min (off+k) cells.size=off+k by omega,h3];omega
  have e2:(cells.toList.set (off+k) v).drop (off+(k+1)+l.length)=cells.toList.drop (off+k+(v::l).length):=by
   rw[List.drop_set_of_lt (by omega)]
   congr 1
   simp;omega
  rw[e1,e2];simp
theorem re {pl:Nat→Option (Nat×Nat)}: ∀(ps:List (Nat×Value)) (dps:List (Nat×D0)) (cells:Array Value) (us us':List CellD),ps.length=dps.length→
 (∀(j:Nat) (p:Nat×Value) (q:Nat×D0),ps[j]? =some p→dps[j]? =some q→p.1=q.1∧RdV V w p.2 q.2)→RdCs V w cells.toList us→qG pl us dps=some us'→ ∃cells',Instr.fill pl cells ps=some cells'∧RdCs V w cells'.toList us'
 |[],[],cells,us,us',_,_,hr,h=>by
  simp[qG] at h;subst h;exact⟨cells,rfl,hr⟩
 |[],q::dps,_,_,_,hl,_,_,_=>by simp at hl
 |p::ps,[],_,_,_,hl,_,_,_=>by simp at hl
 |(i,v)::ps,(i',d)::dps,cells,us,us',hl,hp,hr,h=>by
  obtain⟨e,hv⟩:=hp 0 (i,v) (i',d) rfl rfl
  have e:i=i':=e
  subst e
  unfold qG at h
  cases hpl:pl i with
  |none=>rw[hpl] at h;cases h
  |some os=>
   obtain⟨off,size⟩:=os
   rw[hpl] at h
   dsimp only at h
   split at h
   ·rename_i hc
    simp only[Bool.and_eq_true] at hc
    have h1:=Nat.eq_of_beq_eq_true hc.1
    have h2:=Nat.le_of_ble_eq_true hc.2
    have hvc:=RdV.cells hv
    have hsz:v.cells.size=size:=by rw[←h1,←hvc.1];simp
    have husz:us.length=cells.size:=by rw[←hr.1];simp
    have hfr:=u4 off v.cells.toList 0 cells (by simp;omega)
    have hrd:RdCs V w ((v.cells.zipIdx.foldl (fun(cs:Array Value) (p:Value×Nat)=>cs.setIfInBounds (off+p.2) p.1) cells)).toList (us.take off++d.cells++us.drop (off+size)):=by
     rw[←Array.foldl_toList]
     have:v.cells.zipIdx.toList=v.cells.toList.zipIdx:=by simp
     rw[this,hfr]
     refine RdCs.append (RdCs.append (by simpa using hr.take off) hvc) ?_
     have:=hr.drop (off+size)
     simpa [hsz] using this
    obtain⟨cells',e',hr'⟩:=re ps dps _ _ us' (by simpa using hl) (fun j p q hp' hq'=>hp (j+1) p q (by simpa using hp') (by simpa using hq')) hrd h
    refine⟨cells',?_,hr'⟩
    unfold Instr.fill
    rw[hpl]
    dsimp only
    rw[if_neg (by simp[hsz];omega)]
    exact e'
   ·cases h
theorem ts {U:TypeId}{zs:List CellD}(h:zn P U=some zs): ∃it z,P.info? U=some it∧it.zero=some z∧RdCs V w z.cells.toList zs:=by
 unfold zn at h
 cases hi:P.info? U with
 |none=>rw[hi] at h;cases h
 |some it=>
  rw[hi] at h
  dsimp only at h
  cases hz:it.zero with
  |none=>rw[hz] at h;cases h
  |some z=>
   rw[hz] at h
   dsimp only at h
   cases hc:Qw z with
   |none=>rw[hc] at h;cases h
   |some d=>
    rw[hc] at h
    simp at h
    subst h
    exact⟨it,z,rfl,hz,RdV.cells (xU hc)⟩
theorem oP (hs:Sees V (gy ops o) T B β a w): ∀(ps:List (Nat×Operand)) (dps:List (Nat×D0)),(∀p∈ps,p.2∈o.op.operands)→pT T ps=some dps→
 (ps.map fun(i,x)=>(i,a.eval x)).length=dps.length∧ ∀(j:Nat) (p:Nat×Value) (q:Nat×D0),(ps.map fun(i,x)=>(i,a.eval x))[j]? =some p→dps[j]? =some q→p.1=q.1∧RdV V w p.2 q.2
 |[],dps,_,h=>by injection h with h;subst h;exact⟨rfl,fun j p q hp=>by simp at hp⟩
 |(i,x)::ps,dps,hx,h=>by
  unfold pT at h
  split at h
  ·rename_i d hd
   split at h
   ·rename_i ds hds
    injection h with h
    subst h
    obtain⟨h1,h2⟩:=oP hs ps ds (fun p hp=>hx p (by simp[hp])) hds
    refine⟨by simpa using h1,fun j p q hp hq=>?_⟩
    cases j with
    |zero=>
     simp at hp hq
     subst hp hq
     exact⟨rfl,aS hs (hx (i,x) (by simp)) hd⟩
    |succ j=>exact h2 j p q (by simpa using hp) (by simpa using hq)
   ·cases h
  ·cases h
theorem aN {U:TypeId}{ps:Array (Nat×Operand)}{pl:List (Nat×Nat)}{zs us:List CellD}{dps:List (Nat×D0)}
 (hU:Ep P U=some pl) (hz:zn P U=some zs) (hp:pT T ps.toList=some dps) (hf:qG (fun i=>pl[i]?) zs dps=some us) (hg:gd ops ⟨dst,.build U ps,ty,pos,af,g⟩ T=some true):
 Sem P ops ⟨dst,.build U ps,ty,pos,af,g⟩ T B (.r (.v (.a us))):=
 bO hg (mG rfl) (fun V β a w hs=>by
  obtain⟨it,z,hi,hz,hr⟩:=ts (V:=V) (w:=w) hz
  obtain⟨h1,h2⟩:=oP hs ps.toList dps (fun p hp=>by simp only[Op.operands,List.mem_toArray,List.mem_map];exact⟨p,hp,rfl⟩) hp
  obtain⟨cells,hfl,hrd⟩:=re _ dps z.cells zs us h1 h2 hr hf
  refine⟨.agg cells,?_,cells,rfl,hrd⟩
  unfold Ep at hU
  split at hU
  ·rename_i fs hu
   have:=run_build (P:=P) w U (ps.map fun(i,x)=>(i,a.eval x)) cells (by
    unfold Program.built
    simp only[hi,hu,hz,hU]
    simpa using hfl)
   simp[execOp,this]
  ·cases hU)
theorem ai {U:TypeId}{zs:List CellD}
 (hz:zn P U=some zs) (hg:gd ops ⟨dst,.alloc U,ty,pos,af,g⟩ T=some true):Sem P ops ⟨dst,.alloc U,ty,pos,af,g⟩ T B (.a U zs none):=fun V β a w hs=>⟨d8 hs hg,by
 obtain⟨it,z,hi,hz,hr⟩:=ts (V:=V) (w:=w) hz
 have hrun:(execOp a.eval ⟨dst,.alloc U,ty,pos,af,g⟩).run P w=.ok (.value (.pointer (some ⟨w.heap.size,0,none⟩))) (w.alloc (.cells z.cells U)):=by
  simp[execOp,Instr.alloc,zeroValue,typeInfo,program,Sem.run,hi,hz,newVar,newRow,newObj]
  try rfl
 unfold Gives
 rw[hrun]
 exact⟨z.cells,rfl,rfl,hr⟩⟩
theorem EQ {U:TypeId}{x:Operand}{d:D0}
 (hx:di T x=some (.v d)) (hg:gd ops ⟨dst,.box U x,ty,pos,af,g⟩ T=some true):Sem P ops ⟨dst,.box U x,ty,pos,af,g⟩ T B (.a U d.cells none):=fun V β a w hs=>⟨d8 hs hg,by
 have h1:RdV V w (a.eval x) d:=aS hs (x:=x) (by simp[Op.operands]) hx
 have hrun:(execOp a.eval ⟨dst,.box U x,ty,pos,af,g⟩).run P w=.ok (.value (.pointer (some ⟨w.heap.size,0,none⟩))) (w.alloc (.cells (a.eval x).cells U)):=by
  simp[execOp,Instr.box,Sem.run,newVar,newRow,newObj]
  try rfl
 unfold Gives
 rw[hrun]
 exact⟨_,rfl,rfl,RdV.cells h1⟩⟩
theorem kX {w:World}{b:Nat}{old cs:Array Value}{U:TypeId}(h:w.heap[b]? =some (.cells old U (0,0))):(w.setRow b cs).heap=w.heap.setIfInBounds b (.cells cs U (0,0)):=by
 obtain⟨hlt,hv⟩:=Array.getElem?_eq_some_iff.1 h
 apply Array.ext (by simp[World.setRow])
 intro i h1 h2
 simp only[World.setRow,Array.getElem_modify]
 by_cases e:b=i
 ·subst e;simp[hv]
 ·rw[if_neg e,Array.getElem_setIfInBounds_ne (by simpa [World.setRow] using h1) e]
theorem bm {U:TypeId}{ax x:Operand}{k off n:Nat}{q:Bool}{W:TypeId}{cs us:List CellD}{d:D0}
 (hU:nv P U=some (q,n)) (ha:di T ax=some (.p k off)) (hx:di T x=some (.v d)) (hb:B k=some (W,cs)) (hn:d.cells.length=n) (ho:off+n≤cs.length) (hu:cs.take off++d.cells++cs.drop (off+n)=us)
 (hg:gd ops ⟨none,.store U ax x,ty,pos,af,g⟩ T=some true):Sem P ops ⟨none,.store U ax x,ty,pos,af,g⟩ T B (.s k W us):=by
 refine⟨rfl,⟨cs,hb⟩,fun V β a w hs=>⟨d8 hs hg,?_⟩⟩
 have hp:a.eval ax=.pointer (some ⟨β k,off,none⟩):=aS hs (by simp[Op.operands]) ha
 have h1:RdV V w (a.eval x) d:=aS hs (x:=x) (by simp[Op.operands]) hx
 have hc:=RdV.cells h1
 obtain⟨_,vs,e,hr⟩:=hs.box k W cs hb
 obtain⟨_,hsz⟩:=s6 hU w
 have hl:(a.eval x).cells.size=n:=by rw[←hn,←hc.1];simp
 have hone: ∀v∈(a.eval x).cells.toList,v.oneCell'=true:=by
  intro v hv
  obtain⟨j,hj⟩:=List.getElem?_of_mem hv
  have hlt:j<d.cells.length:=by rw[←hc.1];exact(List.getElem?_eq_some_iff.1 hj).1
  have:=hc.2 j v _ hj (List.getElem?_eq_getElem hlt)
  generalize d.cells[j]=u at this
  cases this<;>rfl
 have hvl:vs.size=cs.length:=by rw[←hr.1];simp
 have hst:=run_storeCells_at (P:=P) (β k) off W (a.eval x).cells.toList 0 vs w e (by simp;omega) hone
 have hrun:(execOp a.eval ⟨none,.store U ax x,ty,pos,af,g⟩).run P w=.ok .skip (w.setRow (β k) (vs.toList.take (off+0)++(a.eval x).cells.toList++vs.toList.drop (off+0+(a.eval x).cells.toList.length)).toArray):=by
  simp only[execOp,Instr.storeAt,hp,Instr.sureAddr,storeVar,Sem.run_bind,Sem.run_pure,Result.andThen_ok,hsz]
  rw[if_neg (by simp[hl])]
  rw[hst]
  rfl
 unfold Gives
 rw[hrun]
 refine⟨_,kX e,rfl,rfl,rfl,?_⟩
 rw[←hu]
 simp only[Nat.add_zero]
 have e2:(a.eval x).cells.toList.length=n:=by simpa using hl
 rw[e2]
 exact RdCs.append (RdCs.append (hr.take off) hc) (hr.drop (off+n))
end
def Dw (P:Program) (c:Code) (σ:St) (Q:Exit→St→Prop):Prop:= ∀av w0 β a w,Rel av w0 σ.n σ.T σ.B β a w→
 c.wp P (fun e a' w'=> ∃σ' β',σ'.n=σ.n∧Q e σ'∧Rel av w0 σ'.n σ'.T σ'.B β' a' w') a w
def Wg (K:St→Prop):Exit→St→Prop
 | .normal,σ=>K σ
 |_,_=>False
def Cy (K:St→Prop) (Q:Exit→St→Prop):Exit→St→Prop
 | .normal,σ=>K σ
 |e,σ=>Q e σ
def Qn (id:Nat) (Q:Exit→St→Prop):Exit→St→Prop
 | .exit id',σ=>bif Nat.beq id' id then Q .normal σ else Q (.exit id') σ
 |e,σ=>Q e σ
section
variable {P:Program}{σ:St}{Q Q':Exit→St→Prop}
theorem Dw.mono {c:Code}(h:Dw P c σ Q) (hq: ∀e σ',Q e σ'→Q' e σ'):Dw P c σ Q':=fun av w0 β a w hr=>
 Code.wp_mono (fun _ _ _ ⟨σ',β',h1,h2,h3⟩=>⟨σ',β',h1,hq _ _ h2,h3⟩) (h av w0 β a w hr)
theorem ao (h:Q .normal σ):Dw P .skip σ Q:=fun _ _ β _ _ hr=>wp_skip ⟨σ,β,rfl,h,hr⟩
theorem an (h:Q .ret σ):Dw P .ret σ Q:=fun _ _ β _ _ hr=>wp_ret ⟨σ,β,rfl,h,hr⟩
theorem bj {id:Nat}(h:Q (.exit id) σ):Dw P (.exit id) σ Q:=fun _ _ β _ _ hr=>wp_exit ⟨σ,β,rfl,h,hr⟩
theorem aa {x y:Code}(h:Dw P x σ (Cy (fun σ'=>Dw P y σ' Q) Q)):Dw P (.seq x y) σ Q:=fun av w0 β a w hr=>by
 refine wp_seq (Code.wp_mono ?_ (h av w0 β a w hr))
 rintro e a' w' ⟨σ',β',h1,h2,h3⟩
 cases e with
 |normal=>exact Code.wp_mono (fun _ _ _ ⟨σ'',β'',g1,g2,g3⟩=>⟨σ'',β'',g1.trans h1,g2,g3⟩) (h2 av w0 β' a' w' h3)
 |_=>exact⟨σ',β',h1,h2,h3⟩
theorem aw {t:Tmp}{x y:Code}{b:Bool}(hb:aT t σ.tm=some (.v (.c (.b b)))) (ht:b=true→Dw P x σ Q) (hf:b=false→Dw P y σ Q):Dw P (.cond (.tmp t) x y) σ Q:=fun av w0 β a w hr=>by
 obtain⟨v,e,hx⟩:=hr.sees.tmp t _ trivial hb
 have hv:=RdC.bool_eq hx
 subst hv
 have he:a.eval (.tmp t)=.bool b:=by
  obtain⟨hlt,e⟩:=Array.getElem?_eq_some_iff.1 e
  show a.tmps.getD t undef=_
  simp[Array.getD,hlt,e]
 exact wp_cond_split he (fun h=>ht h av w0 β a w hr) (fun h=>hf h av w0 β a w hr)
theorem aJ {id:Nat}{c:Code}(h:Dw P c σ (Qn id Q)):Dw P (.block id c) σ Q:=fun av w0 β a w hr=>by
 refine wp_block (Code.wp_mono ?_ (h av w0 β a w hr))
 rintro e a' w' ⟨σ',β',h1,h2,h3⟩
 cases e with
 |exit id'=>
  show(if id'=id then _ else _)
  have h2:(bif Nat.beq id' id then Q .normal σ' else Q (.exit id') σ'):=h2
  cases hb:Nat.beq id' id with
  |true=>rw[hb] at h2;rw[if_pos (Nat.eq_of_beq_eq_true hb)];exact⟨σ',β',h1,h2,h3⟩
  |false=>rw[hb] at h2;rw[if_neg (fun e=>by subst e;rw[Nat.beq_refl] at hb;cases hb)];exact⟨σ',β',h1,h2,h3⟩
 |_=>exact⟨σ',β',h1,h2,h3⟩
structure Sub (σ σ':St):Prop where
 n:σ'.n=σ.n
 tm: ∀t x,aT t σ'.tm=some x→aT t σ.tm=some x
 bx: ∀k c,aT k σ'.bx=some c→aT k σ.bx=some c
 wf: ∀t x k,aT t σ'.tm=some x→iB x=some k→aT k σ'.bx≠none
theorem Rel.sub {av:Nat→Prop}{w0:Ent}{w:World}{β:Nat→Nat}{a:Act}{σ σ':St}(h:Rel av w0 σ.n σ.T σ.B β a w) (hs:Sub σ σ'):Rel av w0 σ'.n σ'.T σ'.B β a w:=by
 have hB: ∀k,σ'.B k≠none→σ.B k≠none:=by
  intro k hk
  cases hc:σ'.B k with
  |none=>exact absurd hc hk
  |some c=>rw[show σ.B k=some c from hs.bx k c hc];simp
 have hkeep:Keep (fun b=>av b∨ ∃k,σ.B k≠none∧β k=b) (fun b=>av b∨ ∃k,σ'.B k≠none∧β k=b) w w:=
  ⟨Nat.le_refl _,fun _ _ _=>rfl,fun b _ hb=>hb.imp id fun⟨k,h1,h2⟩=>⟨k,hB k h1,h2⟩⟩
 refine⟨h.dfr,by rw[hs.n];exact h.siz,h.bel,h.avl,h.avE,by rw[hs.n];exact h.big,fun b hb hK=>h.fix b hb (hB _ hK),fun k l hk hl=>h.inj k l (hB k hk) (hB l hl),fun k hk=>h.own k (hB k hk),hs.wf,?_,?_,?_⟩
 ·rintro b (hb|⟨k,hk,hb⟩)
  ·exact h.sees.av b (.inl hb)
  ·exact h.sees.av b (.inr ⟨k,hB k hk,hb⟩)
 ·intro k U cs hk
  obtain⟨_,vs,e,hr⟩:=h.sees.box k U cs (hs.bx k _ hk)
  exact⟨.inr ⟨k,by rw[show σ'.B k=some (U,cs) from hk];simp,rfl⟩,vs,e,hr.keep hkeep⟩
 ·intro t x hl hx
  obtain⟨v,e,hr⟩:=h.sees.tmp t x hl (hs.tm t x hx)
  exact⟨v,e,hr.keep hkeep⟩
theorem Dw.weak {c:Code}{σ':St}(hs:Sub σ σ') (h:Dw P c σ' Q):Dw P c σ Q:=fun av w0 β a w hr=>
 Code.wp_mono (fun _ _ _ ⟨σ'',β',h1,h2,h3⟩=>⟨σ'',β',h1.trans hs.n,h2,h3⟩) (h av w0 β a w (hr.sub hs))
def ud {α:Type}:List (Nat×α)→List (Nat×α)→Prop
 |[],_=>True
 |(t,x)::r,l=>aT t l=some x∧ud r l
def Mc (bx:List (Nat×TypeId×List CellD)):List (Nat×DV)→Bool
 |[]=>true
 |(_,.p k _)::r=>(aT k bx).isSome&&Mc bx r
 |(_,.o k _ _)::r=>(aT k bx).isSome&&Mc bx r
 |(_,.w k _ _ _)::r=>(aT k bx).isSome&&Mc bx r
 |(_,.tn k _ _ _)::r=>(aT k bx).isSome&&Mc bx r
 |_::r=>Mc bx r
theorem oI {α:Type}: ∀(r l:List (Nat×α)),ud r l→ ∀t x,aT t r=some x→aT t l=some x
 |[],_,_,_,_,h=>by cases h
 |(k,y)::r,l,ha,t,x,h=>by
  rw[bq] at h
  split at h
  ·rename_i e;subst e;rw[←h];exact ha.1
  ·exact oI r l ha.2 t x h
theorem BI {bx:List (Nat×TypeId×List CellD)}: ∀(r:List (Nat×DV)),Mc bx r=true→ ∀t x k,aT t r=some x→iB x=some k→aT k bx≠none
 |[],_,_,_,_,h,_=>by cases h
 |(t',y)::r,hw,t,x,k,h,hx=>by
  rw[bq] at h
  have hr:Mc bx r=true:=by
   cases y<;>simp[Mc] at hw<;>first|exact hw|exact hw.2
  split at h
  ·injection h with h
   subst h
   intro e
   cases y<;>simp[iB] at hx<;>(subst hx;simp[Mc,e] at hw)
  ·exact BI r hr t x k h hx
theorem aM {n:Nat}{tm tm':List (Nat×DV)}{bx bx':List (Nat×TypeId×List CellD)}(ht:ud tm' tm) (hb:ud bx' bx) (hw:Mc bx' tm'=true):Sub ⟨n,tm,bx⟩ ⟨n,tm',bx'⟩:=
 ⟨rfl,oI tm' tm ht,oI bx' bx hb,BI tm' hw⟩
theorem bD {ι:Type}{c:Code}(I:ι→St) (μ:ι→Nat) (i0:ι) (h0:Sub σ (I i0))
 (round: ∀i,Dw P c (I i) (Cy (fun σ'=> ∃j,Sub σ' (I j)∧μ j<μ i) Q)):Dw P (.loop c) σ Q:=fun av w0 β a w hr=>by
 have hr0:=hr.sub h0
 intro b k cs
 have key: ∀n i β a w,μ i=n→Rel av w0 (I i).n (I i).T (I i).B β a w→(I i).n=σ.n→
  ∃e a' w',(∃σ' β',σ'.n=σ.n∧Q e σ'∧Rel av w0 σ'.n σ'.T σ'.B β' a' w')∧Arrives P (lone (b.at a (.code c:: .inLoop c::k)) cs w) b k cs e a' w':=by
  intro n
  induction n using Nat.strongRecOn with
  |_ n ih=>
   intro i β a w hi hrel hni
   obtain⟨e,a₁,w₁,⟨σ',β',g1,g2,g3⟩,harr⟩:=round i av w0 β a w hrel b (.inLoop c::k) cs
   cases e with
   |normal=>
    obtain⟨j,hs,hlt⟩:=g2
    have hrj:=g3.sub hs
    obtain⟨e₂,a₂,w₂,hq₂,harr₂⟩:=ih (μ j) (hi▸hlt) j β' a₁ w₁ rfl hrj (by rw[hs.n,g1,hni])
    exact⟨e₂,a₂,w₂,hq₂,.of_steps (Steps.trans harr (.one step_inLoop)) harr₂⟩
   |exit id=>exact⟨_,a₁,w₁,⟨σ',β',g1.trans hni,g2,g3⟩,.pass (x:=.inLoop c) rfl (fun _ _=>.inl (by simp)) harr⟩
   |goto l=>exact⟨_,a₁,w₁,⟨σ',β',g1.trans hni,g2,g3⟩,.pass (x:=.inLoop c) rfl (fun _ _=>.inl (by simp)) harr⟩
   |ret=>exact⟨_,a₁,w₁,⟨σ',β',g1.trans hni,g2,g3⟩,.pass (x:=.inLoop c) rfl (fun _ _=>.inl (by simp)) harr⟩
   |panic ch=>exact⟨_,a₁,w₁,⟨σ',β',g1.trans hni,g2,g3⟩,.pass (x:=.inLoop c) rfl (fun _ _=>.inl (by simp)) harr⟩
   |outgrown=>exact⟨_,a₁,w₁,⟨σ',β',g1.trans hni,g2,g3⟩,.pass (x:=.inLoop c) rfl (fun _ _=>.inl (by simp)) harr⟩
 obtain⟨e,a',w',hq,harr⟩:=key _ i0 β a w rfl hr0 h0.n
 exact⟨e,a',w',hq,.of_steps (.one step_loop) harr⟩
def Q2 (ops:Array Oper) (n:Nat):Bool:=ops.toList.all fun o=>match o.dst with|none=>true|some d=>Nat.blt d n
theorem Hh {ops:Array Oper}{n:Nat}(h:Q2 ops n=true): ∀o∈ops.toList,∀t,o.dst=some t→t<n:=by
 intro o ho t ht
 have:=List.all_eq_true.1 h o ho
 rw[ht] at this
 exact eJ.1 this
theorem HB {id:Nat}{l:List Oper}(hn:Q2 l.toArray σ.n=true) (h:dl P l.toArray l σ (Q .normal)):Dw P (.region id l.toArray false) σ Q:=fun av w0 β a w hr=>
 wp_region_list (qT l.toArray.toList σ β a w (by simpa using Hh hn) (by simpa using h) hr (fun σ' β' a' w' h1 h2 h3=>⟨σ',β',h1,h2,h3⟩))
def Sq.merge (s:Sq):St:=⟨s.st.n,s.st.tm,s.nb++s.st.bx⟩
theorem bZ {id:Nat}{l pre tail:List Oper}(m:Nat) (hs:List Nat) (hm:P.follows .mixedOrders=true) (hc:Jj l.toArray m σ.n=true) (hpre:l.take m=pre) (htail:l.drop m=tail)
 (h:dq P l.toArray hs pre ⟨σ,[],[]⟩ fun s=>dl P l.toArray tail s.merge (Q .normal)):Dw P (.region id l.toArray true) σ Q:=fun av w0 β a w hr=>by
 have hC:=Chk.of hc
 subst hpre htail
 obtain⟨es,hlen,hall,hdis,hmix,s',h1,h2,h3,h4⟩:=CN _ _ h
 have hml:m≤l.length:=by simpa using hC.le
 refine wp_region_any hm ?_
 refine Mu (av:=av) (w0:=w0) (Q:=fun e a' w'=> ∃σ' β',σ'.n=σ.n∧Q e σ'∧Rel av w0 σ'.n σ'.T σ'.B β' a' w') hC (T0:=σ.T) (B0:=σ.B) (M0:=Sq.M ⟨σ,[],[]⟩) (hs:=hs) (sd:=[]) (fun k c hk=>hk) (es:=es) (by rw[hlen,List.length_take];omega) hdis hmix ?_ ?_ l.toArray.size (Array.replicate l.toArray.size false) β a _ (by simp) (by unfold GI;refine Nat.le_trans List.countP_le_length ?_;simp) ?_ ?_ ?_
 ·intro i o e ho he
  exact hall i o e (by simpa using ho) he
 ·intro β a w fuel hf hr'
  have hr2:Rel av w0 σ.n s'.merge.T s'.merge.B β a w:=by
   refine hr'.congr (fun t=>?_) (fun k=>?_)
   ·show s'.st.T t=_
    rw[h2]
   ·show s'.M k=_
    rw[h3]
  refine sG hC (K:=Q .normal) (fun σ' β a w hn hq hr=>⟨σ',β,hn,hq,by rw[hn];exact hr⟩) (l.drop m) m s'.merge fuel β a w (Nat.le_refl _) (fun j=>by simp) (by simp;omega) h1 h4 hr2 (by simpa using hf)
 ·intro i o j hi
  simp[Array.getD] at hi
 ·intro t _
  simp[Array.getD]
  try (split<;>rfl)
 ·refine hr.drew.congr (fun t=>?_) (fun k=>?_)
  ·refine jp _ _ _ fun j u _ hm=>?_
   simp[Array.getD] at hm
  ·refine(jp _ _ _ fun j u _ hm=>?_).trans ?_
   ·simp[Array.getD] at hm
   ·rfl
def jX:Nat→List D0→List (Nat×DV)
 |_,[]=>[]
 |k,d::ds=>(k,.v d)::jX (k+1) ds
def B4 (P:Program) (σ:St):ResultVar→Option D0
 | .tmp t=>match aT t σ.tm with
   |some (.v d)=>some d
   |_=>none
 | .cell t U=>match aT t σ.tm with
   |some (.p k off)=>match aT k σ.bx,nv P U with
    |some (_,cs),some (true,n)=>if Nat.beq ((cs.drop off).take n).length n then some (.a ((cs.drop off).take n)) else none
    |some (_,cs),some (false,_)=>(cs[off]?).map .c
    |_,_=>none
   |_=>none
def np (a:Act):ResultVar→Go.Sem Value
 | .tmp t=>pure (a.tmps.getD t undef)
 | .cell t U=>do loadVar U (←asAddr (a.tmps.getD t undef))
theorem Jn {av:Nat→Prop}{w0:Ent}{w:World}{β:Nat→Nat}{a:Act}(hr:Rel av w0 σ.n σ.T σ.B β a w) {r:ResultVar}{d:D0}(h:B4 P σ r=some d):
 ∃v,(np a r).run P w=.ok v w∧RdV (fun b=>av b∨ ∃k,σ.B k≠none∧β k=b) w v d:=by
 have hget: ∀ {t x},aT t σ.tm=some x→ ∃v,a.tmps.getD t undef=v∧RdX (fun b=>av b∨ ∃k,σ.B k≠none∧β k=b) w β v x:=by
  intro t x ht
  obtain⟨v,e,hx⟩:=hr.sees.tmp t x trivial ht
  obtain⟨hlt,e⟩:=Array.getElem?_eq_some_iff.1 e
  exact⟨v,by simp[Array.getD,hlt,e],hx⟩
 cases r with
 |tmp t=>
  unfold B4 at h
  dsimp only at h
  split at h
  ·rename_i d' hd
   injection h with h
   subst h
   obtain⟨v,e,hx⟩:=hget hd
   exact⟨v,by show(pure (a.tmps.getD t undef):Go.Sem Value).run P w=_;rw[e];rfl,hx⟩
  ·cases h
 |cell t U=>
  unfold B4 at h
  dsimp only at h
  split at h
  ·rename_i k off hp
   obtain⟨v,e,hx⟩:=hget hp
   have hx:v=.pointer (some ⟨β k,off,none⟩):=hx
   subst hx
   split at h
   ·rename_i W cs n hb hU
    split at h
    ·rename_i hl
     injection h with h
     subst h
     obtain⟨_,vs,ev,hrd⟩:=hr.sees.box k W cs hb
     have hr2:=(hrd.drop off).take n
     have hrun:=jv (P:=P) (w:=w) hU (b:=β k) (off:=off) (vs:=(vs.toList.drop off).take n) (by rw[hr2.1];exact Nat.eq_of_beq_eq_true hl) (fun j v hv=>by
      rw[List.getElem?_take] at hv
      split at hv
      ·rw[cE ev,←hv];simp
      ·cases hv)
     refine⟨_,?_,_,rfl,by simpa using hr2⟩
     simp only[np,e,asAddr,Sem.run_bind,Sem.run_pure,Result.andThen_ok,hrun]
    ·cases h
   ·rename_i W cs n hb hU
    cases hc:cs[off]? with
    |none=>rw[hc] at h;cases h
    |some u=>
     rw[hc] at h
     injection h with h
     subst h
     obtain⟨_,vs,ev,hrd⟩:=hr.sees.box k W cs hb
     have hlt:off<cs.length:=(List.getElem?_eq_some_iff.1 hc).1
     have hv:vs.toList[off]? =some (vs.toList[off]'(by rw[hrd.1];exact hlt)):=List.getElem?_eq_getElem _
     have hrun:=js (P:=P) (w:=w) hU (b:=β k) (off:=off) (by rw[cE ev,←Array.getElem?_toList,hv])
     refine⟨_,?_,hrd.2 off _ _ hv hc⟩
     simp only[np,e,asAddr,Sem.run_bind,Sem.run_pure,Result.andThen_ok,hrun]
   ·cases h
  ·cases h
def nl (P:Program) (σ:St):List ResultVar→Option (List D0)
 |[]=>some []
 |r::rs=>match B4 P σ r,nl P σ rs with
  |some d,some ds=>some (d::ds)
  |_,_=>none
theorem xa {av:Nat→Prop}{w0:Ent}{w:World}{β:Nat→Nat}{a:Act}(hr:Rel av w0 σ.n σ.T σ.B β a w): ∀(rs:List ResultVar) (ds:List D0),nl P σ rs=some ds→
 ∃vs:List Value,(rs.mapM (np a)).run P w=.ok vs w∧RdL (fun b=>av b∨ ∃k,σ.B k≠none∧β k=b) w vs ds
 |[],ds,h=>by injection h with h;subst h;exact⟨[],rfl,RdL.nil⟩
 |r::rs,ds,h=>by
  unfold nl at h
  split at h
  ·rename_i d ds' h1 h2
   injection h with h
   subst h
   obtain⟨v,e1,r1⟩:=Jn hr h1
   obtain⟨vs,e2,r2⟩:=xa hr rs ds' h2
   refine⟨v::vs,?_,RdL.cons r1 r2⟩
   rw[List.mapM_cons]
   simp only[Sem.run_bind,e1,Result.andThen_ok,e2,Sem.run_pure]
  ·cases h
theorem Sv {av:Nat→Prop}{vs:Array Value}{w:World}{ds:List D0}{N:Nat}(hlen:ds.length≤N) (hav: ∀b,av b→b<w.heap.size) (hrd:RdL av w vs.toList ds):
 Rel av ⟨w,fun _=>False,N⟩ (St.n ⟨N,jX 0 ds,[]⟩) (St.T ⟨N,jX 0 ds,[]⟩) (St.B ⟨N,jX 0 ds,[]⟩) (fun _=>0) {tmps:=vs++Array.replicate (N-vs.size) undef,defers:=[]} w:=by
 have hvl:vs.size=ds.length:=by rw[←hrd.1];simp
 have hT: ∀(k:Nat) (ds:List D0) (t:Nat) (x:DV),aT t (jX k ds)=some x→ ∃j d,t=k+j∧ds[j]? =some d∧x=.v d:=by
  intro k ds
  induction ds generalizing k with
  |nil=>intro t x h;cases h
  |cons d ds ih=>
   intro t x h
   unfold jX at h
   rw[bq] at h
   split at h
   ·rename_i e;injection h with h;exact⟨0,d,by omega,rfl,h.symm⟩
   ·obtain⟨j,d',e1,e2,e3⟩:=ih (k+1) t x h
    exact⟨j+1,d',by omega,by simpa using e2,e3⟩
 refine⟨rfl,by simp;omega,BelE.refl _,hav,fun _ _ h=>h,Nat.le_refl _,fun _ h=>h.elim,fun k l hk=>absurd rfl hk,fun k hk=>absurd rfl hk,?_,?_,?_,?_⟩
 ·intro t x k ht hx
  obtain⟨j,d,_,_,e⟩:=hT 0 ds t _ ht
  subst e;cases hx
 ·rintro b (hb|⟨k,hk,_⟩)
  ·exact hav b hb
  ·exact absurd rfl hk
 ·intro k U cs hk;cases hk
 ·intro t x _ ht
  obtain⟨j,d,e1,e2,e3⟩:=hT 0 ds t x ht
  have e1:t=j:=by omega
  subst e1 e3
  have hlt:t<vs.size:=by rw[hvl];exact(List.getElem?_eq_some_iff.1 e2).1
  have hv:vs.toList[t]? =some vs[t]:=by rw[Array.getElem?_toList];exact Array.getElem?_eq_getElem hlt
  refine⟨vs[t],?_,(hrd.2 t _ d hv e2).keep ⟨Nat.le_refl _,fun _ _ _=>rfl,fun b _ hb=>?_⟩⟩
  ·show(vs++Array.replicate (N-vs.size) undef)[t]? =_
   rw[Array.getElem?_append_left hlt];exact Array.getElem?_eq_getElem hlt
  ·rcases hb with hb|⟨k,hk,_⟩
   ·exact hb
   ·exact absurd rfl hk
theorem pz {fn:Func}{a:Act}{w:World}{vs:List Value}(hrun:(fn.results.toList.mapM (np a)).run P w=.ok vs w):(results fn a.tmps).run P w=.ok (if h:vs.toArray.size=1 then vs.toArray[0] else .tuple vs.toArray) w:=by
 have key: ∀g:ResultVar→Go.Sem Value,(∀r,g r=np a r)→(do let vs ←fn.results.mapM g;pure (if h:vs.size=1 then vs[0] else .tuple vs):Go.Sem Value).run P w=.ok (if h:vs.toArray.size=1 then vs.toArray[0] else .tuple vs.toArray) w:=by
  intro g hg
  rw[funext hg]
  simp[Array.mapM_eq_mapM_toList,hrun]
 unfold results
 exact key _ (fun r=>by cases r<;>rfl)
theorem Ok.of {f:FuncId}{fn:Func}{c:Code}{ds rs:List D0}(hcal:fg P f=true) (hf:P.funcs[f]? =some fn) (hb:fn.body=some c) (hlen:Nat.ble ds.length fn.ntmps=true)
 (h:Dw P c ⟨fn.ntmps,jX 0 ds,[]⟩ fun e σ=>(e=.normal∨e=.ret)∧nl P σ fn.results.toList=some rs):Ok P f ds rs:=by
 refine⟨hcal,fun av vs w hav hrd=>calls_of_wp hf hb ?_⟩
 have hlen:=Nat.le_of_ble_eq_true hlen
 refine Code.wp_mono ?_ (h av ⟨w,fun _=>False,fn.ntmps⟩ (fun _=>0) _ w (Sv hlen hav hrd))
 rintro e a' w' ⟨σ',β',hn,⟨he,hres⟩,hr⟩
 obtain⟨vs',hrun,hrl0⟩:=xa hr _ _ hres
 have hrl:RdL av w' vs' rs:=hrl0.keep ⟨Nat.le_refl _,fun _ _ _=>rfl,fun b _ hb=>.inl hb⟩
 have hresults:=pz hrun
 have hR:OY av w' (if h:vs'.toArray.size=1 then vs'.toArray[0] else .tuple vs'.toArray) rs:=by
  match vs',rs,hrl with
  |[],[],hrl=>exact⟨_,rfl,hrl⟩
  |[v],[d],hrl=>exact hrl.uncons.1
  |v::v'::vs',d::d'::ds',hrl=>exact⟨(v::v'::vs').toArray,dif_neg (by simp),by simpa using hrl⟩
  |[],d::ds,hrl=>exact absurd hrl.1 (by simp)
  |v::vs,[],hrl=>exact absurd hrl.1 (by simp)
  |[v],d::d'::ds,hrl=>exact absurd hrl.1 (by simp)
  |v::v'::vs,[d],hrl=>exact absurd hrl.1 (by simp)
 rcases he with rfl|rfl
 ·exact⟨hr.dfr,_,hresults,_,rfl,hR,hr.bel.to (fun _ h=>h)⟩
 ·exact⟨hr.dfr,_,hresults,_,rfl,hR,hr.bel.to (fun _ h=>h)⟩
end
section
variable {P:Program}{ops:Array Oper}{os:List Oper}{n t:Nat}{tm:List (Nat×DV)}{bx nb:List (Nat×TypeId×List CellD)}{K:St→Prop}{K':Sq→Prop}{hs sd:List Nat}
variable {ty:TypeId}{pos:String}{af:Array Edge}{g:Option (Nat×Bool)}{op:Op}
theorem ah {x:DV}(h:Sem P ops ⟨some t,op,ty,pos,af,g⟩ (fun s=>aT s tm) (fun k=>aT k bx) (.r x)) (hk:dl P ops os ⟨n,(t,x)::tm,bx⟩ K):dl P ops (⟨some t,op,ty,pos,af,g⟩::os) ⟨n,tm,bx⟩ K:=
 .inl ⟨.r x,h,fun _ _ _ e=>(by cases e),hk⟩
theorem aj {x:DV}(h:Sem P ops ⟨some t,op,ty,pos,af,g⟩ (fun s=>aT s tm) (hid hs (fun k=>aT k bx)) (.r x)) (hk:dq P ops hs os ⟨⟨n,(t,x)::tm,bx⟩,nb,sd⟩ K'):dq P ops hs (⟨some t,op,ty,pos,af,g⟩::os) ⟨⟨n,tm,bx⟩,nb,sd⟩ K':=
 ⟨.r x,.inl h,fun _ _ e=>(by cases e),fun _ _ _ e=>(by cases e),fun _ _ _ _ e=>(by cases e),fun _ _ _ e=>(by cases e),hk⟩
theorem EC (h:Sem P ops ⟨some t,op,ty,pos,af,g⟩ (fun s=>aT s tm) (fun k=>aT k bx) .skip) (hk:dl P ops os ⟨n,(t,.u)::tm,bx⟩ K):dl P ops (⟨some t,op,ty,pos,af,g⟩::os) ⟨n,tm,bx⟩ K:=
 .inl ⟨.skip,h,fun _ _ _ e=>(by cases e),hk⟩
theorem FX (h:Sem P ops ⟨some t,op,ty,pos,af,g⟩ (fun s=>aT s tm) (hid hs (fun k=>aT k bx)) .skip) (hk:dq P ops hs os ⟨⟨n,(t,.u)::tm,bx⟩,nb,sd⟩ K'):dq P ops hs (⟨some t,op,ty,pos,af,g⟩::os) ⟨⟨n,tm,bx⟩,nb,sd⟩ K':=
 ⟨.skip,.inl h,fun _ _ e=>(by cases e),fun _ _ _ e=>(by cases e),fun _ _ _ _ e=>(by cases e),fun _ _ _ e=>(by cases e),hk⟩
theorem aC {U:TypeId}{cs:List CellD}(h:Sem P ops ⟨some t,op,ty,pos,af,g⟩ (fun s=>aT s tm) (fun k=>aT k bx) (.a U cs none)) (hf:aT t bx=none) (hk:dl P ops os ⟨n,(t,.p t 0)::tm,(t,U,cs)::bx⟩ K):dl P ops (⟨some t,op,ty,pos,af,g⟩::os) ⟨n,tm,bx⟩ K:=
 .inl ⟨.a U cs none,h,fun _ _ _ _=>⟨t,rfl,hf⟩,hk⟩
theorem ba {U:TypeId}{cs:List CellD}(h:Sem P ops ⟨some t,op,ty,pos,af,g⟩ (fun s=>aT s tm) (hid hs (fun k=>aT k bx)) (.a U cs none)) (hf:aT t (nb++bx)=none) (hk:dq P ops hs os ⟨⟨n,(t,.p t 0)::tm,bx⟩,(t,U,cs)::nb,sd⟩ K'):dq P ops hs (⟨some t,op,ty,pos,af,g⟩::os) ⟨⟨n,tm,bx⟩,nb,sd⟩ K':=
 ⟨.a U cs none,.inl h,fun _ _ e=>(by cases e),fun _ _ _ e=>(by cases e),fun _ _ _ _ e=>(by cases e),fun _ _ _ _=>⟨t,rfl,hf⟩,hk⟩
theorem jM {U:TypeId}{cs:List CellD}{m:Nat}(h:Sem P ops ⟨some t,op,ty,pos,af,g⟩ (fun s=>aT s tm) (fun k=>aT k bx) (.a U cs (some m))) (hf:aT t bx=none) (hk:dl P ops os ⟨n,(t,.o t m m)::tm,(t,U,cs)::bx⟩ K):dl P ops (⟨some t,op,ty,pos,af,g⟩::os) ⟨n,tm,bx⟩ K:=
 .inl ⟨.a U cs (some m),h,fun _ _ _ _=>⟨t,rfl,hf⟩,hk⟩
theorem bL {k:Nat}{U:TypeId}{cs:List CellD}(h:Sem P ops ⟨none,op,ty,pos,af,g⟩ (fun s=>aT s tm) (fun k=>aT k bx) (.s k U cs)) (hk:dl P ops os ⟨n,tm,(k,U,cs)::bx⟩ K):dl P ops (⟨none,op,ty,pos,af,g⟩::os) ⟨n,tm,bx⟩ K:=
 .inl ⟨.s k U cs,h,fun _ _ _ e=>(by cases e),hk⟩
theorem Rv {k:Nat}{x:DV}(h:Sem P ops ⟨some t,op,ty,pos,af,g⟩ (fun s=>aT s tm) (fun k=>aT k bx) (.c k x)) (hk:dl P ops os ⟨n,(t,x)::jg k tm,iK k bx⟩ K):dl P ops (⟨some t,op,ty,pos,af,g⟩::os) ⟨n,tm,bx⟩ K:=
 .inl ⟨.c k x,h,fun _ _ _ e=>(by cases e),hk⟩
theorem pp {k:Nat}{U:TypeId}{cs:List CellD}{x:DV}(h:Sem P ops ⟨some t,op,ty,pos,af,g⟩ (fun s=>aT s tm) (fun k=>aT k bx) (.rs k U cs x)) (hk:dl P ops os ⟨n,(t,x)::tm,(k,U,cs)::bx⟩ K):dl P ops (⟨some t,op,ty,pos,af,g⟩::os) ⟨n,tm,bx⟩ K:=
 .inl ⟨.rs k U cs x,h,fun _ _ _ e=>(by cases e),hk⟩
theorem pM {k:Nat}{U:TypeId}{cs:List CellD}{x:DV}(h:Sem P ops ⟨some t,op,ty,pos,af,g⟩ (fun s=>aT s tm) (fun l=>bif Nat.beq l k then aT l (nb++bx) else hid hs (fun k=>aT k bx) l) (.rs k U cs x))
 (h1:hs.any (Nat.beq k)=true) (h2:(aT k bx).isSome=true) (h3:sd.any (Nat.beq k)=false) (h4:os.all (fun o=>o.dst.isSome)=true) (h5:ia ⟨some t,op,ty,pos,af,g⟩=true) (h6:nm ops=true) (h7:hs.any (Nat.beq 999999)=false)
 (hk:dq P ops hs os ⟨⟨n,(t,x)::tm,bx⟩,(k,U,cs)::nb,sd⟩ K'):dq P ops hs (⟨some t,op,ty,pos,af,g⟩::os) ⟨⟨n,tm,bx⟩,nb,sd⟩ K':=
 ⟨.rs k U cs x,.inl h,fun _ _ e=>(by cases e),fun _ _ _ e=>(by cases e),fun _ _ _ _ e=>by
  injection e with e1
  subst e1
  exact⟨h1,(fun e=>by have e:aT k bx=none:=e;rw[e] at h2;cases h2),(fun hm=>by rw[iA.2 hm] at h3;cases h3),h4,h5,h6,h7⟩,fun _ _ _ e=>(by cases e),hk⟩
theorem ar (h:K ⟨n,tm,bx⟩):dl P ops [] ⟨n,tm,bx⟩ K:=h
theorem gw {k:Nat}{U:TypeId}{cs:List CellD}(h:Sem P ops ⟨none,op,ty,pos,af,g⟩ (fun s=>aT s tm) (fun l=>bif Nat.beq l k then aT l (nb++bx) else hid hs (fun k=>aT k bx) l) (.s k U cs))
 (h1:hs.any (Nat.beq k)=true) (h2:(aT k bx).isSome=true) (h3:sd.any (Nat.beq k)=false) (h4:t7 ⟨none,op,ty,pos,af,g⟩=true) (hk:dq P ops hs os ⟨⟨n,tm,bx⟩,(k,U,cs)::nb,k::sd⟩ K'):dq P ops hs (⟨none,op,ty,pos,af,g⟩::os) ⟨⟨n,tm,bx⟩,nb,sd⟩ K':=
 ⟨.s k U cs,.inl h,fun _ _ e=>(by cases e),fun _ _ _ e=>by
  injection e with e1
  subst e1
  exact⟨h1,.inl (fun e=>by have e:aT k bx=none:=e;rw[e] at h2;cases h2),(.inl fun hm=>by rw[iA.2 hm] at h3;cases h3),h4⟩,fun _ _ _ _ e=>(by cases e),fun _ _ _ e=>(by cases e),hk⟩
theorem gz {k:Nat}{U:TypeId}{cs:List CellD}(h:Sem P ops ⟨none,op,ty,pos,af,g⟩ (fun s=>aT s tm) (fun l=>bif Nat.beq l k then aT l (nb++bx) else hid hs (fun k=>aT k bx) l) (.s k U cs))
 (h1:hs.any (Nat.beq k)=true) (h2:((⟨none,op,ty,pos,af,g⟩:Oper).looksAt ops).any (Nat.beq k)=true) (h3:sd.any (Nat.beq k)=false) (h4:t7 ⟨none,op,ty,pos,af,g⟩=true) (hk:dq P ops hs os ⟨⟨n,tm,bx⟩,(k,U,cs)::nb,k::sd⟩ K'):dq P ops hs (⟨none,op,ty,pos,af,g⟩::os) ⟨⟨n,tm,bx⟩,nb,sd⟩ K':=
 ⟨.s k U cs,.inl h,fun _ _ e=>(by cases e),fun _ _ _ e=>by
  injection e with e1
  subst e1
  exact⟨h1,.inr (iA.1 h2),(.inl fun hm=>by rw[iA.2 hm] at h3;cases h3),h4⟩,fun _ _ _ _ e=>(by cases e),fun _ _ _ e=>(by cases e),hk⟩
theorem B8 {k:Nat}{U:TypeId}{cs:List CellD}(h:Sem P ops ⟨none,op,ty,pos,af,g⟩ (fun s=>aT s tm) (fun l=>bif Nat.beq l k then aT l (nb++bx) else hid hs (fun k=>aT k bx) l) (.s k U cs))
 (h1:hs.any (Nat.beq k)=true) (h2:(aT k bx).isSome=true) (h3:lu ops=true) (h4:t7 ⟨none,op,ty,pos,af,g⟩=true) (hk:dq P ops hs os ⟨⟨n,tm,bx⟩,(k,U,cs)::nb,k::sd⟩ K'):dq P ops hs (⟨none,op,ty,pos,af,g⟩::os) ⟨⟨n,tm,bx⟩,nb,sd⟩ K':=
 ⟨.s k U cs,.inl h,fun _ _ e=>(by cases e),fun _ _ _ e=>by
  injection e with e1
  subst e1
  exact⟨h1,.inl (fun e=>by have e:aT k bx=none:=e;rw[e] at h2;cases h2),.inr h3,h4⟩,fun _ _ _ _ e=>(by cases e),fun _ _ _ e=>(by cases e),hk⟩
theorem aY (h:K' ⟨⟨n,tm,bx⟩,nb,sd⟩):dq P ops hs [] ⟨⟨n,tm,bx⟩,nb,sd⟩ K':=h
theorem tF {x:DV}(hv:Ol hs ops ⟨some t,op,ty,pos,af,g⟩=true) (h:Sem P ops ⟨some t,op,ty,pos,af,g⟩ (fun s=>aT s tm) (fun k=>aT k bx) (.r x)) (hk:dq P ops hs os ⟨⟨n,(t,x)::tm,bx⟩,nb,sd⟩ K'):dq P ops hs (⟨some t,op,ty,pos,af,g⟩::os) ⟨⟨n,tm,bx⟩,nb,sd⟩ K':=
 ⟨.r x,.inr ⟨hv,⟨x,rfl⟩,h⟩,fun _ _ e=>(by cases e),fun _ _ _ e=>(by cases e),fun _ _ _ _ e=>(by cases e),fun _ _ _ e=>(by cases e),hk⟩
theorem cg {b:Bool}(h:Sem P ops ⟨some t,op,ty,pos,af,g⟩ (fun s=>aT s tm) (fun k=>aT k bx) (.r (.v (.c (.b b))))) (hk: ∀c,b=c→dl P ops os ⟨n,(t,.v (.c (.b c)))::tm,bx⟩ K):dl P ops (⟨some t,op,ty,pos,af,g⟩::os) ⟨n,tm,bx⟩ K:=
 ah h (hk b rfl)
theorem fb {b:Bool}(h:Sem P ops ⟨some t,op,ty,pos,af,g⟩ (fun s=>aT s tm) (hid hs (fun k=>aT k bx)) (.r (.v (.c (.b b))))) (hk: ∀c,b=c→dq P ops hs os ⟨⟨n,(t,.v (.c (.b c)))::tm,bx⟩,nb,sd⟩ K'):dq P ops hs (⟨some t,op,ty,pos,af,g⟩::os) ⟨⟨n,tm,bx⟩,nb,sd⟩ K':=
 aj h (hk b rfl)
theorem az (h:dl P ops os ⟨n,tm,bx⟩ K):dl P ops os (Sq.merge ⟨⟨n,tm,bx⟩,[],sd⟩) K:=h
theorem bl {a:Nat×TypeId×List CellD}(h:dl P ops os ⟨n,tm,a::bx⟩ K):dl P ops os (Sq.merge ⟨⟨n,tm,bx⟩,[a],sd⟩) K:=h
theorem bG {a b:Nat×TypeId×List CellD}(h:dl P ops os ⟨n,tm,a::b::bx⟩ K):dl P ops os (Sq.merge ⟨⟨n,tm,bx⟩,[a,b],sd⟩) K:=h
theorem xI {a b c:Nat×TypeId×List CellD}(h:dl P ops os ⟨n,tm,a::b::c::bx⟩ K):dl P ops os (Sq.merge ⟨⟨n,tm,bx⟩,[a,b,c],sd⟩) K:=h
theorem lI {a b c d:Nat×TypeId×List CellD}(h:dl P ops os ⟨n,tm,a::b::c::d::bx⟩ K):dl P ops os (Sq.merge ⟨⟨n,tm,bx⟩,[a,b,c,d],sd⟩) K:=h
theorem GC {a b c d e:Nat×TypeId×List CellD}(h:dl P ops os ⟨n,tm,a::b::c::d::e::bx⟩ K):dl P ops os (Sq.merge ⟨⟨n,tm,bx⟩,[a,b,c,d,e],sd⟩) K:=h
theorem bg {Q:Exit→St→Prop}{x y:Code}(hb:aT t tm=some (.v (.c (.b true)))) (h:Dw P x ⟨n,tm,bx⟩ Q):Dw P (.cond (.tmp t) x y) ⟨n,tm,bx⟩ Q:=aw hb (fun _=>h) (fun e=>by cases e)
theorem aP {Q:Exit→St→Prop}{x y:Code}(hb:aT t tm=some (.v (.c (.b false)))) (h:Dw P y ⟨n,tm,bx⟩ Q):Dw P (.cond (.tmp t) x y) ⟨n,tm,bx⟩ Q:=aw hb (fun e=>by cases e) (fun _=>h)
theorem ae:nl P ⟨n,tm,bx⟩ []=some []:=rfl
theorem Jl {rs:List ResultVar}{d:D0}{ds:List D0}(h:aT t tm=some (.v d)) (hr:nl P ⟨n,tm,bx⟩ rs=some ds):nl P ⟨n,tm,bx⟩ (.tmp t::rs)=some (d::ds):=by
 have e:B4 P ⟨n,tm,bx⟩ (.tmp t)=some d:=by unfold B4;simp only[h]
 unfold nl
 rw[e,hr]
theorem fr {rs:List ResultVar}{ds:List D0}{U W:TypeId}{m k off:Nat}{cs us:List CellD}(hU:nv P U=some (true,m)) (hp:aT t tm=some (.p k off)) (hb:aT k bx=some (W,cs)) (hu:(cs.drop off).take m=us) (hm:us.length=m)
 (hr:nl P ⟨n,tm,bx⟩ rs=some ds):nl P ⟨n,tm,bx⟩ (.cell t U::rs)=some (.a us::ds):=by
 have e:B4 P ⟨n,tm,bx⟩ (.cell t U)=some (.a us):=by
  unfold B4
  simp only[hp,hb,hU,hu,hm]
  simp
 unfold nl
 rw[e,hr]
theorem xh {U:TypeId}{ax x:Operand}{T:TF}{B:BF}{k m:Nat}{q:Bool}{W:TypeId}{cs:List CellD}{d:D0}
 (hU:nv P U=some (q,m)) (ha:di T ax=some (.p k 0)) (hx:di T x=some (.v d)) (hb:B k=some (W,cs)) (hn:d.cells.length=m) (ho:cs.length=m)
 (hg:gd ops ⟨none,.store U ax x,ty,pos,af,g⟩ T=some true):Sem P ops ⟨none,.store U ax x,ty,pos,af,g⟩ T B (.s k W d.cells):=by
 refine bm hU ha hx hb hn (by omega) ?_ hg
 subst ho
 simp
theorem aZ {U:TypeId}{ax x:Operand}{T:TF}{B:BF}{k m:Nat}{W:TypeId}{cs us:List CellD}
 (hU:nv P U=some (true,m)) (ha:di T ax=some (.p k 0)) (hx:di T x=some (.v (.a us))) (hb:B k=some (W,cs)) (hn:us.length=m) (ho:cs.length=m)
 (hg:gd ops ⟨none,.store U ax x,ty,pos,af,g⟩ T=some true):Sem P ops ⟨none,.store U ax x,ty,pos,af,g⟩ T B (.s k W us):=xh (d:=.a us) hU ha hx hb hn ho hg
theorem G1 {U:TypeId}{x:Operand}{T:TF}{B:BF}{us:List CellD}
 (hx:di T x=some (.v (.a us))) (hg:gd ops ⟨dst,.box U x,ty,pos,af,g⟩ T=some true):Sem P ops ⟨dst,.box U x,ty,pos,af,g⟩ T B (.a U us none):=EQ (d:=.a us) hx hg
theorem GG {U:TypeId}{x:Operand}{T:TF}{B:BF}{u:CellD}
 (hx:di T x=some (.v (.c u))) (hg:gd ops ⟨dst,.box U x,ty,pos,af,g⟩ T=some true):Sem P ops ⟨dst,.box U x,ty,pos,af,g⟩ T B (.a U [u] none):=EQ (d:=.c u) hx hg
theorem pj {xt:TypeId}{w:World}{b c:Bool}(hu:P.underlying xt=some .bool):(Op.equal xt (.bool b) (.bool c)).run P w=.ok (b==c) w:=by
 unfold Op.equal Op.maxDepth
 rw[show(10000:Nat)=9999+1 from rfl,Op.equalIn]
 simp only[Sem.run_bind,run_underlying hu,Result.andThen_ok]
 rfl
theorem wU {xt yt:TypeId}{x y:Operand}{T:TF}{B:BF}{b c:Bool}
 (hx:di T x=some (.v (.c (.b b)))) (hy:di T y=some (.v (.c (.b c)))) (hu:P.underlying xt=some .bool) (hg:gd ops ⟨dst,.binOp .eql xt x y yt,ty,pos,af,g⟩ T=some true):
 Sem P ops ⟨dst,.binOp .eql xt x y yt,ty,pos,af,g⟩ T B (.r (.v (.c (.b (b==c))))):=
 bO hg (mG rfl) (fun V β a w hs=>by
  have e1:a.eval x=.bool b:=RdC.bool_eq (aS hs (x:=x) (by simp[Op.operands]) hx)
  have e2:a.eval y=.bool c:=RdC.bool_eq (aS hs (x:=y) (by simp[Op.operands]) hy)
  refine⟨.bool (b==c),?_,.b _⟩
  have h1:(eqGuard .eql xt x y (.bool b) (.bool c)).run P w=.ok () w:=rfl
  have h2:binOp .eql xt (.bool b) (.bool c)=(do pure (.bool (←Op.equal xt (.bool b) (.bool c)))):=rfl
  simp only[execOp,e1,e2,Sem.run_bind,h1,Result.andThen_ok,h2,pj hu,Sem.run_pure])
theorem ff {xt yt:TypeId}{x y:Operand}{T:TF}{B:BF}{b c:Bool}
 (hx:di T x=some (.v (.c (.b b)))) (hy:di T y=some (.v (.c (.b c)))) (hu:P.underlying xt=some .bool) (hg:gd ops ⟨dst,.binOp .neq xt x y yt,ty,pos,af,g⟩ T=some true):
 Sem P ops ⟨dst,.binOp .neq xt x y yt,ty,pos,af,g⟩ T B (.r (.v (.c (.b (!(b==c)))))):=
 bO hg (mG rfl) (fun V β a w hs=>by
  have e1:a.eval x=.bool b:=RdC.bool_eq (aS hs (x:=x) (by simp[Op.operands]) hx)
  have e2:a.eval y=.bool c:=RdC.bool_eq (aS hs (x:=y) (by simp[Op.operands]) hy)
  refine⟨.bool (!(b==c)),?_,.b _⟩
  have h1:(eqGuard .neq xt x y (.bool b) (.bool c)).run P w=.ok () w:=rfl
  have h2:binOp .neq xt (.bool b) (.bool c)=(do pure (.bool (!(←Op.equal xt (.bool b) (.bool c))))):=rfl
  simp only[execOp,e1,e2,Sem.run_bind,h1,Result.andThen_ok,h2,pj hu,Sem.run_pure])
theorem HT {t1 t2:TypeId}{x:Operand}{T:TF}{B:BF}{k1 k2 k:IntKind}{m:Int}
 (h1:P.underlying t1=some (.int k1)) (h2:P.underlying t2=some (.int k2)) (hx:di T x=some (.v (.c (.i k m)))) (hg:gd ops ⟨dst,.convert t1 t2 x,ty,pos,af,g⟩ T=some true):
 Sem P ops ⟨dst,.convert t1 t2 x,ty,pos,af,g⟩ T B (.r (.v (.c (.i k2 (k2.wrap m))))):=
 bO hg (mG rfl) (fun V β a w hs=>by
  have e1:a.eval x=.int k m:=RdC.int_eq (aS hs (x:=x) (by simp[Op.operands]) hx)
  refine⟨.int k2 (k2.wrap m),?_,.i _ _⟩
  simp[execOp,e1,convert,run_underlying h1,run_underlying h2,Conv.intToInt])
end
def du (v:Nat):List Int:=if h:v=0 then[] else((v%1000000000:Nat):Int)::du (v/1000000000)
termination_by v
decreasing_by exact Nat.div_lt_self (Nat.pos_of_ne_zero h) (by omega)
theorem iG:du 0=[]:=by unfold du;simp
theorem uw {v:Nat}(h:v≠0):du v=((v%1000000000:Nat):Int)::du (v/1000000000):=by rw[du];simp[h]
theorem bW (v:Nat):Lim (du v):=by
 induction v using Nat.strongRecOn with
 |_ v ih=>
  by_cases h:v=0
  ·subst h;rw[iG];exact Lim.nil
  ·rw[uw h]
   exact Lim.cons (by omega) (by omega) (ih _ (Nat.div_lt_self (Nat.pos_of_ne_zero h) (by omega)))
theorem cz (v:Nat):val (du v)=v:=by
 induction v using Nat.strongRecOn with
 |_ v ih=>
  by_cases h:v=0
  ·subst h;rw[iG];rfl
  ·rw[uw h,dU,ih _ (Nat.div_lt_self (Nat.pos_of_ne_zero h) (by omega))]
   omega
theorem dZ {v:Nat}:du v=[]↔v=0:=by
 constructor
 ·intro h;have:=cz v;rw[h] at this;simp[val] at this;omega
 ·intro h;rw[h,iG]
theorem A5 {x:Int}{xs:List Int}(h:Nrm xs) (hx:xs≠ []):Nrm (x::xs):=by
 obtain⟨ys,y,e,hy⟩:=h.last hx
 rw[e]
 exact u5 (x::ys) y hy
theorem gY (v:Nat):Nrm (du v):=by
 induction v using Nat.strongRecOn with
 |_ v ih=>
  by_cases h:v=0
  ·subst h;rw[iG];exact Nrm.nil
  ·rw[uw h]
   by_cases h2:v/1000000000=0
   ·rw[h2,iG]
    exact u5 [] _ (by omega)
   ·exact A5 (ih _ (Nat.div_lt_self (Nat.pos_of_ne_zero h) (by omega))) (fun e=>h2 (dZ.1 e))
theorem Db {xs:List Int}(h:Nrm xs) (hl:Lim xs):xs=du (val xs).toNat:=by
 have h0:=cK hl
 exact Nrm.inj h (gY _) hl (bW _) (by rw[cz];omega)
def cL (x:Int):CellD:=.s (du x.natAbs).length ((du x.natAbs).map (CellD.i .u32))
def cI (x:Int):List CellD:=[.b (decide (x<0)),cL x]
def dI (x:Int):D0:=.a (cI x)
structure Sz (k:Nat) (x:Int):Prop where
 lt:x<pw k
 gt: -x<pw k
section
variable {av:Nat→Prop}{w w':World}
theorem q7 {A:Option Addr}{n c:Nat}{xs:List Int}(h:RdC av w (.slice A n c) (.s xs.length (xs.map (CellD.i .u32)))):RdI .u32 w A n xs∧n≤c∧c≤9223372036854775807∧(∀b off,0<n→A=some ⟨b,off,none⟩→ ¬av b):=by
 generalize hu:CellD.s xs.length (xs.map (CellD.i .u32))=u at h
 cases h with
 |s0 _ c hc=>
  injection hu with h1 h2
  have:xs=[]:=List.length_eq_zero_iff.1 h1
  subst this
  exact⟨Rd.nil,Nat.zero_le _,hc,fun _ _ h=>absurd h (by omega)⟩
 |s b off c sz n us cv h0 hnc hcm hlen hb hav hcell hr=>
  injection hu with h1 h2
  subst h1
  subst h2
  have hsz:sz=1:=by
   simp at hlen
   have:=Nat.eq_of_mul_eq_mul_left h0 (hlen.symm.trans (Nat.mul_one _).symm)
   exact this
  subst hsz
  refine⟨⟨by simp,fun _=>⟨b,off,rfl,hb,fun j u hj=>?_⟩⟩,hnc,hcm,fun b' off' _ e=>by injection e with e;injection e with e1 e2;subst e1;exact hav⟩
  rw[List.getElem?_map] at hj
  cases hx:xs[j]? with
  |none=>rw[hx] at hj;cases hj
  |some x=>
   rw[hx] at hj
   injection hj with hj
   have hlt:j<xs.length:=(List.getElem?_eq_some_iff.1 hx).1
   have hc:=hcell j (by omega)
   have hrr:=hr j (.i .u32 x) (by rw[List.getElem?_map,hx];rfl)
   rw[hc,RdC.int_eq hrr,←hj]
 |_=>cases hu
theorem qU {A:Option Addr}{n c:Nat}{xs:List Int}(h:RdI .u32 w A n xs) (hnc:n≤c) (hcm:c≤9223372036854775807) (hav: ∀b off,A=some ⟨b,off,none⟩→ ¬av b):
 RdC av w (.slice A n c) (.s n (xs.map (CellD.i .u32))):=by
 have hl:=h.len
 rcases Nat.eq_zero_or_pos n with h0|h0
 ·subst h0
  have:xs=[]:=List.length_eq_zero_iff.1 hl
  subst this
  exact .s0 A c hcm
 ·obtain⟨b,off,e,hb,hc⟩:=h.2 h0
  subst e
  refine .s b off c 1 n _ (fun j=>.int .u32 (xs.getD j 0)) h0 hnc hcm (by simp[hl]) hb (hav b off rfl) (fun j hj=>?_) (fun j u hj=>?_)
  ·have hlt:j<xs.length:=by omega
   refine hc j _ ?_
   rw[List.getElem?_map,List.getElem?_eq_getElem hlt]
   simp[List.getD,hlt]
  ·rw[List.getElem?_map] at hj
   cases hx:xs[j]? with
   |none=>rw[hx] at hj;cases hj
   |some x=>
    rw[hx] at hj
    injection hj with hj
    subst hj
    simp only[List.getD,hx,Option.getD_some]
    exact .i _ _
theorem ja {v:Value}{x:Int}(h:RdV av w v (dI x)): ∃neg A n c,v=.agg #[.bool neg,.slice A n c]∧IsInt w neg A n c x:=by
 obtain⟨cs,rfl,hr⟩:=h
 have hl:=hr.1
 obtain⟨cs⟩:=cs
 match cs,hl,hr with
 |[a,b],_,hr=>
  obtain⟨h1,hr⟩:=hr.uncons
  obtain⟨h2,_⟩:=hr.uncons
  unfold cL at h2
  have e1:=RdC.bool_eq h1
  subst e1
  have: ∃A n c,b=.slice A n c:=by
   generalize hu:CellD.s (du x.natAbs).length ((du x.natAbs).map (CellD.i .u32))=u at h2
   cases h2 with
   |s0 A c _=>exact⟨A,0,c,rfl⟩
   |s b off c sz n=>exact⟨_,n,c,rfl⟩
   |_=>cases hu
  obtain⟨A,n,c,rfl⟩:=this
  obtain⟨g1,g2,g3,_⟩:=q7 h2
  refine⟨_,A,n,c,rfl,du x.natAbs,⟨g1,g2,g3,bW _⟩,gY _,?_,fun hn=>?_⟩
  ·rw[cz]
   by_cases hx:x<0
   ·simp[hx,sg];omega
   ·simp[hx,sg];omega
  ·have hx:x<0:=by simpa using hn
   have:=g1.len
   rcases Nat.eq_zero_or_pos n with h0|h0
   ·rw[h0] at this
    have:=dZ.1 (List.length_eq_zero_iff.1 this);omega
   ·exact h0
theorem AN {neg:Bool}{A:Option Addr}{n c:Nat}{x:Int}(h:IsInt w neg A n c x) (hav: ∀b off,A=some ⟨b,off,none⟩→ ¬av b):RdV av w (.agg #[.bool neg,.slice A n c]) (dI x):=by
 obtain⟨s1,s2,s3,s4⟩:=h.sign
 obtain⟨xs,hs,hn,hx,hp⟩:=h
 have hneg:neg=decide (x<0):=by
  cases neg with
  |true=>simp[s1 rfl]
  |false=>
   rcases Nat.eq_zero_or_pos n with h0|h0
   ·simp[s3 h0]
   ·have:=s2 rfl h0
    simp;omega
 have hxs:xs=du x.natAbs:=by
  rw[Db hn hs.2.2.2]
  congr 1
  have:=cK hs.2.2.2
  cases neg with
  |true=>rw[fH] at hx;omega
  |false=>rw[dj] at hx;omega
 have hl:n=(du x.natAbs).length:=by rw[←hxs,hs.len]
 refine⟨_,rfl,RdCs.cons ?_ (RdCs.cons ?_ RdCs.nil)⟩
 ·rw[hneg];exact .b _
 ·unfold cL
  rw[←hl,←hxs]
  exact qU hs.1 hs.2.1 hs.2.2.1 hav
theorem l9 {x:Int}{e:Ending}(hav: ∀b,av b→b<w.heap.size) (h:A6 w x e w'): ∃v,e=.returned v∧OY av w' v [dI x]∧Below w.heap.size w w':=by
 obtain⟨neg,A,n,c,rfl,hi,hfr,hb⟩:=h
 exact⟨_,rfl,AN hi (fun b off e hv=>by have:=hav b hv;have:=hfr b off e;omega),hb⟩
theorem IsInt.sz {neg:Bool}{A:Option Addr}{n c:Nat}{x:Int}(h:IsInt w neg A n c x) (hs:Sz 1000000 x):n≤1000000:=h.le hs.1 hs.2
end
theorem Sz.mono {k l:Nat}{x:Int}(h:Sz k x) (hl:k≤l):Sz l x:=by
 have:=lh hl
 exact⟨by have:=h.1;omega,by have:=h.2;omega⟩
theorem Sz.m_ {k l:Nat}{x:Int}(h:Sz k x) (hl:k≤l:=by decide):Sz l x:=h.mono hl
theorem fm {k l:Nat}{x:Int}(h:Sz k x) (hl:k≤l:=by decide):Sz l x:=h.mono hl
theorem JE {l:Nat}{x:Int}(h:Sz l x:=by first|assumption|exact Sz.mono (by assumption) (by decide)):Sz l x:=h
theorem Sz.neg {k:Nat}{x:Int}(h:Sz k x):Sz k (-x):=⟨h.2,by have:=h.1;omega⟩
theorem Sz.add {k:Nat}{x y:Int}(h:Sz k x) (h':Sz k y):Sz (k+1) (x+y):=by
 have:=eh k
 have:=dJ k
 obtain⟨h1,h2⟩:=h
 obtain⟨h3,h4⟩:=h'
 constructor<;>omega
theorem Sz.abs {k:Nat}{x:Int}:Sz k x↔(x.natAbs:Int)<pw k:=⟨fun h=>by have:=h.lt;have:=h.gt;omega,fun h=>⟨by omega,by omega⟩⟩
theorem Sz.mul {k l:Nat}{x y:Int}(h:Sz k x) (h':Sz l y):Sz (k+l) (x*y):=by
 rw[Sz.abs] at*
 rw[Int.natAbs_mul,qQ,Int.natCast_mul]
 have h1:=dJ k
 have h2:=dJ l
 generalize (x.natAbs:Int)=a at*
 have hb0:0≤(y.natAbs:Int):=by omega
 generalize (y.natAbs:Int)=b at*
 generalize pw k=p at*
 generalize pw l=q at*
 have h3:a*b≤(p-1)*(q-1):=Int.mul_le_mul (by omega) (by omega) hb0 (by omega)
 have h4:(p-1)*(q-1)=p*q-p-q+1:=by simp only[Int.sub_mul,Int.mul_sub];omega
 omega
theorem Sz.of_le {k:Nat}{x y:Int}(h:Sz k x) (hy:y.natAbs≤x.natAbs):Sz k y:=by
 rw[Sz.abs] at*;omega
theorem Sz.small {k:Nat}{x:Int}(hk:3≤k) (h0: -9223372036854775808≤x) (h1:x≤9223372036854775807):Sz k x:=by
 have h3:pw 3=1000000000000000000000000000:=by decide
 have:=lh hk
 constructor<;>omega
section
theorem vx {x:Int}:Ok Tryz.prog 155 [dI x] [.c (.i .i64 (dS x 0))]:=⟨by kernel_rfl,fun av vs w hav h=>by
 obtain⟨vs⟩:=vs
 match vs,h.1,h with
 |[v],_,h=>
  obtain⟨neg,A,n,c,rfl,hi⟩:=ja h.uncons.1
  exact(Kz neg A n c x w hi).mono fun e w' ⟨he,hb⟩=>⟨_,he,.i _ _,hb⟩⟩
theorem kq {x y:Int}:Ok Tryz.prog 204 [dI x,dI y] [.c (.i .i64 (dS x y))]:=⟨by kernel_rfl,fun av vs w hav h=>by
 obtain⟨vs⟩:=vs
 match vs,h.1,h with
 |[v,u],_,h=>
  obtain⟨hv,hu⟩:=h.uncons
  replace hu:=hu.uncons.1
  obtain⟨neg,A,n,c,rfl,hi⟩:=ja hv
  obtain⟨neg',A',n',c',rfl,hi'⟩:=ja hu
  exact(IL neg neg' A A' n c n' c' x y w hi hi').mono fun e w' ⟨he,hb⟩=>⟨_,he,.i _ _,hb⟩⟩
theorem iz {x y:Int}(hx:Sz 1000000 x) (hy:Sz 1000000 y):Ok Tryz.prog 121 [dI x,dI y] [dI (x*y)]:=⟨by kernel_rfl,fun av vs w hav h=>by
 obtain⟨vs⟩:=vs
 match vs,h.1,h with
 |[v,u],_,h=>
  obtain⟨hv,hu⟩:=h.uncons
  replace hu:=hu.uncons.1
  obtain⟨neg,A,n,c,rfl,hi⟩:=ja hv
  obtain⟨neg',A',n',c',rfl,hi'⟩:=ja hu
  exact(Jz neg neg' A A' n c n' c' x y w hi hi' (hi.sz hx) (hi'.sz hy)).mono fun e w' h=>l9 hav h⟩
theorem uP {x y:Int}(hx:Sz 1000000 x) (hy:Sz 1000000 y):Ok Tryz.prog 209 [dI x,dI y] [dI (x+y)]:=⟨by kernel_rfl,fun av vs w hav h=>by
 obtain⟨vs⟩:=vs
 match vs,h.1,h with
 |[v,u],_,h=>
  obtain⟨hv,hu⟩:=h.uncons
  replace hu:=hu.uncons.1
  obtain⟨neg,A,n,c,rfl,hi⟩:=ja hv
  obtain⟨neg',A',n',c',rfl,hi'⟩:=ja hu
  exact(vz neg neg' A A' n c n' c' x y w hi hi' (hi.sz hx) (hi'.sz hy)).mono fun e w' h=>l9 hav h⟩
theorem MF {x y:Int}(hx:Sz 1000000 x) (hy:Sz 1000000 y):Ok Tryz.prog 298 [dI x,dI y] [dI (x-y)]:=⟨by kernel_rfl,fun av vs w hav h=>by
 obtain⟨vs⟩:=vs
 match vs,h.1,h with
 |[v,u],_,h=>
  obtain⟨hv,hu⟩:=h.uncons
  replace hu:=hu.uncons.1
  obtain⟨neg,A,n,c,rfl,hi⟩:=ja hv
  obtain⟨neg',A',n',c',rfl,hi'⟩:=ja hu
  exact(Lc neg neg' A A' n c n' c' x y w hi hi' (hi.sz hx) (hi'.sz hy)).mono fun e w' h=>l9 hav h⟩
theorem uQ {x:Int}(hx:Sz 1000000 x):Ok Tryz.prog 202 [dI x] [dI (-x)]:=⟨by kernel_rfl,fun av vs w hav h=>by
 obtain⟨vs⟩:=vs
 match vs,h.1,h with
 |[v],_,h=>
  obtain⟨neg,A,n,c,rfl,hi⟩:=ja h.uncons.1
  exact(IJ neg A n c x w hi (hi.sz hx)).mono fun e w' h=>l9 hav h⟩
theorem kH {x:Int}(h0: -9223372036854775808≤x) (h1:x≤9223372036854775807):Ok Tryz.prog 127 [.c (.i .i64 x)] [dI x]:=⟨by kernel_rfl,fun av vs w hav h=>by
 obtain⟨vs⟩:=vs
 match vs,h.1,h with
 |[v],_,h=>
  obtain rfl:=RdC.int_eq h.uncons.1
  exact(AO x w h0 h1).mono fun e w' h=>l9 hav h⟩
end
section
variable {P:Program}{ops:Array Oper}{o:Oper}{T:TF}{B:BF}{V:Nat→Prop}{β:Nat→Nat}{a:Act}{w w':World}{av:Nat→Prop}
theorem Cd {R:Value→World→Prop}
 (h: ∀(o':Oper) (a':Act) (K:Act→World→Prop) (Q:Exit→Act→World→Prop),o'.op=o.op→a'.eval=a.eval→(∀v w',R v w'→K (a'.put o'.dst v) w')→o'.wp P a' w K Q):Gives P o a w R:=by
 have he:(⟨a.tmps.push undef,a.defers⟩:Act).eval=a.eval:=by
  funext x
  cases x with
  |tmp t=>
   show(a.tmps.push undef).getD t undef=a.tmps.getD t undef
   by_cases ht:t<a.tmps.size
   ·simp only[Array.getD,ht,Array.size_push,Nat.lt_succ_of_lt ht,dite_true]
    rw[Array.getInternal_eq_getElem,Array.getInternal_eq_getElem,Array.getElem_push_lt]
   ·by_cases he:t=a.tmps.size
    ·subst he;simp[Array.getD]
    ·have h2: ¬t<a.tmps.size+1:=fun h=>he (Nat.le_antisymm (Nat.le_of_lt_succ h) (Nat.le_of_not_lt ht))
     simp[Array.getD,ht,h2]
  |_=>rfl
 have h1:=h {o with dst:=some a.tmps.size} ⟨a.tmps.push undef,a.defers⟩ (fun a'' w'=>a''.defers=a.defers∧ ∃v,a''.tmps[a.tmps.size]? =some v∧R v w') (fun _ _ _=>False) rfl he (fun v w' hv=>⟨rfl,v,by simp[Act.put],hv⟩)
 unfold Oper.wp at h1
 unfold Gives
 rw[he] at h1
 have e2:execOp a.eval {o with dst:=some a.tmps.size}=execOp a.eval o:=by cases o;rfl
 rw[e2] at h1
 have hput: ∀(v:Value) (w':World),(∃u,((⟨a.tmps.push undef,a.defers⟩:Act).put (some a.tmps.size) v).tmps[a.tmps.size]? =some u∧R u w')→R v w':=by
  rintro v w' ⟨u,hu,hR⟩
  simp[Act.put] at hu
  subst hu;exact hR
 generalize (execOp a.eval o).run P w=r at*
 cases r with
 |ok n w'=>
  cases n<;>simp only[Oper.upon] at h1<;>simp only[xL]
  case value v=>exact hput v w' h1.2
  case skip=>exact hput undef w' h1.2
  case enter f args=>
   refine h1.mono fun e w'' he=>?_
   cases e with
   |returned v=>exact⟨v,rfl,hput v w'' he.2⟩
   |panicked c=>exact he.elim
   |outgrown=>obtain⟨_,_,h⟩:=he;exact h.elim
  case defer d=>
   have:=h1.1
   simp[Act.put] at this
  case row row args=>exact h1.mono fun v w'' hv=>hput v w'' hv.2
 |halt x w'=>cases x<;>simp only[Oper.upon] at h1
theorem KM {x:Operand}{e:Int}
 (hx:di T x=some (.v (.c (cL e)))) (hs:Sz 1000000 e) (hg:gd ops ⟨dst,.call ⟨.builtin .append,#[.const (.slice none 0 0),x],#[31,31]⟩,ty,pos,af,g⟩ T=some true):
 Sem Tryz.prog ops ⟨dst,.call ⟨.builtin .append,#[.const (.slice none 0 0),x],#[31,31]⟩,ty,pos,af,g⟩ T B (.r (.v (.c (cL e)))):=by
 refine⟨mG rfl,fun V β a w hsee=>⟨d8 hsee hg,Cd fun o' a' K Q ho he hK=>?_⟩⟩
 have h1:RdC V w (a.eval x) (cL e):=aS hsee (x:=x) (by simp[Op.operands,Call.operands]) hx
 unfold cL at h1
 have hf: ∃A n c,a.eval x=.slice A n c:=by
  generalize hu:CellD.s (du e.natAbs).length ((du e.natAbs).map (CellD.i .u32))=u at h1
  generalize a.eval x=v at h1
  cases h1 with
  |s0 A c _=>exact⟨A,0,c,rfl⟩
  |s b off c sz n=>exact⟨_,n,c,rfl⟩
  |_=>cases hu
 obtain⟨A,n,c,hv⟩:=hf
 rw[hv] at h1
 obtain⟨g1,g2,g3,g4⟩:=q7 h1
 have hl:=g1.len
 have hn:n≤1000000:=by
  rw[←hl]
  refine(gY e.natAbs).len (bW _) ?_
  rw[cz];exact Sz.abs.1 hs
 refine E5 (.const (.slice none 0 0)) x ho A n c (du e.natAbs) rfl (by rw[he];exact hv) ⟨g1,g2,g3,bW _⟩ (by omega) ?_
 intro v' w' hown hgr
 refine hK v' w' ⟨?_,(Below.refl _ w).grown hgr (Nat.le_refl _) (by intro k hk;cases hk)⟩
 obtain⟨A',c',rfl⟩:=hown.form
 have hsl:=hown.sl
 have:=qU (av:=V) hsl.1 hsl.2.1 hsl.2.2.1 (fun b off e hV=>by have:=hown.fresh (k:=w.heap.size) (Nat.le_refl _) b off e;have:=hsee.av b hV;omega)
 show RdC V w' _ (cL e)
 unfold cL
 rw[hl]
 exact this
theorem Oa {xt yt:TypeId}{x y:Operand}{k:IntKind}{m n:Int}
 (hx:di T x=some (.v (.c (.i k m)))) (hy:di T y=some (.v (.c (.i k n)))) (h0:n≠0) (hg:gd ops ⟨dst,.binOp .quo xt x y yt,ty,pos,af,g⟩ T=some true):
 Sem P ops ⟨dst,.binOp .quo xt x y yt,ty,pos,af,g⟩ T B (.r (.v (.c (.i k (k.wrap (m.tdiv n)))))):=
 bO hg (mG rfl) (fun V β a w hs=>by
  have e1:a.eval x=.int k m:=RdC.int_eq (aS hs (x:=x) (by simp[Op.operands]) hx)
  have e2:a.eval y=.int k n:=RdC.int_eq (aS hs (x:=y) (by simp[Op.operands]) hy)
  exact⟨.int k (k.wrap (m.tdiv n)),by simp[execOp,e1,e2,eqGuard,binOp,Op.intDiv,h0],.i _ _⟩)
theorem yM {xt yt:TypeId}{x y:Operand}{k:IntKind}{m n:Int}
 (hx:di T x=some (.v (.c (.i k m)))) (hy:di T y=some (.v (.c (.i k n)))) (h0:n≠0) (hg:gd ops ⟨dst,.binOp .rem xt x y yt,ty,pos,af,g⟩ T=some true):
 Sem P ops ⟨dst,.binOp .rem xt x y yt,ty,pos,af,g⟩ T B (.r (.v (.c (.i k (m.tmod n))))):=
 bO hg (mG rfl) (fun V β a w hs=>by
  have e1:a.eval x=.int k m:=RdC.int_eq (aS hs (x:=x) (by simp[Op.operands]) hx)
  have e2:a.eval y=.int k n:=RdC.int_eq (aS hs (x:=y) (by simp[Op.operands]) hy)
  exact⟨.int k (m.tmod n),by simp[execOp,e1,e2,eqGuard,binOp,Op.intDiv,h0],.i _ _⟩)
theorem sj {v:Value}{x:Int}(h:RdC av w v (cL x)): ∃A n c,v=.slice A n c∧Sl w A n c (du x.natAbs)∧(∀b off,0<n→A=some ⟨b,off,none⟩→ ¬av b):=by
 have h1:=h
 unfold cL at h1
 have hf: ∃A n c,v=.slice A n c:=by
  generalize hu:CellD.s (du x.natAbs).length ((du x.natAbs).map (CellD.i .u32))=u at h1
  cases h1 with
  |s0 A c _=>exact⟨A,0,c,rfl⟩
  |s b off c sz n=>exact⟨_,n,c,rfl⟩
  |_=>cases hu
 obtain⟨A,n,c,rfl⟩:=hf
 obtain⟨g1,g2,g3,g4⟩:=q7 h1
 exact⟨A,n,c,rfl,⟨g1,g2,g3,bW _⟩,g4⟩
theorem fR {x:Int}{k:Nat}(h:Sz k x):(du x.natAbs).length≤k:=by
 refine(gY x.natAbs).len (bW _) ?_
 rw[cz];exact Sz.abs.1 h
theorem IN {A:Option Addr}{n c:Nat}{zs:List Int}{b:Nat}(h:Ow w' b (.slice A n c) n zs) (hav: ∀k,av k→k<b):RdC av w' (.slice A n c) (.l (val zs)):=
 .l A n c zs h.sl.1 h.sl.2.1 h.sl.2.2.1 h.sl.2.2.2 (fun b' off _ e hV=>by have:=h.fresh (Nat.le_refl _) b' off e;have:=hav b' hV;omega)
theorem qO {x y:Int}(hx:Sz 1000000 x) (hy:Sz 1000000 y) (h0:y≠0):Ok Tryz.prog 267 [.c (cL x),.c (cL y)] [.c (.l ((x.natAbs:Int)/y.natAbs)),.c (.l ((x.natAbs:Int)%y.natAbs))]:=⟨by kernel_rfl,fun av vs w hav h=>by
 obtain⟨vs⟩:=vs
 match vs,h.1,h with
 |[v,u],_,h=>
  obtain⟨hv,hu⟩:=h.uncons
  replace hu:=hu.uncons.1
  obtain⟨A,n,c,rfl,ha,_⟩:=sj hv
  obtain⟨B,m,d,rfl,hb,_⟩:=sj hu
  have:=ha.len
  have:=hb.len
  have:=fR hx
  have:=fR hy
  refine(Ew A B n c m d _ _ w ha hb (by omega) (by omega) (by rw[cz];omega)).mono ?_
  rintro e w' ⟨A',n',c',zs,B',m',d',ys,rfl,h1,h2,h3,h4,h5⟩
  rw[cz,cz] at h2 h4
  refine⟨_,rfl,⟨_,rfl,RdL.cons ?_ (RdL.cons ?_ RdL.nil)⟩,h5⟩
  ·rw[←h2];exact IN h1 hav
  ·rw[←h4];exact IN h3 hav⟩
theorem jA {neg:Bool}{x:Int}:Ok Tryz.prog 207 [.c (.b neg),.c (.l x)] [dI (sg neg x)]:=⟨by kernel_rfl,fun av vs w hav h=>by
 obtain⟨vs⟩:=vs
 match vs,h.1,h with
 |[v,u],_,h=>
  obtain⟨hv,hu⟩:=h.uncons
  replace hu:=hu.uncons.1
  obtain rfl:=RdC.bool_eq hv
  have hu0:RdC av w u (.l x):=hu
  generalize hq:CellD.l x=q at hu0
  cases hu0 with
  |l A n c xs h0 h1 h2 h3 h4=>
   injection hq with hq
   subst hq
   have hsl:Sl w A n c xs:=⟨h0,h1,h2,h3⟩
   refine(iJ neg A n c xs w hsl).mono ?_
   rintro e w' ⟨rfl,hb⟩
   refine⟨_,rfl,?_,hb⟩
   have hi:=(gm hsl neg).below hb
   obtain⟨xs',g1,g2,g3,g4⟩:=id hi
   rcases Nat.eq_zero_or_pos (trm xs).length with hz|hz
   ·have e0:trm xs=[]:=List.length_eq_zero_iff.1 hz
    have ev:val xs=0:=by rw[←gD,e0];rfl
    rw[hz] at hi⊢
    have hsv:sg neg (val xs)=0:=by rw[ev];cases neg<;>rfl
    rw[hsv]
    refine⟨_,rfl,RdCs.cons ?_ (RdCs.cons ?_ RdCs.nil)⟩
    ·simp;exact .b _
    ·unfold cL
     rw[show(0:Int).natAbs=0 from rfl,iG]
     exact .s0 A 0 (by omega)
   ·have hn:0<n:=by have:=oH xs;have:=h0.len;omega
    exact AN hi (fun b off e=>h4 b off hn e)
  |_=>cases hq⟩
theorem oT {neg:Bool}{x:Int}:Ok Tryz.prog 207 [.c (.b neg),.c (cL x)] [dI (sg neg x.natAbs)]:=⟨jA (neg:=neg) (x:=x.natAbs)|>.cal,fun av vs w hav h=>by
 refine jA.run av vs w hav ⟨h.1,fun j v d hv hd=>?_⟩
 match j,hd with
 |0,hd=>exact h.2 0 v d hv hd
 |1,hd=>
  injection hd with hd
  subst hd
  obtain⟨A,n,c,rfl,hs,hav'⟩:=sj (h.2 1 v _ hv rfl)
  have:=RdC.l (av:=av) A n c _ hs.1 hs.2.1 hs.2.2.1 hs.2.2.2 hav'
  rw[cz] at this
  exact this
 |j+2,hd=>cases hd⟩
theorem G8 {u:Int}(h0:0≤u) (h1:u≤18446744073709551615):Ok Tryz.prog 211 [.c (.i .u64 u)] [.c (.l u)]:=⟨by kernel_rfl,fun av vs w hav h=>by
 obtain⟨vs⟩:=vs
 match vs,h.1,h with
 |[v],_,h=>
  obtain rfl:=RdC.int_eq h.uncons.1
  refine(s7 u w h0 h1 (by omega)).mono ?_
  rintro e w' ⟨A,c,zs,rfl,g1,g2,g3⟩
  exact⟨_,rfl,by rw[←g2];exact IN g1 hav,g3⟩⟩
theorem B6 {x:Int}:Ok Tryz.prog 266 [dI x] [.c (.i .u64 (if x.natAbs<1000000000000000000 then x.natAbs else 0)),.c (.b (decide (x.natAbs<1000000000000000000)))]:=⟨by kernel_rfl,fun av vs w hav h=>by
 obtain⟨vs⟩:=vs
 match vs,h.1,h with
 |[v],_,h=>
  obtain⟨cs,hcs,hr⟩:=h.uncons.1
  subst hcs
  obtain⟨cs⟩:=cs
  match cs,hr.1,hr with
  |[a,b],_,hr=>
   obtain⟨h1,hr⟩:=hr.uncons
   have h2:=hr.uncons.1
   obtain rfl:=RdC.bool_eq h1
   obtain⟨A,n,c,rfl,hs,_⟩:=sj h2
   have hl:=hs.len
   have hp2:pw 2=1000000000000000000:=by decide
   by_cases hn:n≤2
   ·have hlt:x.natAbs<1000000000000000000:=by
     have h1:=eI (bW x.natAbs)
     rw[cz] at h1
     have h3:=lh (n:=(du x.natAbs).length) (m:=2) (by omega)
     omega
    have hfin: ∀(e:Ending) (w':World),e=.returned (.tuple #[.int .u64 (val (du x.natAbs)),.bool true])∧Below w.heap.size w w'→ ∃v,e=.returned v∧OY av w' v [.c (.i .u64 (if x.natAbs<1000000000000000000 then x.natAbs else 0)),.c (.b (decide (x.natAbs<1000000000000000000)))]∧Below w.heap.size w w':=by
     rintro e w' ⟨rfl,hb⟩
     refine⟨_,rfl,⟨_,rfl,RdL.cons ?_ (RdL.cons ?_ RdL.nil)⟩,hb⟩
     ·rw[if_pos hlt,cz];exact .i _ _
     ·rw[show decide (x.natAbs<1000000000000000000)=true from by simpa using hlt];exact .b _
    by_cases hn1:n≤1
    ·exact(IX _ A n c _ w hs hn1).mono hfin
    ·obtain rfl:n=2:=by omega
     exact(IH _ A c _ w hs).mono hfin
   ·have hge: ¬x.natAbs<1000000000000000000:=by
     have hne:du x.natAbs≠ []:=fun e=>by rw[e] at hl;simp at hl;omega
     have h1:=(gY x.natAbs).ge (bW _) hne
     rw[cz] at h1
     have h3:=lh (n:=2) (m:=(du x.natAbs).length-1) (by omega)
     omega
    refine(Gw _ A n c w (by omega)).mono ?_
    rintro e w' ⟨rfl,hb⟩
    refine⟨_,rfl,⟨_,rfl,RdL.cons ?_ (RdL.cons ?_ RdL.nil)⟩,hb⟩
    ·rw[if_neg hge];exact .i _ _
    ·rw[show decide (x.natAbs<1000000000000000000)=false from by simpa using hge];exact .b _⟩
end
def pc (P:Program) (U:TypeId):Option (TypeId×Nat×Nat×List CellD):=
 match P.underlying U with
 |some (.slice e)=>match P.info? e,zn P e with
  |some i,some zs=>if Nat.beq i.size zs.length then some (e,i.size,i.bytes,zs) else none
  |_,_=>none
 |_=>none
section
variable {P:Program}{ops:Array Oper}{o:Oper}{T:TF}{B:BF}{V:Nat→Prop}{β:Nat→Nat}{a:Act}{w w':World}{av:Nat→Prop}
theorem gI {U e:TypeId}{m by_:Nat}{zs:List CellD}(h:pc P U=some (e,m,by_,zs)):P.underlying U=some (.slice e)∧ ∃i z,P.info? e=some i∧i.zero=some z∧i.size=m∧i.bytes=by_∧zs.length=m∧ ∀(V:Nat→Prop) (w:World),RdCs V w z.cells.toList zs:=by
 unfold pc at h
 split at h
 ·rename_i e' hu
  split at h
  ·rename_i i zs' hi hz
   split at h
   ·rename_i hb
    injection h with h
    injection h with h1 h
    injection h with h2 h
    injection h with h3 h4
    subst h1 h2 h3 h4
    have hzc:=hz
    unfold zn at hzc
    rw[hi] at hzc
    dsimp only at hzc
    cases hz0:i.zero with
    |none=>rw[hz0] at hzc;cases hzc
    |some z=>
     refine⟨hu,i,z,hi,hz0,rfl,rfl,(Nat.eq_of_beq_eq_true hb).symm,fun V w=>?_⟩
     obtain⟨it,z',hi',hz',hr⟩:=ts (V:=V) (w:=w) hz
     rw[hi] at hi'
     injection hi' with e1
     subst e1
     rw[hz0] at hz'
     injection hz' with e2
     subst e2
     exact hr
   ·cases h
  ·cases h
 ·cases h
theorem kO {U e:TypeId}{l c:Operand}{by_ n:Nat}{z:CellD}{kl kc:IntKind}
 (hU:pc P U=some (e,1,by_,[z])) (hl:di T l=some (.v (.c (.i kl n)))) (hc:di T c=some (.v (.c (.i kc n)))) (hb:by_*n≤281474976710656) (h63:n≤9223372036854775807)
 (hg:gd ops ⟨dst,.makeSlice U l c,ty,pos,af,g⟩ T=some true):Sem P ops ⟨dst,.makeSlice U l c,ty,pos,af,g⟩ T B (.a e (List.replicate n z) (some n)):=fun V β a w hs=>⟨d8 hs hg,by
 obtain⟨hu,i,zv,hi,hz,hsz,hby,_,hr⟩:=gI hU
 have e1:a.eval l=.int kl n:=RdC.int_eq (aS hs (x:=l) (by simp[Op.operands]) hl)
 have e2:a.eval c=.int kc n:=RdC.int_eq (aS hs (x:=c) (by simp[Op.operands]) hc)
 have hrun:=run_make (P:=P) w U e i zv hu hi hz kl kc n n (by omega) (by omega) (by rw[hby];have h2:((by_*n:Nat):Int)≤281474976710656:=Int.ofNat_le.2 hb;rw[Int.natCast_mul] at h2;exact h2) (by omega)
 have hrr:=hr V w
 unfold Gives
 have:(execOp a.eval ⟨dst,.makeSlice U l c,ty,pos,af,g⟩).run P w=.ok (.value (.slice (some ⟨w.heap.size,0,none⟩) n n)) (w.alloc (.cells (madeCells zv.cells (n*1)) e)):=by
  simp only[execOp,e1,e2,Sem.run_bind,hrun,Result.andThen_ok,Sem.run_pure,hsz]
  simp
 rw[this]
 refine⟨_,rfl,rfl,by simp[madeCells],fun j v u hv hu=>?_⟩
 have hlen:zv.cells.size=1:=by have:=hrr.1;simpa using this
 simp only[madeCells,Nat.mul_one,hlen,Nat.mod_one,Array.toList_map,Array.toList_range,List.getElem?_map] at hv
 cases hq:(List.range n)[j]? with
 |none=>rw[hq] at hv;cases hv
 |some q=>
  rw[hq] at hv
  injection hv with hv
  have hu2:u=z:=by
   have:=List.mem_of_getElem? hu
   exact(List.mem_replicate.1 this).2
  subst hu2
  have hpos:0<zv.cells.size:=by omega
  have h0:zv.cells.toList[0]? =some (zv.cells[0]'hpos):=by rw[Array.getElem?_toList];exact Array.getElem?_eq_getElem hpos
  have:=hrr.2 0 _ u h0 rfl
  rw[←hv]
  have e3:zv.cells[0]! =zv.cells[0]'hpos:=getElem!_pos zv.cells 0 hpos
  rw[e3];exact this⟩
theorem eZ {x:Operand}{U:TypeId}{n m c k:Nat}
 (hU:qP P U=some m) (hx:di T x=some (.o k n c)) (hg:gd ops ⟨dst,.call ⟨.builtin .len,#[x],#[U]⟩,ty,pos,af,g⟩ T=some true):
 Sem P ops ⟨dst,.call ⟨.builtin .len,#[x],#[U]⟩,ty,pos,af,g⟩ T B (.r (.v (.c (.i .i64 n)))):=
 bO hg (mG rfl) (fun V β a w hs=>by
  have e:a.eval x=.slice (some ⟨β k,0,none⟩) n c:=aS hs (x:=x) (by simp[Op.operands,Call.operands]) hx
  unfold qP at hU
  split at hU
  ·rename_i el hu
   refine⟨.int .i64 n,?_,.i _ _⟩
   simp[execOp,resolve,invoke,builtin,Builtin.len_,e,run_underlying hu,goInt]
  ·cases hU)
theorem br {x i:Operand}{U:TypeId}{n m c k:Nat}{ki:IntKind}{j:Int}
 (hU:qP P U=some m) (hx:di T x=some (.o k n c)) (hi:di T i=some (.v (.c (.i ki j)))) (hj:0≤j∧j<n) (hg:gd ops ⟨dst,.indexAddr U x i,ty,pos,af,g⟩ T=some true):
 Sem P ops ⟨dst,.indexAddr U x i,ty,pos,af,g⟩ T B (.r (.p k (j.toNat*m))):=
 bO hg (fun k' e=>by
  obtain rfl:k=k':=by injection e
  exact mX (ops:=ops) (o:=⟨dst,.indexAddr U x i,ty,pos,af,g⟩) (by simp[Op.operands]) hx rfl) (fun V β a w hs=>by
  have e:a.eval x=.slice (some ⟨β k,0,none⟩) n c:=aS hs (x:=x) (by simp[Op.operands]) hx
  have h2:=RdC.int_eq (aS hs (x:=i) (by simp[Op.operands]) hi)
  unfold qP at hU
  split at hU
  case h_2=>cases hU
  rename_i el hul
  cases hinf:P.info? el with
  |none=>rw[hinf] at hU;cases hU
  |some inf=>
   rw[hinf] at hU
   simp at hU
   refine⟨.pointer (some ⟨β k,j.toNat*m,none⟩),?_,rfl⟩
   have hso: ∀w,(sizeOf el).run P w=.ok m w:=fun w=>by unfold sizeOf typeInfo;simp[program,Sem.run,hinf,hU]
   simp[execOp,Instr.indexAt,e,h2,asIntOf,run_underlying hul,hj.1,hj.2,hso,jb])
theorem jF {x h:Operand}{U:TypeId}{n m:Nat}{ki:IntKind}{j:Int}{xs us:List CellD}
 (hU:qP P U=some m) (hx:di T x=some (.v (.c (.s n xs)))) (hh:di T h=some (.v (.c (.i ki j)))) (hj:0≤j∧j≤n) (hl:xs.length=n*m) (hu:xs.take (j.toNat*m)=us) (hg:gd ops ⟨dst,.slice U x none (some h) none,ty,pos,af,g⟩ T=some true):
 Sem P ops ⟨dst,.slice U x none (some h) none,ty,pos,af,g⟩ T B (.r (.v (.c (.s j.toNat us)))):=
 bO hg (mG rfl) (fun V β a w hs=>by
  have h1:=aS hs (x:=x) (by simp[Op.operands]) hx
  have h2:=RdC.int_eq (aS hs (x:=h) (by simp[Op.operands]) hh)
  generalize hv:a.eval x=v at h1
  have h1:RdC V w v (.s n xs):=h1
  unfold qP at hU
  split at hU
  case h_2=>cases hU
  rename_i el hul
  cases hinf:P.info? el with
  |none=>rw[hinf] at hU;cases hU
  |some inf=>
   rw[hinf] at hU
   simp at hU
   have hso: ∀w,(sizeOf el).run P w=.ok m w:=fun w=>by unfold sizeOf typeInfo;simp[program,Sem.run,hinf,hU]
   have hgen: ∀(A:Option Addr) (c:Nat),a.eval x=.slice A n c→j≤c→(execOp a.eval ⟨dst,.slice U x none (some h) none,ty,pos,af,g⟩).run P w=.ok (.value (.slice A j.toNat c)) w:=by
    intro A c e hjc
    have hA:(if c=0 then A else Option.map (fun x:Addr=>x.add (0*m)) A)=A:=by
     split
     ·rfl
     ·cases A with
      |none=>rfl
      |some A=>simp[Addr.add]
    simp[execOp,Instr.sliceAt,Instr.slice,run_underlying hul,e,h2,Instr.sliceBounds,Instr.sliceBound,asIntOf,hj.1,hjc,hso,Addr.add]
    try (cases A<;>rfl)
   cases h1 with
   |s0 A c hc=>
    have hj0:j.toNat=0:=by omega
    refine⟨_,hgen A c hv (by omega),?_⟩
    rw[←hu]
    rw[hj0]
    simp
    exact .s0 A c hc
   |s b off c sz _ _ cv h0 hnc hcm hlen hb hav hc hr=>
    have hsz:sz=m:=by
     rw[hl] at hlen
     exact(Nat.eq_of_mul_eq_mul_left h0 hlen).symm
    subst hsz
    refine⟨_,hgen _ c hv (by omega),?_⟩
    rcases Nat.eq_zero_or_pos j.toNat with hj0|hj0
    ·rw[←hu,hj0];simp;exact .s0 _ c hcm
    ·have hjn:j.toNat≤n:=by omega
     have hmul:j.toNat*sz≤n*sz:=Nat.mul_le_mul_right _ hjn
     refine .s b off c sz j.toNat us cv hj0 (by omega) hcm ?_ hb hav (fun q hq=>hc q (by omega)) (fun q u hq=>?_)
     ·rw[←hu,List.length_take,hlen];omega
     ·rw[←hu,List.getElem?_take] at hq
      split at hq
      ·exact hr q u hq
      ·cases hq)
end
section
variable {P:Program}{ops:Array Oper}{o:Oper}{T:TF}{B:BF}{V:Nat→Prop}{β:Nat→Nat}{a:Act}{w w':World}{av:Nat→Prop}
theorem Km {vs:List Value}{us:List CellD}(h:RdCs V w vs us): ∀v∈vs,v.oneCell'=true:=by
 intro v hv
 obtain⟨j,hj⟩:=List.getElem?_of_mem hv
 have hlt:j<us.length:=by rw[←h.1];exact(List.getElem?_eq_some_iff.1 hj).1
 have:=h.2 j v _ hj (List.getElem?_eq_getElem hlt)
 generalize us[j]=u at this
 cases this<;>rfl
theorem DJ {v:Value}{n m:Nat}{xs:List CellD}(h:RdC V w v (.s n xs)) (hl:xs.length=n*m):
 ∃(A:Option Addr) (c:Nat) (vs:List Value),v=.slice A n c∧RdCs V w vs xs∧(∀(j:Nat) (u:Value),vs[j]? =some u→ ∃b off,A=some ⟨b,off,none⟩∧w.cell? ⟨b,off+j,none⟩=some u):=by
 generalize hu:CellD.s n xs=u at h
 cases h with
 |s0 A c hc=>
  injection hu with h1 h2
  subst h1 h2
  exact⟨A,c,[],rfl,RdCs.nil,fun j u hj=>by simp at hj⟩
 |s b off c sz n' xs' cv h0 hnc hcm hlen hb hav hcell hr=>
  injection hu with h1 h2
  subst h1 h2
  refine⟨_,c,(List.range (n*sz)).map cv,rfl,⟨by simp[hlen],fun j v u hv hu=>?_⟩,fun j u hj=>?_⟩
  ·rw[List.getElem?_map] at hv
   generalize hq:(List.range (n*sz))[j]? =r at hv
   match r,hq,hv with
   |some q,hq,hv=>
    obtain⟨_,rfl⟩:=p5 hq
    simp at hv
    subst hv
    exact hr _ u hu
  ·rw[List.getElem?_map] at hj
   generalize hq:(List.range (n*sz))[j]? =r at hj
   match r,hq,hj with
   |some q,hq,hj=>
    obtain⟨hlt,rfl⟩:=p5 hq
    simp at hj
    subst hj
    exact⟨b,off,rfl,hcell _ hlt⟩
 |_=>cases hu
theorem no {v:Value}{U e:TypeId}{n m by_:Nat}{xs zs:List CellD}(hU:pc P U=some (e,m,by_,zs)) (h:RdC V w v (.s n xs)) (hl:xs.length=n*m): ∃news,Src P m U v n news w∧RdCs V w news xs:=by
 obtain⟨A,c,vs,rfl,hr,hc⟩:=DJ h hl
 obtain⟨hu,_⟩:=gI hU
 have hlen:vs.length=n*m:=by rw[hr.1,hl]
 have hcells: ∀w',(∀a:Addr,w'.cell? a=w.cell? a)→(Builtin.firstCells m n (.slice A n c)).run P w'=.ok vs.toArray w':=by
  intro w' hw
  cases A with
  |none=>
   have:vs=[]:=by
    cases vs with
    |nil=>rfl
    |cons u us=>obtain⟨b,off,e,_⟩:=hc 0 u rfl;cases e
   subst this;rfl
  |some A=>
   have:=run_loadCells_list (P:=P) w' A vs (fun j u hj=>by
    obtain⟨b,off,e,hcell⟩:=hc j u hj
    injection e with e
    subst e
    rw[jb,hw];exact hcell)
   rw[hlen] at this
   exact this
 exact⟨vs,⟨.inl ⟨e,hu⟩,fun _=>rfl,hcells w (fun _=>rfl),hcells w.drew (fun _=>rfl),hlen,Km hr⟩,hr⟩
theorem rq {x y:Operand}{U e:TypeId}{n c q m by_ k:Nat}{cs ys zs us:List CellD}
 (hU:pc P U=some (e,m,by_,zs)) (hx:di T x=some (.o k n c)) (hy:di T y=some (.v (.c (.s q ys)))) (hb:B k=some (e,cs)) (hcs:cs.length=c*m) (hys:ys.length=q*m) (hm:0<m)
 (hgrow:c<n+q) (hnc:n≤c) (hbytes:(n+q)*by_≤140737488355328) (h63:n+q≤maxLen) (hus:cs.take (n*m)++ys=us)
 (hg:gd ops ⟨dst,.call ⟨.builtin .append,#[x,y],#[U,U]⟩,ty,pos,af,g⟩ T=some true):
 Sem P ops ⟨dst,.call ⟨.builtin .append,#[x,y],#[U,U]⟩,ty,pos,af,g⟩ T B (.c k (.v (.c (.s (n+q) us)))):=by
 refine⟨rfl,by rw[hb];simp,fun V β a w hs=>⟨d8 hs hg,?_⟩⟩
 have e1:a.eval x=.slice (some ⟨β k,0,none⟩) n c:=aS hs (x:=x) (by simp[Op.operands,Call.operands]) hx
 have h2:RdC V w (a.eval y) (.s q ys):=aS hs (x:=y) (by simp[Op.operands,Call.operands]) hy
 obtain⟨news,hsrc,hrn⟩:=no hU h2 hys
 obtain⟨hu,i,z,hi,hz,hsz,hby,_,hzr⟩:=gI hU
 obtain⟨hvk,vs,ev,hr⟩:=hs.box k e cs hb
 subst hsz
 have hle:n*i.size≤cs.length:=by rw[hcs];exact Nat.mul_le_mul_right _ hnc
 have hr2:=hr.take (n*i.size)
 have hlen:(vs.toList.take (n*i.size)).length=n*i.size:=by rw[hr2.1,List.length_take];omega
 have hold:(Builtin.firstCells i.size n (.slice (some ⟨β k,0,none⟩) n c)).run P w.drew=.ok (vs.toList.take (n*i.size)).toArray w.drew:=by
  have:=run_loadCells_list (P:=P) w.drew ⟨β k,0,none⟩ (vs.toList.take (n*i.size)) (fun j u hj=>by
   rw[jb,Nat.zero_add]
   show w.cell? _=_
   rw[List.getElem?_take] at hj
   split at hj
   ·rw[cE ev,←hj];simp
   ·cases hj)
  rw[hlen] at this
  exact this
 have hrun:=run_append_grow_src (P:=P) (w:=w) U U ty e i z hu hi hz (some ⟨β k,0,none⟩) n c _ hold (a.eval y) q news hsrc hgrow (by have:maxLen=9223372036854775807:=rfl;omega) (growslice_fits hgrow (by rw[hby];exact hbytes))
 have hexec:(execOp a.eval ⟨dst,.call ⟨.builtin .append,#[x,y],#[U,U]⟩,ty,pos,af,g⟩).run P w=.ok (.value (.slice (some ⟨w.heap.size,0,none⟩) (n+q) (grownCap w (n+q) c e)))
  (w.drew.alloc (.cells ((vs.toList.take (n*i.size)++news).toArray++Builtin.zeroCells z.cells (grownCap w (n+q) c e-(n+q))) e)):=by
  simp only[execOp,resolve,invoke,builtin,Sem.run_bind,Sem.run_pure,Result.andThen_ok,List.map_toArray,List.map_cons,List.map_nil,e1]
  rw[hrun]
  rfl
 unfold Gives
 rw[hexec]
 have hbel:Below w.heap.size w (w.drew.alloc (.cells ((vs.toList.take (n*i.size)++news).toArray++Builtin.zeroCells z.cells (grownCap w (n+q) c e-(n+q))) e)):=(Below.refl _ w).drew.alloc (Nat.le_refl _) _
 refine⟨?_,hbel⟩
 have hkeep:Keep V (fun b=>V b∧b≠β k) w (w.drew.alloc (.cells ((vs.toList.take (n*i.size)++news).toArray++Builtin.zeroCells z.cells (grownCap w (n+q) c e-(n+q))) e)):=⟨hbel.size,fun b hb _=>hbel.block b hb,fun _ _ h=>h.1⟩
 have hrd:=(RdCs.append hr2 hrn).keep hkeep
 rw[hus] at hrd
 have hlenr:(vs.toList.take (n*i.size)++news).length=(n+q)*i.size:=by rw[List.length_append,hlen,hsrc.newsLen,Nat.add_mul]
 refine .s w.heap.size 0 (grownCap w (n+q) c e) i.size (n+q) us (fun j=>(vs.toList.take (n*i.size)++news).getD j undef) (by omega) (grownCap_ge _ _ _ _) ?_ (by rw[←hrd.1];exact hlenr) (by simp) (fun h=>by have:=hs.av _ h.1;omega) (fun j hj=>?_) (fun j u hj=>?_)
 ·exact grownCap_le_maxLen _ _ _ _ h63
 ·have hlt:j<(vs.toList.take (n*i.size)++news).length:=by omega
  rw[Nat.zero_add]
  show(w.drew.alloc _).cell? ⟨w.drew.heap.size,j,none⟩=_
  rw[cE (U:=e) (vs:=(vs.toList.take (n*i.size)++news).toArray++Builtin.zeroCells z.cells (grownCap w (n+q) c e-(n+q))) (heap_alloc_new w.drew _)]
  rw[Array.getElem?_append_left (by simpa using hlt)]
  simp only[List.getElem?_toArray,List.getD]
  rw[List.getElem?_eq_getElem hlt];rfl
 ·have hlt:j<(vs.toList.take (n*i.size)++news).length:=by rw[hrd.1];exact(List.getElem?_eq_some_iff.1 hj).1
  have hv:(vs.toList.take (n*i.size)++news)[j]? =some ((vs.toList.take (n*i.size)++news)[j]):=List.getElem?_eq_getElem hlt
  simp only[List.getD,hv,Option.getD_some]
  exact hrd.2 j _ u hv hj
theorem gg {U e:TypeId}{ps:Array (Nat×Operand)}{n m by_:Nat}{zs us:List CellD}{dps:List (Nat×D0)}
 (hU:pc P U=some (e,m,by_,zs)) (hp:pT T ps.toList=some dps) (hf:qG (fun i=>some (i*m,m)) (List.replicate n zs).flatten dps=some us) (hn:n*m≤16777216) (hm:0<n*m)
 (hg:gd ops ⟨dst,.buildSlice U n ps,ty,pos,af,g⟩ T=some true):Sem P ops ⟨dst,.buildSlice U n ps,ty,pos,af,g⟩ T B (.a e us (some n)):=fun V β a w hs=>⟨d8 hs hg,by
 obtain⟨hu,i,z,hi,hz,hsz,hby,hzl,hzr⟩:=gI hU
 obtain⟨h1,h2⟩:=oP hs ps.toList dps (fun p hp=>by simp only[Op.operands,List.mem_toArray,List.mem_map];exact⟨p,hp,rfl⟩) hp
 subst hsz
 have hzs:z.cells.size=i.size:=by have:=(hzr V w).1;rw[hzl] at this;simpa using this
 have hzero:RdCs V w ((Array.range (n*i.size)).map (z.cells[· %z.cells.size]!)).toList (List.replicate n zs).flatten:=by
  have key: ∀(n:Nat),RdCs V w ((List.range (n*i.size)).map (fun j=>z.cells[j%z.cells.size]!)) (List.replicate n zs).flatten:=by
   intro n
   induction n with
   |zero=>simp;exact RdCs.nil
   |succ n ih=>
    rw[Nat.succ_mul,List.range_add,List.map_append,List.replicate_succ',List.flatten_append]
    refine RdCs.append ih ?_
    have e2:(List.map (fun x=>n*i.size+x) (List.range i.size)).map (fun j=>z.cells[j%z.cells.size]!)=z.cells.toList:=by
     apply List.ext_getElem (by simp[hzs])
     intro j h1 h2
     simp at h1
     simp only[List.getElem_map,List.getElem_range,hzs]
     rw[Nat.mul_comm n,Nat.mul_add_mod,Nat.mod_eq_of_lt (by omega),getElem!_pos z.cells j (by omega)]
     simp
    rw[e2]
    simpa using hzr V w
  have:=key n
  simpa using this
 obtain⟨cells,hfl,hrd⟩:=re _ dps _ _ us h1 h2 hzero hf
 have hrun:=run_buildSlice (P:=P) w U e n (ps.map fun(i,x)=>(i,a.eval x)) cells i z hu hi hz (by have:(2:Nat)^24=16777216:=rfl;omega) (by omega) (by simpa using hfl)
 unfold Gives
 have:(execOp a.eval ⟨dst,.buildSlice U n ps,ty,pos,af,g⟩).run P w=.ok (.value (.slice (some ⟨w.heap.size,0,none⟩) n n)) (w.alloc (.cells cells e)):=by
  simp only[execOp,Sem.run_bind,hrun,Result.andThen_ok,Sem.run_pure]
 rw[this]
 exact⟨cells,rfl,rfl,hrd⟩⟩
end
section
variable {P:Program}{σ:St}{Q:Exit→St→Prop}
theorem Rel.upd {av:Nat→Prop}{w0:Ent}{w:World}{n:Nat}{T:TF}{B:BF}{β:Nat→Nat}{a:Act}(h:Rel av w0 n T B β a w) {t:Nat}{x:DV}{v:Value}(hv:a.tmps[t]? =some v)
 (hx:RdX (fun b=>av b∨ ∃k,B k≠none∧β k=b) w β v x) (hr:iB x=none):Rel av w0 n (fun s=>if t=s then some x else T s) B β a w:=
 ⟨h.dfr,h.siz,h.bel,h.avl,h.avE,h.big,h.fix,h.inj,h.own,fun s y k hs hy=>by
  try dsimp only at hs
  split at hs
  ·injection hs with hs;subst hs;rw[hr] at hy;cases hy
  ·exact h.wf s y k hs hy,h.sees.av,h.sees.box,fun s y hL hs=>by
  try dsimp only at hs
  split at hs
  ·rename_i e;injection hs with hs;subst hs;subst e;exact⟨v,hv,hx⟩
  ·exact h.sees.tmp s y hL hs⟩
theorem gE {ι:Type}{x y:Code}(J:ι→St) (h1:Dw P x σ (Cy (fun σ'=> ∃j,Sub σ' (J j)) Q)) (h2: ∀j,Dw P y (J j) Q):Dw P (.seq x y) σ Q:=by
 refine aa (h1.mono fun e σ' h=>?_)
 cases e with
 |normal=>obtain⟨j,hs⟩:=h;exact(h2 j).weak hs
 |_=>exact h
theorem cV {c:Code}{N t k n' c' m:Nat}{tm:List (Nat×DV)}{bx:List (Nat×TypeId×List CellD)}{U:TypeId}{cs us:List CellD}
 (ht:aT t tm=some (.o k n' c')) (hb:aT k bx=some (U,cs)) (hm:cs.length=c'*m) (hn:n'≤c') (hc:c'≤9223372036854775807) (hu:cs.take (n'*m)=us)
 (h:Dw P c ⟨N,(t,.v (.c (.s n' us)))::jg k tm,iK k bx⟩ Q):Dw P c ⟨N,tm,bx⟩ Q:=fun av w0 β a w hr=>by
 obtain⟨v,hv,hx⟩:=hr.sees.tmp t _ trivial ht
 have hx:v=.slice (some ⟨β k,0,none⟩) n' c':=hx
 subst hx
 obtain⟨hvk,vs,ev,hrd⟩:=hr.sees.box k U cs hb
 have hk0:(St.B ⟨N,tm,bx⟩) k≠none:=by rw[show(St.B ⟨N,tm,bx⟩) k=some (U,cs) from hb];simp
 have e:=Ad hr hk0
 have hkeep:Keep (fun b=>av b∨ ∃l,(St.B ⟨N,tm,bx⟩) l≠none∧β l=b) (fun b=>(av b∨ ∃l,(St.B ⟨N,tm,bx⟩) l≠none∧β l=b)∧b≠β k) w w:=⟨Nat.le_refl _,fun _ _ _=>rfl,fun _ _ h=>h.1⟩
 have hle:n'*m≤cs.length:=by rw[hm];exact Nat.mul_le_mul_right _ hn
 have hread:RdC (fun b=>(av b∨ ∃l,(St.B ⟨N,tm,bx⟩) l≠none∧β l=b)∧b≠β k) w (.slice (some ⟨β k,0,none⟩) n' c') (.s n' us):=by
  rcases Nat.eq_zero_or_pos n' with h0|h0
  ·subst h0
   rw[←hu];simp
   exact .s0 _ _ hc
  ·have hr2:=(hrd.take (n'*m)).keep hkeep
   rw[hu] at hr2
   have hvl:n'*m≤vs.size:=by have:=hrd.1;simp at this;omega
   refine .s (β k) 0 c' m n' us (fun j=>vs.getD j undef) h0 hn hc ?_ (hr.sees.av _ hvk) (fun h=>h.2 rfl) (fun j hj=>?_) (fun j u hj=>?_)
   ·rw[←hu,List.length_take];omega
   ·rw[Nat.zero_add,cE ev]
    have:j<vs.size:=by omega
    simp[Array.getD,this]
   ·have hlt:j<us.length:=(List.getElem?_eq_some_iff.1 hj).1
    have hlt2:j<n'*m:=by rw[←hu,List.length_take] at hlt;omega
    refine hr2.2 j _ u ?_ hj
    rw[List.getElem?_take,if_pos hlt2,Array.getElem?_toList]
    have:j<vs.size:=by omega
    simp[Array.getD,this]
 have h2:=(hr.drop k).upd (t:=t) (x:=.v (.c (.s n' us))) hv (by rw[e];exact hread) rfl
 refine h av w0 β a w (h2.congr (fun s=>?_) (fun l=>?_))
 ·show aT s ((t,.v (.c (.s n' us)))::jg k tm)=_
  rw[bq]
  split
  ·rfl
  ·rw[jC]
   show _=kV k (fun s=>aT s tm) s
   unfold kV
   try (dsimp only)
   try (generalize aT s tm=q;cases q<;>rfl)
 ·exact iE k l bx
end
end Go.Proofs.YtkmdgigkbhmilaaGreat
