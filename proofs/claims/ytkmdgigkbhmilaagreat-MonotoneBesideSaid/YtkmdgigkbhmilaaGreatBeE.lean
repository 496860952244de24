/-Data:what each operation comes to. -/
import Derived.Test.YtkmdgigkbhmilaaGreatBeD
import Derived.Tactics
import Derived.Laws.Cells
import Derived.Laws.CopyRow
import Derived.Laws.Tables
import Derived.Laws.Rows
namespace Go.Proofs.YtkmdgigkbhmilaaGreat
open Go Go.RowKit
variable {old vs:Array Value}{B:BF}{op:BinOp}{b q:Bool}{u:CellD}{c:Code}{d:D0}{dv:DV}{w0:Ent}{Q:Exit→St→Prop}{fn:Func}{f:FuncId}{e j m:Int}{bx bx':List (Nat×TypeId×List CellD)}{cs us zs:List CellD}{ds:List D0}{xs:List Int}{rs:List ResultVar}{N i id k l n o' off:Nat}{a:Nat×TypeId×List CellD}{β:Nat→Nat}{av:Nat→Prop}{ax fo x y:Operand}{A:Option Addr}{σ':St}{T:TF}{U W t1 t2 xt yt:TypeId}{v:Value}{w:World}
variable {ty:TypeId}{pos:String}{af:Array Edge}{g:Option (Nat×Bool)}{dst:Option Nat}
theorem fI:type_of% @Sem.run_bind:=@Sem.run_bind
theorem fM:type_of% @Result.andThen_ok:=@Result.andThen_ok
theorem gG:type_of% @Sem.run_pure:=@Sem.run_pure
theorem lP:type_of% @RdCs.append:=@RdCs.append
theorem tJ:type_of% @RdCs.nil:=@RdCs.nil
theorem tY:type_of% @RdL.cons:=@RdL.cons
theorem u6:type_of% @RdCs.cons:=@RdCs.cons
theorem sJ:type_of% @Bool.not_eq_true':=@Bool.not_eq_true'
theorem tw:type_of% @Code.wp_mono:=@Code.wp_mono
theorem uU:type_of% @List.foldl_cons:=@List.foldl_cons
theorem zl:type_of% @Int.natAbs_mul:=@Int.natAbs_mul
theorem BJ:type_of% @List.mem_append_left:=@List.mem_append_left
theorem Fk:type_of% @Nat.eq_of_mul_eq_mul_left:=@Nat.eq_of_mul_eq_mul_left
def qf (P:Program) (U:TypeId):Option (Bool×Nat):=
 match P.underlying U,P.info? U with
 |some d,some i=>some ((match d with| .struct _| .array _ _=>true|_=>false),i.size)
 |_,_=>none
def Sk (P:Program) (U:TypeId) (f:Nat):Option Nat:=
 match P.underlying U with
 |some (.struct fs)=>match fs[f]? with
  |some fd=>match P.info? fd.type with
   |some i=>if Nat.beq i.size 0 then none else some fd.offset
   |none=>none
  |none=>none
 |_=>none
def Jn (P:Program) (U:TypeId):Option (List (Nat×Nat)):=
 match P.underlying U with
 |some (.struct fs)=>fs.toList.mapM fun fd=>(P.info? fd.type).map fun i=>(fd.offset,i.size)
 |_=>none
def pd:Value→Option CellD
 | .bool b=>some (.b b)
 | .int k n=>some (.i k n)
 | .slice none 0 0=>some (.s 0 [])
 |_=>none
def XW:Value→Option D0
 | .agg cs=>(cs.toList.mapM pd).map .a
 |v=>(pd v).map .c
def CW (P:Program) (U:TypeId):Option (List CellD):=
 match P.info? U with
 |some i=>match i.zero with
  |some z=>(XW z).map D0.cells
  |none=>none
 |none=>none
def dc (T:TF):Operand→Option DV
 | .tmp t=>T t
 | .const v=>(XW v).map .v
 | .func g=>some (.v (.c (.f g)))
 | .global _=>none
def gd (ops:Array Oper) (o:Oper) (T:TF):Option Bool:=
 match o.guard with
 |none=>some true
 |some (g,b)=>match (ops[g]?).bind (·.dst) with
  |some t=>match T t with
   |some (.v (.c (.b v)))=>some (v==b)
   |some .u=>some false
   |_=>none
  |none=>some false
section
variable {P:Program}{ops:Array Oper}{o:Oper}{T:TF}{B:BF}{V:Nat→Prop}{β:Nat→Nat}{a:Act}{w:World}
theorem Ay (h:pd v=some u):RdC V w v u:=by
 cases v with
 |bool b=>simp[pd] at h;subst h;exact .b b
 |int k n=>simp[pd] at h;subst h;exact .i k n
 |slice A n c=>
  cases A with
  |some A=>simp[pd] at h
  |none=>
   cases n with
   |zero=>
    cases c with
    |zero=>simp[pd] at h;subst h;exact .s0 none 0 (by omega)
    |succ c=>simp[pd] at h
   |succ n=>simp[pd] at h
 |_=>simp[pd] at h
theorem mapM_cons {α γ:Type}(f:α→Option γ) (x:α) (l:List α):(x::l).mapM f=(f x).bind fun y=>(l.mapM f).bind fun ys=>some (y::ys):=by simp_all
theorem yO: ∀(vs:List Value) (us:List CellD),vs.mapM pd=some us→RdCs V w vs us
 |[],us,h=>by
  have:us=[]:=by simpa [List.mapM_nil] using h.symm
  subst this;exact tJ
 |v::vs,us,h=>by
  rw[mapM_cons] at h
  cases h1:pd v with
  |none=>rw[h1] at h;cases h
  |some u=>
   cases h2:vs.mapM pd with
   |none=>rw[h1,h2] at h;cases h
   |some us'=>
    rw[h1,h2] at h
    injection h with h
    subst h
    exact u6 (Ay h1) (yO vs us' h2)
theorem Dg (h:XW v=some d):RdV V w v d:=by
 unfold XW at h
 split at h
 ·rename_i cs
  cases h1:cs.toList.mapM pd with
  |none=>rw[h1] at h;cases h
  |some us=>rw[h1] at h;injection h with h;subst h;exact⟨cs,rfl,yO _ _ h1⟩
 ·cases h1:pd v with
  |none=>rw[h1] at h;cases h
  |some u=>rw[h1] at h;injection h with h;subst h;exact Ay h1
theorem aK (hs:Sees V (iZ ops o) T B β a w) (hx:x∈o.op.operands) (h:dc T x=some dv):RdX V w β (a.eval x) dv:=by
 cases x with
 |tmp t=>
  have hl:iZ ops o t:=BJ _ (List.mem_filterMap.2 ⟨.tmp t,by simpa using hx,rfl⟩)
  obtain⟨v,e,hr⟩:=hs.tmp t dv hl h
  have:a.eval (.tmp t)=v:=by
   show a.tmps.getD t undef=v
   obtain⟨hlt,e⟩:=rD.1 e
   simp[Array.getD,hlt,e]
  grind
 |const v=>
  cases h1:XW v with
  |none=>simp[dc,h1] at h
  |some d=>simp[dc,h1] at h;subst h;exact Dg h1
 |func g=>simp[dc] at h;subst h;exact .f g
 |global g=>simp[dc] at h
theorem qR {y:DV}(hx:x∈o.op.operands) (h:dc T x=some y) (hy:kg y=some k): ∃t y,iZ ops o t∧T t=some y∧kg y=some k:=by
 cases x with
 |tmp t=>exact⟨t,y,BJ _ (List.mem_filterMap.2 ⟨.tmp t,by simpa using hx,rfl⟩),h,hy⟩
 |const v=>
  cases h1:XW v with
  |none=>simp[dc,h1] at h
  |some d=>simp[dc,h1] at h;subst h;cases hy
 |func g=>simp[dc] at h;subst h;cases hy
 |global g=>simp[dc] at h
theorem fa (hs:Sees V (iZ ops o) T B β a w) {r:Bool}(h:gd ops o T=some r):CY o ops a=r:=by
 unfold gd at h
 unfold CY Region.wanted
 cases hg:o.guard with
 |none=>rw[hg] at h;simpa using h
 |some gb=>
  obtain⟨g,b⟩:=gb
  rw[hg] at h
  dsimp only at h⊢
  unfold yielded
  cases ht:(ops[g]?).bind (·.dst) with
  |none=>rw[ht] at h;simpa using h
  |some t=>
   rw[ht] at h
   dsimp only at h
   have hl:iZ ops o t:=List.mem_append_right _ (by rw[hg];simp[ht])
   cases hT:T t with
   |none=>rw[hT] at h;cases h
   |some dv=>
    rw[hT] at h
    obtain⟨v,e,hr⟩:=hs.tmp t dv hl hT
    simp only[Option.bind_some,e]
    match dv,h,hr with
    | .v (.c (.b c)),h,hr=>
      cases hr
      have h2:=Option.some.inj h
      rw[←h2]
      rfl
    | .u,h,hr=>
      subst hr
      have h2:=Option.some.inj h
      rw[←h2]
      rfl
theorem RdC.int_eq {k:IntKind}(h:RdC V w v (.i k m)):v=.int k m:=by cases h;rfl
theorem RdC.bool_eq (h:RdC V w v (.b b)):v=.bool b:=by cases h;rfl
theorem RdC.func_eq {g:FuncId}(h:RdC V w v (.f g)):v=.func (.func g) #[] #[]:=by cases h;rfl
theorem bQ {x:DV}(hg:gd ops o T=some true) (hp: ∀k,kg x=some k→ ∃t y,iZ ops o t∧T t=some y∧kg y=some k)
 (h: ∀V β a w,Sees V (iZ ops o) T B β a w→ ∃v,(execOp a.eval o).run P w=.ok (.value v) w∧RdX V w β v x):Sem P ops o T B (.r x):=
 ⟨hp,fun V β a w hs=>⟨fa hs hg,by
  obtain⟨v,e,hr⟩:=h V β a w hs
  unfold Gives
  rw[e]
  exact⟨hr,fu _ _⟩⟩⟩
theorem pk (hg:gd ops o T=some false):Sem P ops o T B .skip:=fun _ _ _ _ hs=>fa hs hg
theorem qi {x:DV}(h:kg x=none): ∀k,kg x=some k→ ∃t y,iZ ops o t∧T t=some y∧kg y=some k:=by grind
theorem zV (h:qf P U=some (b,n)) (w:World):(isAgg U).run P w=.ok b w∧(sizeOf U).run P w=.ok n w:=by
 unfold qf at h
 cases hu:P.underlying U with
 |none=>rw[hu] at h;cases h
 |some d=>
  cases hi:P.info? U with
  |none=>rw[hu,hi] at h;cases h
  |some i=>
   rw[hu,hi] at h
   injection h with h
   injection h with h1 h2
   constructor
   ·unfold isAgg
    simp only[fI,run_underlying hu,fM]
    rw[←h1]
    cases d<;>rfl
   ·unfold sizeOf typeInfo
    simp[program,Sem.run,hi,←h2]
theorem lQ (b o k:Nat):(⟨b,o,none⟩:Addr).add k=⟨b,o+k,none⟩:=by unfold Addr.add;split<;>simp_all
theorem mg (h:qf P U=some (true,n)) {b:Nat}{vs:List Value}(hl:vs.length=n) (hc: ∀(j:Nat) (v:Value),vs[j]? =some v→w.cell? ⟨b,off+j,none⟩=some v):
 (loadVar U ⟨b,off,none⟩).run P w=.ok (.agg vs.toArray) w:=by
 obtain⟨h1,h2⟩:=zV h w
 have h3:=run_loadCells_list (P:=P) w ⟨b,off,none⟩ vs (fun j v hv=>by rw[lQ];exact hc j v hv)
 unfold loadVar
 simp only[fI,h1,fM,if_true,h2]
 rw[←hl,h3]
 rfl
theorem lZ (h:qf P U=some (false,n)) {b:Nat}(hc:w.cell? ⟨b,off,none⟩=some v):
 (loadVar U ⟨b,off,none⟩).run P w=.ok v w:=by
 obtain⟨h1,_⟩:=zV h w
 unfold loadVar
 simp only[fI,h1,fM]
 simp[hc]
theorem dk {b:Nat}(h:w.heap[b]? =some (.cells vs U (0,0))) (j:Nat):w.cell? ⟨b,j,none⟩=vs[j]? :=cell_of_row w b j vs U (0,0) h
theorem GR 
 (hx:dc T x=some dv) (hg:gd ops ⟨dst,.move x,ty,pos,af,g⟩ T=some true):Sem P ops ⟨dst,.move x,ty,pos,af,g⟩ T B (.r dv):=
 bQ hg (fun k e=>qR (ops:=ops) (o:=⟨dst,.move x,ty,pos,af,g⟩) (by simp[Op.operands]) hx e)
  (fun V β a w hs=>⟨a.eval x,rfl,aK hs (by simp[Op.operands]) hx⟩)
theorem JX 
 (hx:dc T x=some dv) (hg:gd ops ⟨dst,.assign x,ty,pos,af,g⟩ T=some true):Sem P ops ⟨dst,.assign x,ty,pos,af,g⟩ T B (.r dv):=
 bQ hg (fun k e=>qR (ops:=ops) (o:=⟨dst,.assign x,ty,pos,af,g⟩) (by simp[Op.operands]) hx e)
  (fun V β a w hs=>⟨a.eval x,rfl,aK hs (by simp[Op.operands]) hx⟩)
theorem aV 
 (hU:qf P U=some (true,n)) (hx:dc T x=some (.p k off)) (hb:B k=some (W,cs)) (hu:(cs.drop off).take n=us) (hn:us.length=n) (hg:gd ops ⟨dst,.load U x,ty,pos,af,g⟩ T=some true):
 Sem P ops ⟨dst,.load U x,ty,pos,af,g⟩ T B (.r (.v (.a us))):=
 bQ hg (qi rfl) (fun V β a w hs=>by
  have hp:a.eval x=.pointer (some ⟨β k,off,none⟩):=aK hs (by simp[Op.operands]) hx
  obtain⟨_,vs,e,hr⟩:=hs.box k W cs hb
  have hr2:=(hr.drop off).take n
  rw[hu] at hr2
  have hrun:=mg (w:=w) hU (b:=β k) (off:=off) (vs:=(vs.toList.drop off).take n) (by rw[hr2.1,hn]) (fun j v hv=>by
   rw[qA] at hv
   split at hv
   ·rw[dk e,←hv];simp
   ·cases hv)
  refine⟨_,?_,_,rfl,by simpa using hr2⟩
  simp only[execOp,Instr.loadAt,hp,Instr.sureAddr,fI,gG,fM,hrun])
theorem cT 
 (hU:qf P U=some (false,n)) (hx:dc T x=some (.p k off)) (hb:B k=some (W,cs)) (hu:cs[off]? =some u) (hg:gd ops ⟨dst,.load U x,ty,pos,af,g⟩ T=some true):
 Sem P ops ⟨dst,.load U x,ty,pos,af,g⟩ T B (.r (.v (.c u))):=
 bQ hg (qi rfl) (fun V β a w hs=>by
  have hp:a.eval x=.pointer (some ⟨β k,off,none⟩):=aK hs (by simp[Op.operands]) hx
  obtain⟨_,vs,e,hr⟩:=hs.box k W cs hb
  have hlt:off<cs.length:=(jU.1 hu).1
  have hv:vs.toList[off]? =some (vs.toList[off]'(by rw[hr.1];exact hlt)):=j7 _
  have hrun:=lZ (P:=P) (w:=w) hU (b:=β k) (off:=off) (by rw[dk e,←sT,hv])
  refine⟨_,?_,hr.2 off _ _ hv hu⟩
  simp only[execOp,Instr.loadAt,hp,Instr.sureAddr,fI,gG,fM,hrun])
theorem db 
 (hU:qf P U=some (true,n)) (hx:dc T x=some (.q cs)) (hu:cs.take n=us) (hn:us.length=n) (hg:gd ops ⟨dst,.load U x,ty,pos,af,g⟩ T=some true):
 Sem P ops ⟨dst,.load U x,ty,pos,af,g⟩ T B (.r (.v (.a us))):=
 bQ hg (qi rfl) (fun V β a w hs=>by
  obtain⟨b,off,vs,hp,_,_,hr,hc⟩:=aK hs (by simp[Op.operands]) hx
  have hr2:=hr.take n
  rw[hu] at hr2
  have hrun:=mg (w:=w) hU (b:=b) (off:=off) (vs:=vs.take n) (by rw[hr2.1,hn]) (fun j v hv=>by
   rw[qA] at hv
   split at hv
   ·exact hc j v hv
   ·cases hv)
  refine⟨_,?_,_,rfl,by simpa using hr2⟩
  simp only[execOp,Instr.loadAt,hp,Instr.sureAddr,fI,gG,fM,hrun])
theorem dd 
 (hU:qf P U=some (false,n)) (hx:dc T x=some (.q cs)) (hu:cs[0]? =some u) (hg:gd ops ⟨dst,.load U x,ty,pos,af,g⟩ T=some true):
 Sem P ops ⟨dst,.load U x,ty,pos,af,g⟩ T B (.r (.v (.c u))):=
 bQ hg (qi rfl) (fun V β a w hs=>by
  obtain⟨b,off,vs,hp,_,_,hr,hc⟩:=aK hs (by simp[Op.operands]) hx
  have hlt:0<cs.length:=(jU.1 hu).1
  have hv:vs[0]? =some (vs[0]'(by rw[hr.1];exact hlt)):=j7 _
  have hrun:=lZ (P:=P) (w:=w) hU (b:=b) (off:=off) (by have:=hc 0 _ hv;simpa using this)
  refine⟨_,?_,hr.2 0 _ _ hv hu⟩
  simp only[execOp,Instr.loadAt,hp,Instr.sureAddr,fI,gG,fM,hrun])
theorem FY {f:Nat}(h:Sk P U f=some o'): ∃fs fd,P.underlying U=some (.struct fs)∧fs[f]? =some fd∧fd.offset=o'∧ ∀(a:Addr) (w:World),(fieldPlace a fd).run P w=.ok (a.add o') w:=by
 unfold Sk at h
 cases hu:P.underlying U with
 |none=>rw[hu] at h;cases h
 |some d=>
  rw[hu] at h
  cases d with
  |struct fs=>
   dsimp only at h
   cases hf:fs[f]? with
   |none=>rw[hf] at h;cases h
   |some fd=>
    rw[hf] at h
    dsimp only at h
    cases hi:P.info? fd.type with
    |none=>rw[hi] at h;cases h
    |some i=>
     rw[hi] at h
     dsimp only at h
     split at h
     ·cases h
     ·rename_i hz
      injection h with h
      have hz2:i.size≠0:=fun e=>hz (by rw[e];rfl)
      refine⟨fs,fd,rfl,hf,h,fun a w=>?_⟩
      unfold fieldPlace sizeOf typeInfo
      simp[program,Sem.run,hi,hz2,h]
  |_=>cases h
theorem Ml {f:Nat}
 (hU:Sk P U f=some o') (hx:dc T x=some (.p k off)) (hg:gd ops ⟨dst,.fieldAddr U x f,ty,pos,af,g⟩ T=some true):
 Sem P ops ⟨dst,.fieldAddr U x f,ty,pos,af,g⟩ T B (.r (.p k (off+o'))):=
 bQ hg (fun k' e=>qR (ops:=ops) (o:=⟨dst,.fieldAddr U x f,ty,pos,af,g⟩) (by simp[Op.operands]) hx e)
  (fun V β a w hs=>by
   have hp:a.eval x=.pointer (some ⟨β k,off,none⟩):=aK hs (by simp[Op.operands]) hx
   obtain⟨fs,fd,h1,h2,h3,h4⟩:=FY hU
   refine⟨.pointer (some ⟨β k,off+o',none⟩),?_,rfl⟩
   simp only[execOp,Instr.fieldAt,hp,Instr.sureAddr,fI,gG,fM,run_underlying h1,h2,h4,lQ])
theorem BA {f:Nat}
 (hU:Sk P U f=some o') (hx:dc T x=some (.q cs)) (hu:cs.drop o'=us) (hg:gd ops ⟨dst,.fieldAddr U x f,ty,pos,af,g⟩ T=some true):
 Sem P ops ⟨dst,.fieldAddr U x f,ty,pos,af,g⟩ T B (.r (.q us)):=
 bQ hg (qi rfl) (fun V β a w hs=>by
  obtain⟨b,off,vs,hp,hb,hv,hr,hc⟩:=aK hs (by simp[Op.operands]) hx
  obtain⟨fs,fd,h1,h2,h3,h4⟩:=FY hU
  refine⟨.pointer (some ⟨b,off+o',none⟩),?_,b,off+o',vs.drop o',rfl,hb,hv,by rw[←hu];exact hr.drop o',fun j u hj=>?_⟩
  ·simp only[execOp,Instr.fieldAt,hp,Instr.sureAddr,fI,gG,fM,run_underlying h1,h2,h4,lQ]
  ·rw[List.getElem?_drop] at hj
   rw[Nat.add_assoc];exact hc (o'+j) u hj)
theorem GS 
 (hx:dc T x=some (.t ds)) (hd:ds[i]? =some d) (hg:gd ops ⟨dst,.extract x i,ty,pos,af,g⟩ T=some true):
 Sem P ops ⟨dst,.extract x i,ty,pos,af,g⟩ T B (.r (.v d)):=
 bQ hg (qi rfl) (fun V β a w hs=>by
  obtain⟨vs,hp,hr⟩:=aK hs (by simp[Op.operands]) hx
  have hlt:i<ds.length:=(jU.1 hd).1
  have hv:vs.toList[i]? =some (vs.toList[i]'(by rw[hr.1];exact hlt)):=j7 _
  refine⟨_,?_,hr.2 i _ d hv hd⟩
  rw[sT] at hv
  simp only[execOp,hp,Instr.extract,hv,fI,gG,fM])
def Tn:BinOp→Int→Int→Option Bool
 | .eql,x,y=>some (x==y)
 | .neq,x,y=>some (x !=y)
 | .lss,x,y=>some (decide (x<y))
 | .leq,x,y=>some (decide (x≤y))
 | .gtr,x,y=>some (decide (x>y))
 | .geq,x,y=>some (decide (x≥y))
 |_,_,_=>none
theorem Lb {k:IntKind}{n:Int}
 (hx:dc T x=some (.v (.c (.i k m)))) (hy:dc T y=some (.v (.c (.i k n)))) (hb:Tn op m n=some b) (hg:gd ops ⟨dst,.binOp op xt x y yt,ty,pos,af,g⟩ T=some true):
 Sem P ops ⟨dst,.binOp op xt x y yt,ty,pos,af,g⟩ T B (.r (.v (.c (.b b)))):=
 bQ hg (qi rfl) (fun V β a w hs=>by
  have h1:=aK hs (x:=x) (by simp[Op.operands]) hx
  have h2:=aK hs (x:=y) (by simp[Op.operands]) hy
  have e1:a.eval x=.int k m:=RdC.int_eq h1
  have e2:a.eval y=.int k n:=RdC.int_eq h2
  refine⟨.bool b,?_,.b b⟩
  cases op<;>simp[Tn] at hb<;>subst hb<;>simp[execOp,e1,e2,eqGuard,binOp,Op.intCmp])
def BV:BinOp→IntKind→Int→Int→Option Int
 | .add,k,x,y=>some (k.wrap (x+y))
 | .sub,k,x,y=>some (k.wrap (x-y))
 | .mul,k,x,y=>some (k.wrap (x*y))
 |_,_,_,_=>none
theorem gI {k:IntKind}{n r:Int}
 (hx:dc T x=some (.v (.c (.i k m)))) (hy:dc T y=some (.v (.c (.i k n)))) (hb:BV op k m n=some r) (hg:gd ops ⟨dst,.binOp op xt x y yt,ty,pos,af,g⟩ T=some true):
 Sem P ops ⟨dst,.binOp op xt x y yt,ty,pos,af,g⟩ T B (.r (.v (.c (.i k r)))):=
 bQ hg (qi rfl) (fun V β a w hs=>by
  have h1:=aK hs (x:=x) (by simp[Op.operands]) hx
  have h2:=aK hs (x:=y) (by simp[Op.operands]) hy
  have e1:a.eval x=.int k m:=RdC.int_eq h1
  have e2:a.eval y=.int k n:=RdC.int_eq h2
  refine⟨.int k r,?_,.i k r⟩
  cases op<;>simp[BV] at hb<;>subst hb<;>simp[execOp,e1,e2,eqGuard,binOp,Op.intArith])
theorem SC 
 (hx:dc T x=some (.v (.c (.b b)))) (hg:gd ops ⟨dst,.unOp .not xt x,ty,pos,af,g⟩ T=some true):
 Sem P ops ⟨dst,.unOp .not xt x,ty,pos,af,g⟩ T B (.r (.v (.c (.b (!b))))):=
 bQ hg (qi rfl) (fun V β a w hs=>by
  have h1:=aK hs (x:=x) (by simp[Op.operands]) hx
  have e1:a.eval x=.bool b:=RdC.bool_eq h1
  exact⟨.bool (!b),by simp[execOp,e1,Op.unary],.b _⟩)
theorem S0 {k:IntKind}
 (hx:dc T x=some (.v (.c (.i k m)))) (hg:gd ops ⟨dst,.unOp .neg xt x,ty,pos,af,g⟩ T=some true):
 Sem P ops ⟨dst,.unOp .neg xt x,ty,pos,af,g⟩ T B (.r (.v (.c (.i k (k.wrap (0-m)))))):=
 bQ hg (qi rfl) (fun V β a w hs=>by
  have h1:=aK hs (x:=x) (by simp[Op.operands]) hx
  have e1:a.eval x=.int k m:=RdC.int_eq h1
  exact⟨.int k (k.wrap (0-m)),by simp[execOp,e1,Op.unary,Op.intArith],.i _ _⟩)
theorem H0 {c:Operand}
 (hc:dc T c=some (.v (.c (.b b)))) (hx:dc T (if b then x else y)=some dv) (hp:kg dv=none) (hg:gd ops ⟨dst,.pick c x y,ty,pos,af,g⟩ T=some true):
 Sem P ops ⟨dst,.pick c x y,ty,pos,af,g⟩ T B (.r dv):=
 bQ hg (qi hp) (fun V β a w hs=>by
  have h1:=aK hs (x:=c) (by simp[Op.operands]) hc
  have e1:a.eval c=.bool b:=RdC.bool_eq h1
  have h2:=aK hs (x:=if b then x else y) (by cases b<;>simp[Op.operands]) hx
  refine⟨_,?_,h2⟩
  cases b<;>simp[execOp,e1,asBool])
end
def DV.d0:DV→Option D0
 | .v d=>some d
 |_=>none
def pJ (T:TF):List Operand→Option (List D0)
 |[]=>some []
 |x::xs=>match dc T x with
  |some (.v d)=>match pJ T xs with
   |some ds=>some (d::ds)
   |none=>none
  |_=>none
def wR:List D0→DV
 |[d]=>.v d
 |ds=>.t ds
def wE (pl:Nat→Option (Nat×Nat)):List CellD→List (Nat×D0)→Option (List CellD)
 |us,[]=>some us
 |us,(i,d)::rest=>match pl i with
  |none=>none
  |some (off,size)=>if Nat.beq d.cells.length size&&Nat.ble (off+size) us.length then wE pl (us.take off++d.cells++us.drop (off+size)) rest else none
def vC (T:TF):List (Nat×Operand)→Option (List (Nat×D0))
 |[]=>some []
 |(i,x)::xs=>match dc T x with
  |some (.v d)=>match vC T xs with
   |some ds=>some ((i,d)::ds)
   |none=>none
  |_=>none
def wF (P:Program) (U:TypeId):Option Nat:=
 match P.underlying U with
 |some (.slice e)=>(P.info? e).map (·.size)
 |_=>none
section
variable {P:Program}{ops:Array Oper}{o:Oper}{T:TF}{B:BF}{V:Nat→Prop}{β:Nat→Nat}{a:Act}{w:World}
theorem js (hs:Sees V (iZ ops o) T B β a w): ∀(xs:List Operand) (ds:List D0),(∀x∈xs,x∈o.op.operands)→pJ T xs=some ds→RdL V w (xs.map a.eval) ds
 |[],ds,_,h=>by injection h with h;subst h;exact RdL.nil
 |x::xs,ds,hx,h=>by
  unfold pJ at h
  split at h
  ·rename_i d hd
   split at h
   ·rename_i ds' hds
    injection h with h
    subst h
    exact tY (aK hs (hx x (by simp)) hd) (js hs xs ds' (fun y hy=>hx y (by simp[hy])) hds)
   ·cases h
  ·cases h
theorem Q9 {args:Array Operand}{at_:Array TypeId}{rs:List D0}
 (hf:dc T fo=some (.v (.c (.f f)))) (ha:pJ T args.toList=some ds) (hok:Ok P f ds rs) (hg:gd ops ⟨dst,.call ⟨.value fo,args,at_⟩,ty,pos,af,g⟩ T=some true):
 Sem P ops ⟨dst,.call ⟨.value fo,args,at_⟩,ty,pos,af,g⟩ T B (.r (wR rs)):=by
 refine⟨qi (by unfold wR;split<;>rfl),fun V β a w hs=>⟨fa hs hg,?_⟩⟩
 have h1:=RdC.func_eq (aK hs (x:=fo) (by simp[Op.operands,Call.operands]) hf)
 have h2:=js hs args.toList ds (fun x hx=>by have hx2:=Array.mem_toList_iff.1 hx;simp[Op.operands,Call.operands,hx2]) ha
 have hc:=hok.cal
 unfold fU at hc
 cases hfn:P.funcs[f]? with
 |none=>rw[hfn] at hc;cases hc
 |some fn=>
  rw[hfn] at hc
  simp only[dT,bne_iff_ne,ne_eq,sJ] at hc
  have hrun:(execOp a.eval ⟨dst,.call ⟨.value fo,args,at_⟩,ty,pos,af,g⟩).run P w=.ok (.enter f (args.map a.eval)) w:=by
   have hb2:fn.body≠none:=by have:=hc.2;cases hbb:fn.body with
    |none=>rw[hbb] at this;cases this
    |some c=>simp
   simp[execOp,resolve,h1,Deferred.ofValue,invoke,callFunc,program,Sem.run,hfn,hc.1,hb2]
  unfold Gives
  rw[hrun]
  refine(hok.run V (args.map a.eval) w hs.av (by simpa using h2)).mono ?_
  rintro e w' ⟨v,rfl,hr,hb⟩
  refine⟨v,rfl,?_,hb⟩
  unfold VX at hr
  split at hr
  ·exact hr
  ·rename_i hne
   have e2:wR rs=.t rs:=by
    unfold wR
    grind
   rw[e2];exact hr
theorem SV {m:Nat}{xs:List CellD}
 (hU:wF P U=some m) (hx:dc T x=some (.v (.c (.s n xs)))) (hg:gd ops ⟨dst,.call ⟨.builtin .len,#[x],#[U]⟩,ty,pos,af,g⟩ T=some true):
 Sem P ops ⟨dst,.call ⟨.builtin .len,#[x],#[U]⟩,ty,pos,af,g⟩ T B (.r (.v (.c (.i .i64 n)))):=
 bQ hg (qi rfl) (fun V β a w hs=>by
  have h1:=aK hs (x:=x) (by simp[Op.operands,Call.operands]) hx
  have h2: ∃A c,a.eval x=.slice A n c:=by
   generalize a.eval x=v at h1
   cases h1 with
   |s0 A c _=>exact⟨A,c,rfl⟩
   |s b off c _ _ _ _=>exact⟨_,c,rfl⟩
  obtain⟨A,c,e⟩:=h2
  unfold wF at hU
  split at hU
  ·rename_i el hu
   refine⟨.int .i64 n,?_,.i _ _⟩
   simp[execOp,resolve,invoke,builtin,Builtin.len_,e,run_underlying hu,goInt]
  ·cases hU)
theorem ME {m q q':Nat}(h:(List.range m)[q]? =some q'):q<m∧q'=q:=by grind
theorem bJ {i:Operand}{m:Nat}{xs:List CellD}{k:IntKind}
 (hU:wF P U=some m) (hx:dc T x=some (.v (.c (.s n xs)))) (hi:dc T i=some (.v (.c (.i k j)))) (hj:0≤j∧j<n) (hl:xs.length=n*m) (hu:xs.drop (j.toNat*m)=us) (hg:gd ops ⟨dst,.indexAddr U x i,ty,pos,af,g⟩ T=some true):
 Sem P ops ⟨dst,.indexAddr U x i,ty,pos,af,g⟩ T B (.r (.q us)):=
 bQ hg (qi rfl) (fun V β a w hs=>by
  have h1:=aK hs (x:=x) (by simp[Op.operands]) hx
  have h2:=RdC.int_eq (aK hs (x:=i) (by simp[Op.operands]) hi)
  generalize hv:a.eval x=v at h1
  have h1:RdC V w v (.s n xs):=h1
  unfold wF at hU
  split at hU
  case h_2=>cases hU
  rename_i el hul
  cases hinf:P.info? el with
  |none=>rw[hinf] at hU;cases hU
  |some inf=>
   rw[hinf] at hU
   simp at hU
   cases h1 with
   |s0 A c _=>omega
   |s b off c sz _ _ cv h0 hnc hcm hlen hb hav hc hr=>
    have hsz:sz=m:=by
     rw[hl] at hlen
     exact(Fk h0 hlen).symm
    subst hsz
    refine⟨.pointer (some ⟨b,off+j.toNat*sz,none⟩),?_,b,off+j.toNat*sz,(List.range (n*sz-j.toNat*sz)).map (fun q=>cv (j.toNat*sz+q)),rfl,hb,hav,?_,?_⟩
    ·have hso: ∀w,(sizeOf el).run P w=.ok sz w:=fun w=>by unfold sizeOf typeInfo;simp[program,Sem.run,hinf,hU]
     simp[execOp,Instr.indexAt,hv,h2,asIntOf,run_underlying hul,hj.1,hj.2,hso,lQ]
    ·rw[←hu]
     refine⟨by simp[hl],fun q v u hv hu=>?_⟩
     grind
    ·intro q u hq
     rw[ug] at hq
     generalize hq2:(List.range (n*sz-j.toNat*sz))[q]? =r at hq
     match r,hq2,hq with
     |some q',hq2,hq=>
      simp at hq
      obtain⟨hlt,rfl⟩:=ME hq2
      subst hq
      rw[Nat.add_assoc]
      exact hc _ (by omega))
theorem BS (off:Nat): ∀(l:List Value) (k:Nat) (cells:Array Value),off+k+l.length≤cells.size→
 ((l.zipIdx k).foldl (fun(cs:Array Value) (p:Value×Nat)=>cs.setIfInBounds (off+p.2) p.1) cells).toList=cells.toList.take (off+k)++l++cells.toList.drop (off+k+l.length)
 |[],k,cells,_=>by simp
 |v::l,k,cells,h=>by
  simp at h
  rw[List.zipIdx_cons,uU,BS off l (k+1) _ (by simp;omega)]
  simp only[Array.toList_setIfInBounds]
  have e1:(cells.toList.set (off+k) v).take (off+(k+1))=cells.toList.take (off+k)++[v]:=by
   apply List.ext_getElem?
   grind
  have e2:(cells.toList.set (off+k) v).drop (off+(k+1)+l.length)=cells.toList.drop (off+k+(v::l).length):=by
   rw[List.drop_set_of_lt (by omega)]
   grind
  rw[e1,e2];simp
theorem xg {pl:Nat→Option (Nat×Nat)}: ∀(ps:List (Nat×Value)) (dps:List (Nat×D0)) (cells:Array Value) (us us':List CellD),ps.length=dps.length→
 (∀(j:Nat) (p:Nat×Value) (q:Nat×D0),ps[j]? =some p→dps[j]? =some q→p.1=q.1∧RdV V w p.2 q.2)→RdCs V w cells.toList us→wE pl us dps=some us'→ ∃cells',Instr.fill pl cells ps=some cells'∧RdCs V w cells'.toList us'
 |[],[],cells,us,us',_,_,hr,h=>by
  simp[wE] at h;subst h;exact⟨cells,rfl,hr⟩
 |[],q::dps,_,_,_,hl,_,_,_=>by simp at hl
 |p::ps,[],_,_,_,hl,_,_,_=>by simp at hl
 |(i,v)::ps,(i',d)::dps,cells,us,us',hl,hp,hr,h=>by
  obtain⟨e,hv⟩:=hp 0 (i,v) (i',d) rfl rfl
  have e:i=i':=e
  subst e
  unfold wE at h
  cases hpl:pl i with
  |none=>rw[hpl] at h;cases h
  |some os=>
   obtain⟨off,size⟩:=os
   rw[hpl] at h
   dsimp only at h
   split at h
   ·rename_i hc
    simp only[dT] at hc
    have h1:=jr hc.1
    have h2:=dV hc.2
    have hvc:=RdV.cells hv
    have hsz:v.cells.size=size:=by rw[←h1,←hvc.1];simp
    have husz:us.length=cells.size:=by rw[←hr.1];simp
    have hfr:=BS off v.cells.toList 0 cells (by simp;omega)
    have hrd:RdCs V w ((v.cells.zipIdx.foldl (fun(cs:Array Value) (p:Value×Nat)=>cs.setIfInBounds (off+p.2) p.1) cells)).toList (us.take off++d.cells++us.drop (off+size)):=by
     rw[←Array.foldl_toList]
     have:v.cells.zipIdx.toList=v.cells.toList.zipIdx:=by simp
     rw[this,hfr]
     refine lP (lP (by simpa using hr.take off) hvc) ?_
     have:=hr.drop (off+size)
     grind
    obtain⟨cells',e',hr'⟩:=xg ps dps _ _ us' (by simpa using hl) (fun j p q hp' hq'=>hp (j+1) p q (by simpa using hp') (by simpa using hq')) hrd h
    refine⟨cells',?_,hr'⟩
    unfold Instr.fill
    rw[hpl]
    dsimp only
    rw[if_neg (by simp[hsz];omega)]
    exact e'
   ·cases h
theorem yW (h:CW P U=some zs): ∃it z,P.info? U=some it∧it.zero=some z∧RdCs V w z.cells.toList zs:=by
 unfold CW at h
 cases hi:P.info? U with
 |none=>rw[hi] at h;cases h
 |some it=>
  rw[hi] at h
  dsimp only at h
  cases hz:it.zero with
  |none=>rw[hz] at h;cases h
  |some z=>
   rw[hz] at h
   dsimp only at h
   cases hc:XW z with
   |none=>rw[hc] at h;cases h
   |some d=>
    rw[hc] at h
    simp at h
    subst h
    exact⟨it,z,rfl,hz,RdV.cells (Dg hc)⟩
theorem sy (hs:Sees V (iZ ops o) T B β a w): ∀(ps:List (Nat×Operand)) (dps:List (Nat×D0)),(∀p∈ps,p.2∈o.op.operands)→vC T ps=some dps→
 (ps.map fun(i,x)=>(i,a.eval x)).length=dps.length∧ ∀(j:Nat) (p:Nat×Value) (q:Nat×D0),(ps.map fun(i,x)=>(i,a.eval x))[j]? =some p→dps[j]? =some q→p.1=q.1∧RdV V w p.2 q.2
 |[],dps,_,h=>by injection h with h;subst h;exact⟨rfl,fun j p q hp=>by simp at hp⟩
 |(i,x)::ps,dps,hx,h=>by
  unfold vC at h
  split at h
  ·rename_i d hd
   split at h
   ·rename_i ds hds
    injection h with h
    subst h
    obtain⟨h1,h2⟩:=sy hs ps ds (fun p hp=>hx p (by simp[hp])) hds
    refine⟨by simpa using h1,fun j p q hp hq=>?_⟩
    cases j with
    |zero=>
     simp at hp hq
     subst hp hq
     exact⟨rfl,aK hs (hx (i,x) (by simp)) hd⟩
    |succ j=>exact h2 j p q (by simpa using hp) (by simpa using hq)
   ·cases h
  ·cases h
theorem aC {ps:Array (Nat×Operand)}{pl:List (Nat×Nat)}{dps:List (Nat×D0)}
 (hU:Jn P U=some pl) (hz:CW P U=some zs) (hp:vC T ps.toList=some dps) (hf:wE (fun i=>pl[i]?) zs dps=some us) (hg:gd ops ⟨dst,.build U ps,ty,pos,af,g⟩ T=some true):
 Sem P ops ⟨dst,.build U ps,ty,pos,af,g⟩ T B (.r (.v (.a us))):=
 bQ hg (qi rfl) (fun V β a w hs=>by
  obtain⟨it,z,hi,hz,hr⟩:=yW (V:=V) (w:=w) hz
  obtain⟨h1,h2⟩:=sy hs ps.toList dps (fun p hp=>by simp only[Op.operands,List.mem_toArray,vf];exact⟨p,hp,rfl⟩) hp
  obtain⟨cells,hfl,hrd⟩:=xg _ dps z.cells zs us h1 h2 hr hf
  refine⟨.agg cells,?_,cells,rfl,hrd⟩
  unfold Jn at hU
  split at hU
  ·rename_i fs hu
   have:=run_build (P:=P) w U (ps.map fun(i,x)=>(i,a.eval x)) cells (by
    unfold Program.built
    simp only[hi,hu,hz,hU]
    simpa using hfl)
   simp[execOp,this]
  ·cases hU)
theorem kW 
 (hz:CW P U=some zs) (hg:gd ops ⟨dst,.alloc U,ty,pos,af,g⟩ T=some true):Sem P ops ⟨dst,.alloc U,ty,pos,af,g⟩ T B (.a U zs none):=fun V β a w hs=>⟨fa hs hg,by
 obtain⟨it,z,hi,hz,hr⟩:=yW (V:=V) (w:=w) hz
 have hrun:(execOp a.eval ⟨dst,.alloc U,ty,pos,af,g⟩).run P w=.ok (.value (.pointer (some ⟨w.heap.size,0,none⟩))) (w.alloc (.cells z.cells U)):=by
  simp[execOp,Instr.alloc,zeroValue,typeInfo,program,Sem.run,hi,hz,newVar,newRow,newObj]
  try rfl
 unfold Gives
 rw[hrun]
 exact⟨z.cells,rfl,rfl,hr⟩⟩
theorem KC 
 (hx:dc T x=some (.v d)) (hg:gd ops ⟨dst,.box U x,ty,pos,af,g⟩ T=some true):Sem P ops ⟨dst,.box U x,ty,pos,af,g⟩ T B (.a U d.cells none):=fun V β a w hs=>⟨fa hs hg,by
 have h1:RdV V w (a.eval x) d:=aK hs (x:=x) (by simp[Op.operands]) hx
 have hrun:(execOp a.eval ⟨dst,.box U x,ty,pos,af,g⟩).run P w=.ok (.value (.pointer (some ⟨w.heap.size,0,none⟩))) (w.alloc (.cells (a.eval x).cells U)):=by
  simp[execOp,Instr.box,Sem.run,newVar,newRow,newObj]
  try rfl
 exact⟨_,rfl,rfl,RdV.cells h1⟩⟩
theorem oI {w:World}{b:Nat}{cs:Array Value}(h:w.heap[b]? =some (.cells old U (0,0))):(w.setRow b cs).heap=w.heap.setIfInBounds b (.cells cs U (0,0)):=by
 apply Array.ext (by simp[World.setRow])
 intro i h1 h2
 simp only[World.setRow,Array.getElem_modify]
 by_cases e:b=i
 ·grind
 grind
theorem bm 
 (hU:qf P U=some (q,n)) (ha:dc T ax=some (.p k off)) (hx:dc T x=some (.v d)) (hb:B k=some (W,cs)) (hn:d.cells.length=n) (ho:off+n≤cs.length) (hu:cs.take off++d.cells++cs.drop (off+n)=us)
 (hg:gd ops ⟨none,.store U ax x,ty,pos,af,g⟩ T=some true):Sem P ops ⟨none,.store U ax x,ty,pos,af,g⟩ T B (.s k W us):=by
 refine⟨rfl,⟨cs,hb⟩,fun V β a w hs=>⟨fa hs hg,?_⟩⟩
 have hp:a.eval ax=.pointer (some ⟨β k,off,none⟩):=aK hs (by simp[Op.operands]) ha
 have h1:RdV V w (a.eval x) d:=aK hs (x:=x) (by simp[Op.operands]) hx
 have hc:=RdV.cells h1
 obtain⟨_,vs,e,hr⟩:=hs.box k W cs hb
 obtain⟨_,hsz⟩:=zV hU w
 have hl:(a.eval x).cells.size=n:=by rw[←hn,←hc.1];simp
 have hone: ∀v∈(a.eval x).cells.toList,v.oneCell'=true:=by
  intro v hv
  obtain⟨j,hj⟩:=List.getElem?_of_mem hv
  have hlt:j<d.cells.length:=by grind
  have:=hc.2 j v _ hj (j7 hlt)
  generalize d.cells[j]=u at this
  cases this<;>rfl
 have hvl:vs.size=cs.length:=by rw[←hr.1];simp
 have hst:=run_storeCells_at (P:=P) (β k) off W (a.eval x).cells.toList 0 vs w e (by simp;omega) hone
 have hrun:(execOp a.eval ⟨none,.store U ax x,ty,pos,af,g⟩).run P w=.ok .skip (w.setRow (β k) (vs.toList.take (off+0)++(a.eval x).cells.toList++vs.toList.drop (off+0+(a.eval x).cells.toList.length)).toArray):=by
  simp only[execOp,Instr.storeAt,hp,Instr.sureAddr,storeVar,fI,gG,fM,hsz]
  rw[if_neg (by simp[hl])]
  rw[hst]
  rfl
 unfold Gives
 rw[hrun]
 refine⟨_,oI e,rfl,rfl,rfl,?_⟩
 rw[←hu]
 have e2:(a.eval x).cells.toList.length=n:=by grind
 rw[e2]
 exact lP (lP (hr.take off) hc) (hr.drop (off+n))
end
def Dw (P:Program) (c:Code) (σ:St) (Q:Exit→St→Prop):Prop:= ∀av w0 β a w,Rel av w0 σ.n σ.T σ.B β a w→
 c.wp P (fun e a' w'=> ∃σ' β',σ'.n=σ.n∧Q e σ'∧Rel av w0 σ'.n σ'.T σ'.B β' a' w') a w
def onN (K:St→Prop):Exit→St→Prop
 | .normal,σ=>K σ
 |_,_=>False
def D3 (K:St→Prop) (Q:Exit→St→Prop):Exit→St→Prop
 | .normal,σ=>K σ
 |e,σ=>Q e σ
def Pz (id:Nat) (Q:Exit→St→Prop):Exit→St→Prop
 | .exit id',σ=>bif Nat.beq id' id then Q .normal σ else Q (.exit id') σ
 |e,σ=>Q e σ
section
variable {P:Program}{σ:St}{Q Q':Exit→St→Prop}
theorem Dw.mono (h:Dw P c σ Q) (hq: ∀e σ',Q e σ'→Q' e σ'):Dw P c σ Q':=fun av w0 β a w hr=>
 tw (fun _ _ _ ⟨σ',β',h1,h2,h3⟩=>⟨σ',β',h1,hq _ _ h2,h3⟩) (h av w0 β a w hr)
theorem aJ (h:Q .normal σ):Dw P .skip σ Q:=fun _ _ β _ _ hr=>wp_skip ⟨σ,β,rfl,h,hr⟩
theorem bb (h:Q .ret σ):Dw P .ret σ Q:=fun _ _ β _ _ hr=>wp_ret ⟨σ,β,rfl,h,hr⟩
theorem bG (h:Q (.exit id) σ):Dw P (.exit id) σ Q:=fun _ _ β _ _ hr=>wp_exit ⟨σ,β,rfl,h,hr⟩
theorem aa {x y:Code}(h:Dw P x σ (D3 (fun σ'=>Dw P y σ' Q) Q)):Dw P (.seq x y) σ Q:=fun av w0 β a w hr=>by
 refine wp_seq (tw ?_ (h av w0 β a w hr))
 rintro e a' w' ⟨σ',β',h1,h2,h3⟩
 cases e with
 |normal=>exact tw (fun _ _ _ ⟨σ'',β'',g1,g2,g3⟩=>⟨σ'',β'',g1.trans h1,g2,g3⟩) (h2 av w0 β' a' w' h3)
 |_=>exact⟨σ',β',h1,h2,h3⟩
theorem aX {t:Tmp}{x y:Code}(hb:aM t σ.tm=some (.v (.c (.b b)))) (ht:b=true→Dw P x σ Q) (hf:b=false→Dw P y σ Q):Dw P (.cond (.tmp t) x y) σ Q:=fun av w0 β a w hr=>by
 obtain⟨v,e,hx⟩:=hr.sees.tmp t _ trivial hb
 have hv:=RdC.bool_eq hx
 subst hv
 have he:a.eval (.tmp t)=.bool b:=by
  obtain⟨hlt,e⟩:=rD.1 e
  show a.tmps.getD t undef=_
  simp[Array.getD,hlt,e]
 exact wp_cond_split he (fun h=>ht h av w0 β a w hr) (fun h=>hf h av w0 β a w hr)
theorem aT (h:Dw P c σ (Pz id Q)):Dw P (.block id c) σ Q:=fun av w0 β a w hr=>by
 refine wp_block (tw ?_ (h av w0 β a w hr))
 rintro e a' w' ⟨σ',β',h1,h2,h3⟩
 cases e with
 |exit id'=>
  show(if id'=id then _ else _)
  have h2:(bif Nat.beq id' id then Q .normal σ' else Q (.exit id') σ'):=h2
  cases hb:Nat.beq id' id with
  |true=>rw[hb] at h2;rw[if_pos (jr hb)];exact⟨σ',β',h1,h2,h3⟩
  |false=>rw[hb] at h2;rw[if_neg (fun e=>by subst e;rw[xr] at hb;cases hb)];exact⟨σ',β',h1,h2,h3⟩
 |_=>exact⟨σ',β',h1,h2,h3⟩
structure Sub (σ σ':St):Prop where
 n:σ'.n=σ.n
 tm: ∀t x,aM t σ'.tm=some x→aM t σ.tm=some x
 bx: ∀k c,aM k σ'.bx=some c→aM k σ.bx=some c
 wf: ∀t x k,aM t σ'.tm=some x→kg x=some k→aM k σ'.bx≠none
theorem Rel.sub {a:Act}{σ:St}(h:Rel av w0 σ.n σ.T σ.B β a w) (hs:Sub σ σ'):Rel av w0 σ'.n σ'.T σ'.B β a w:=by
 have hB: ∀k,σ'.B k≠none→σ.B k≠none:=by
  intro k hk
  cases hc:σ'.B k with
  |none=>exact absurd hc hk
  |some c=>rw[show σ.B k=some c from hs.bx k c hc];simp
 have hkeep:Keep (fun b=>av b∨ ∃k,σ.B k≠none∧β k=b) (fun b=>av b∨ ∃k,σ'.B k≠none∧β k=b) w w:=
  ⟨Nat.le_refl _,fun _ _ _=>rfl,fun b _ hb=>hb.imp id fun⟨k,h1,h2⟩=>⟨k,hB k h1,h2⟩⟩
 refine⟨h.dfr,by rw[hs.n];exact h.siz,h.bel,h.avl,h.avE,by rw[hs.n];exact h.big,fun b hb hK=>h.fix b hb (hB _ hK),fun k l hk hl=>h.inj k l (hB k hk) (hB l hl),fun k hk=>h.own k (hB k hk),hs.wf,?_,?_,?_⟩
 ·rintro b (hb|⟨k,hk,hb⟩)
  ·exact h.sees.av b (.inl hb)
  ·exact h.sees.av b (.inr ⟨k,hB k hk,hb⟩)
 ·intro k U cs hk
  obtain⟨_,vs,e,hr⟩:=h.sees.box k U cs (hs.bx k _ hk)
  exact⟨.inr ⟨k,by rw[show σ'.B k=some (U,cs) from hk];simp,rfl⟩,vs,e,hr.keep hkeep⟩
 ·intro t x hl hx
  obtain⟨v,e,hr⟩:=h.sees.tmp t x hl (hs.tm t x hx)
  exact⟨v,e,hr.keep hkeep⟩
theorem Dw.weak (hs:Sub σ σ') (h:Dw P c σ' Q):Dw P c σ Q:=fun av w0 β a w hr=>
 tw (fun _ _ _ ⟨σ'',β',h1,h2,h3⟩=>⟨σ'',β',h1.trans hs.n,h2,h3⟩) (h av w0 β a w (hr.sub hs))
def AV {α:Type}:List (Nat×α)→List (Nat×α)→Prop
 |[],_=>True
 |(t,x)::r,l=>aM t l=some x∧AV r l
def Sg (bx:List (Nat×TypeId×List CellD)):List (Nat×DV)→Bool
 |[]=>true
 |(_,.p k _)::r=>(aM k bx).isSome&&Sg bx r
 |(_,.o k _ _)::r=>(aM k bx).isSome&&Sg bx r
 |(_,.w k _ _ _)::r=>(aM k bx).isSome&&Sg bx r
 |(_,.tn k _ _ _)::r=>(aM k bx).isSome&&Sg bx r
 |_::r=>Sg bx r
theorem s5 {α:Type}: ∀(r l:List (Nat×α)),AV r l→ ∀t x,aM t r=some x→aM t l=some x
 |[],_,_,_,_,h=>by cases h
 |(k,y)::r,l,ha,t,x,h=>by
  rw[bl] at h
  split at h
  ·rename_i e;subst e;rw[←h];exact ha.1
  ·exact s5 r l ha.2 t x h
theorem GW: ∀(r:List (Nat×DV)),Sg bx r=true→ ∀t x k,aM t r=some x→kg x=some k→aM k bx≠none
 |[],_,_,_,_,h,_=>by cases h
 |(t',y)::r,hw,t,x,k,h,hx=>by
  rw[bl] at h
  have hr:Sg bx r=true:=by
   cases y<;>simp[Sg] at hw<;>first|exact hw|exact hw.2
  split at h
  ·injection h with h
   subst h
   intro e
   cases y<;>simp[kg] at hx<;>(subst hx;simp[Sg,e] at hw)
  ·exact GW r hr t x k h hx
theorem aB {tm tm':List (Nat×DV)}(ht:AV tm' tm) (hb:AV bx' bx) (hw:Sg bx' tm'=true):Sub ⟨n,tm,bx⟩ ⟨n,tm',bx'⟩:=
 ⟨rfl,s5 tm' tm ht,s5 bx' bx hb,GW tm' hw⟩
theorem bF {ι:Type}(I:ι→St) (μ:ι→Nat) (i0:ι) (h0:Sub σ (I i0))
 (round: ∀i,Dw P c (I i) (D3 (fun σ'=> ∃j,Sub σ' (I j)∧μ j<μ i) Q)):Dw P (.loop c) σ Q:=fun av w0 β a w hr=>by
 have hr0:=hr.sub h0
 intro b k cs
 have key: ∀n i β a w,μ i=n→Rel av w0 (I i).n (I i).T (I i).B β a w→(I i).n=σ.n→
  ∃e a' w',(∃σ' β',σ'.n=σ.n∧Q e σ'∧Rel av w0 σ'.n σ'.T σ'.B β' a' w')∧Arrives P (lone (b.at a (.code c:: .inLoop c::k)) cs w) b k cs e a' w':=by
  intro n
  induction n using Nat.strongRecOn with
  |_ n ih=>
   intro i β a w hi hrel hni
   obtain⟨e,a₁,w₁,⟨σ',β',g1,g2,g3⟩,harr⟩:=round i av w0 β a w hrel b (.inLoop c::k) cs
   cases e with
   |normal=>
    obtain⟨j,hs,hlt⟩:=g2
    have hrj:=g3.sub hs
    obtain⟨e₂,a₂,w₂,hq₂,harr₂⟩:=ih (μ j) (hi▸hlt) j β' a₁ w₁ rfl hrj (by rw[hs.n,g1,hni])
    exact⟨e₂,a₂,w₂,hq₂,.of_steps (Steps.trans harr (.one step_inLoop)) harr₂⟩
   |exit id=>exact⟨_,a₁,w₁,⟨σ',β',g1.trans hni,g2,g3⟩,.pass (x:=.inLoop c) rfl (fun _ _=>.inl (by simp)) harr⟩
   |goto l=>exact⟨_,a₁,w₁,⟨σ',β',g1.trans hni,g2,g3⟩,.pass (x:=.inLoop c) rfl (fun _ _=>.inl (by simp)) harr⟩
   |ret=>exact⟨_,a₁,w₁,⟨σ',β',g1.trans hni,g2,g3⟩,.pass (x:=.inLoop c) rfl (fun _ _=>.inl (by simp)) harr⟩
   |panic ch=>exact⟨_,a₁,w₁,⟨σ',β',g1.trans hni,g2,g3⟩,.pass (x:=.inLoop c) rfl (fun _ _=>.inl (by simp)) harr⟩
   |outgrown=>exact⟨_,a₁,w₁,⟨σ',β',g1.trans hni,g2,g3⟩,.pass (x:=.inLoop c) rfl (fun _ _=>.inl (by simp)) harr⟩
 obtain⟨e,a',w',hq,harr⟩:=key _ i0 β a w rfl hr0 h0.n
 exact⟨e,a',w',hq,.of_steps (.one step_loop) harr⟩
def Mc (ops:Array Oper) (n:Nat):Bool:=ops.toList.all fun o=>match o.dst with|none=>true|some d=>Nat.blt d n
theorem MV {ops:Array Oper}(h:Mc ops n=true): ∀o∈ops.toList,∀t,o.dst=some t→t<n:=by
 intro o ho t ht
 have:=oN.1 h o ho
 rw[ht] at this
 exact iO.1 this
theorem zw {l:List Oper}(hn:Mc l.toArray σ.n=true) (h:dl P l.toArray l σ (Q .normal)):Dw P (.region id l.toArray false) σ Q:=fun av w0 β a w hr=>
 wp_region_list (wY l.toArray.toList σ β a w (by simpa using MV hn) (by simpa using h) hr (fun σ' β' a' w' h1 h2 h3=>⟨σ',β',h1,h2,h3⟩))
def Sq.merge (s:Sq):St:=⟨s.st.n,s.st.tm,s.nb++s.st.bx⟩
theorem qV {l pre tail:List Oper}(m:Nat) (hs:List Nat) (hm:P.follows .mixedOrders=true) (hc:I2 l.toArray m σ.n=true) (hpre:l.take m=pre) (htail:l.drop m=tail)
 (h:dq P l.toArray hs pre ⟨σ,[],[]⟩ fun s=>dl P l.toArray tail s.merge (Q .normal)):Dw P (.region id l.toArray true) σ Q:=fun av w0 β a w hr=>by
 have hC:=Chk.of hc
 subst hpre htail
 obtain⟨es,hlen,hall,hdis,hmix,s',h1,h2,h3,h4⟩:=Ha _ _ h
 have hml:m≤l.length:=by simpa using hC.le
 refine wp_region_any hm ?_
 refine SP (av:=av) (w0:=w0) (Q:=fun e a' w'=> ∃σ' β',σ'.n=σ.n∧Q e σ'∧Rel av w0 σ'.n σ'.T σ'.B β' a' w') hC (T0:=σ.T) (B0:=σ.B) (M0:=Sq.M ⟨σ,[],[]⟩) (hs:=hs) (sd:=[]) (fun k c hk=>hk) (es:=es) (by rw[hlen,fQ];omega) hdis hmix ?_ ?_ l.toArray.size (Array.replicate l.toArray.size false) β a _ (by simp) (by unfold Me;refine nn List.countP_le_length ?_;simp) ?_ ?_ ?_
 ·intro i o e ho he
  exact hall i o e (by simpa using ho) he
 ·intro β a w fuel hf hr'
  have hr2:Rel av w0 σ.n s'.merge.T s'.merge.B β a w:=by
   refine hr'.congr (fun t=>?_) (fun k=>?_)
   ·show s'.st.T t=_
    rw[h2]
   ·show s'.M k=_
    rw[h3]
  refine yD hC (K:=Q .normal) (fun σ' β a w hn hq hr=>⟨σ',β,hn,hq,by rw[hn];exact hr⟩) (l.drop m) m s'.merge fuel β a w (cK _) (fun j=>by simp) (by simp;omega) h1 h4 hr2 (by simpa using hf)
 ·intro i o j hi
  simp[Array.getD] at hi
 ·intro t _
  simp[Array.getD]
  try (split<;>rfl)
 ·refine hr.drew.congr (fun t=>?_) (fun k=>?_)
  ·refine lu _ _ _ fun j u _ hm=>?_
   simp[Array.getD] at hm
  ·refine(lu _ _ _ fun j u _ hm=>?_).trans ?_
   ·simp[Array.getD] at hm
   ·rfl
def mZ:Nat→List D0→List (Nat×DV)
 |_,[]=>[]
 |k,d::ds=>(k,.v d)::mZ (k+1) ds
def GT (P:Program) (σ:St):ResultVar→Option D0
 | .tmp t=>match aM t σ.tm with
   |some (.v d)=>some d
   |_=>none
 | .cell t U=>match aM t σ.tm with
   |some (.p k off)=>match aM k σ.bx,qf P U with
    |some (_,cs),some (true,n)=>if Nat.beq ((cs.drop off).take n).length n then some (.a ((cs.drop off).take n)) else none
    |some (_,cs),some (false,_)=>(cs[off]?).map .c
    |_,_=>none
   |_=>none
def ra (a:Act):ResultVar→Go.Sem Value
 | .tmp t=>pure (a.tmps.getD t undef)
 | .cell t U=>do loadVar U (←asAddr (a.tmps.getD t undef))
theorem Pv {a:Act}(hr:Rel av w0 σ.n σ.T σ.B β a w) {r:ResultVar}(h:GT P σ r=some d):
 ∃v,(ra a r).run P w=.ok v w∧RdV (fun b=>av b∨ ∃k,σ.B k≠none∧β k=b) w v d:=by
 have hget: ∀ {t x},aM t σ.tm=some x→ ∃v,a.tmps.getD t undef=v∧RdX (fun b=>av b∨ ∃k,σ.B k≠none∧β k=b) w β v x:=by
  intro t x ht
  obtain⟨v,e,hx⟩:=hr.sees.tmp t x trivial ht
  obtain⟨hlt,e⟩:=rD.1 e
  exact⟨v,by simp[Array.getD,hlt,e],hx⟩
 cases r with
 |tmp t=>
  unfold GT at h
  dsimp only at h
  split at h
  ·rename_i d' hd
   injection h with h
   subst h
   obtain⟨v,e,hx⟩:=hget hd
   exact⟨v,by show(pure (a.tmps.getD t undef):Go.Sem Value).run P w=_;rw[e];rfl,hx⟩
  grind
 |cell t U=>
  unfold GT at h
  dsimp only at h
  split at h
  ·rename_i k off hp
   obtain⟨v,e,hx⟩:=hget hp
   subst hx
   split at h
   ·rename_i W cs n hb hU
    split at h
    ·rename_i hl
     injection h with h
     subst h
     obtain⟨_,vs,ev,hrd⟩:=hr.sees.box k W cs hb
     have hr2:=(hrd.drop off).take n
     have hrun:=mg (P:=P) (w:=w) hU (b:=β k) (off:=off) (vs:=(vs.toList.drop off).take n) (by rw[hr2.1];exact jr hl) (fun j v hv=>by
      rw[qA] at hv
      split at hv
      ·rw[dk ev,←hv];simp
      ·cases hv)
     refine⟨_,?_,_,rfl,by simpa using hr2⟩
     simp only[ra,e,asAddr,fI,gG,fM,hrun]
    grind
   ·rename_i W cs n hb hU
    cases hc:cs[off]? with
    |none=>rw[hc] at h;cases h
    |some u=>
     rw[hc] at h
     injection h with h
     subst h
     obtain⟨_,vs,ev,hrd⟩:=hr.sees.box k W cs hb
     have hlt:off<cs.length:=(jU.1 hc).1
     have hv:vs.toList[off]? =some (vs.toList[off]'(by rw[hrd.1];exact hlt)):=by grind
     have hrun:=lZ (P:=P) (w:=w) hU (b:=β k) (off:=off) (by rw[dk ev,←sT,hv])
     refine⟨_,?_,hrd.2 off _ _ hv hc⟩
     simp only[ra,e,asAddr,fI,gG,fM,hrun]
   grind
  grind
def qh (P:Program) (σ:St):List ResultVar→Option (List D0)
 |[]=>some []
 |r::rs=>match GT P σ r,qh P σ rs with
  |some d,some ds=>some (d::ds)
  |_,_=>none
theorem Cu {a:Act}(hr:Rel av w0 σ.n σ.T σ.B β a w): ∀(rs:List ResultVar) (ds:List D0),qh P σ rs=some ds→
 ∃vs:List Value,(rs.mapM (ra a)).run P w=.ok vs w∧RdL (fun b=>av b∨ ∃k,σ.B k≠none∧β k=b) w vs ds
 |[],ds,h=>by injection h with h;subst h;exact⟨[],rfl,RdL.nil⟩
 |r::rs,ds,h=>by
  unfold qh at h
  split at h
  ·rename_i d ds' h1 h2
   injection h with h
   subst h
   obtain⟨v,e1,r1⟩:=Pv hr h1
   obtain⟨vs,e2,r2⟩:=Cu hr rs ds' h2
   refine⟨v::vs,?_,tY r1 r2⟩
   rw[List.mapM_cons]
   simp only[fI,e1,fM,e2,gG]
  ·cases h
theorem YY (hlen:ds.length≤N) (hav: ∀b,av b→b<w.heap.size) (hrd:RdL av w vs.toList ds):
 Rel av ⟨w,fun _=>False,N⟩ (St.n ⟨N,mZ 0 ds,[]⟩) (St.T ⟨N,mZ 0 ds,[]⟩) (St.B ⟨N,mZ 0 ds,[]⟩) (fun _=>0) {tmps:=vs++Array.replicate (N-vs.size) undef,defers:=[]} w:=by
 have hvl:vs.size=ds.length:=by rw[←hrd.1];simp
 have hT: ∀(k:Nat) (ds:List D0) (t:Nat) (x:DV),aM t (mZ k ds)=some x→ ∃j d,t=k+j∧ds[j]? =some d∧x=.v d:=by
  intro k ds
  induction ds generalizing k with
  |nil=>intro t x h;cases h
  |cons d ds ih=>
   intro t x h
   unfold mZ at h
   rw[bl] at h
   split at h
   ·simp_all
   ·obtain⟨j,d',e1,e2,e3⟩:=ih (k+1) t x h
    exact⟨j+1,d',by omega,by simpa using e2,e3⟩
 refine⟨rfl,by simp;omega,BelE.refl _,hav,fun _ _ h=>h,cK _,fun _ h=>h.elim,fun k l hk=>absurd rfl hk,fun k hk=>absurd rfl hk,?_,?_,?_,?_⟩
 ·intro t x k ht hx
  obtain⟨j,d,_,_,e⟩:=hT 0 ds t _ ht
  subst e;cases hx
 ·rintro b (hb|⟨k,hk,_⟩)
  ·grind
  ·exact absurd rfl hk
 ·intro k U cs hk;cases hk
 ·intro t x _ ht
  obtain⟨j,d,e1,e2,e3⟩:=hT 0 ds t x ht
  have e1:t=j:=by omega
  subst e1 e3
  have hlt:t<vs.size:=by grind
  have hv:vs.toList[t]? =some vs[t]:=by grind
  refine⟨vs[t],?_,(hrd.2 t _ d hv e2).keep ⟨Nat.le_refl _,fun _ _ _=>rfl,fun b _ hb=>?_⟩⟩
  ·grind
  ·rcases hb with hb|⟨k,hk,_⟩
   ·grind
   ·exact absurd rfl hk
theorem uE {a:Act}{vs:List Value}(hrun:(fn.results.toList.mapM (ra a)).run P w=.ok vs w):(results fn a.tmps).run P w=.ok (if h:vs.toArray.size=1 then vs.toArray[0] else .tuple vs.toArray) w:=by
 have key: ∀g:ResultVar→Go.Sem Value,(∀r,g r=ra a r)→(do let vs ←fn.results.mapM g;pure (if h:vs.size=1 then vs[0] else .tuple vs):Go.Sem Value).run P w=.ok (if h:vs.toArray.size=1 then vs.toArray[0] else .tuple vs.toArray) w:=by
  intro g hg
  rw[funext hg]
  simp[Array.mapM_eq_mapM_toList,hrun]
 exact key _ (fun r=>by cases r<;>rfl)
theorem Ok.of {rs:List D0}(hcal:fU P f=true) (hf:P.funcs[f]? =some fn) (hb:fn.body=some c) (hlen:Nat.ble ds.length fn.ntmps=true)
 (h:Dw P c ⟨fn.ntmps,mZ 0 ds,[]⟩ fun e σ=>(e=.normal∨e=.ret)∧qh P σ fn.results.toList=some rs):Ok P f ds rs:=by
 refine⟨hcal,fun av vs w hav hrd=>calls_of_wp hf hb ?_⟩
 have hlen:=dV hlen
 refine tw ?_ (h av ⟨w,fun _=>False,fn.ntmps⟩ (fun _=>0) _ w (YY hlen hav hrd))
 rintro e a' w' ⟨σ',β',hn,⟨he,hres⟩,hr⟩
 obtain⟨vs',hrun,hrl0⟩:=Cu hr _ _ hres
 have hrl:RdL av w' vs' rs:=hrl0.keep ⟨Nat.le_refl _,fun _ _ _=>rfl,fun b _ hb=>.inl hb⟩
 have hresults:=uE hrun
 have hR:VX av w' (if h:vs'.toArray.size=1 then vs'.toArray[0] else .tuple vs'.toArray) rs:=by
  match vs',rs,hrl with
  |[],[],hrl=>exact⟨_,rfl,hrl⟩
  |[v],[d],hrl=>exact hrl.uncons.1
  |v::v'::vs',d::d'::ds',hrl=>exact⟨(v::v'::vs').toArray,dif_neg (by simp),by simpa using hrl⟩
  |[],d::ds,hrl=>exact absurd hrl.1 (by simp)
  |v::vs,[],hrl=>exact absurd hrl.1 (by simp)
  |[v],d::d'::ds,hrl=>exact absurd hrl.1 (by simp)
  |v::v'::vs,[d],hrl=>exact absurd hrl.1 (by simp)
 rcases he with rfl|rfl
 ·exact⟨hr.dfr,_,hresults,_,rfl,hR,hr.bel.to (fun _ h=>h)⟩
 ·exact⟨hr.dfr,_,hresults,_,rfl,hR,hr.bel.to (fun _ h=>h)⟩
end
section
variable {P:Program}{ops:Array Oper}{os:List Oper}{n t:Nat}{tm:List (Nat×DV)}{bx nb:List (Nat×TypeId×List CellD)}{K:St→Prop}{K':Sq→Prop}{hs sd:List Nat}
variable {ty:TypeId}{pos:String}{af:Array Edge}{g:Option (Nat×Bool)}{op:Op}
theorem a7 {x:DV}(h:Sem P ops ⟨some t,op,ty,pos,af,g⟩ (fun s=>aM s tm) (fun k=>aM k bx) (.r x)) (hk:dl P ops os ⟨n,(t,x)::tm,bx⟩ K):dl P ops (⟨some t,op,ty,pos,af,g⟩::os) ⟨n,tm,bx⟩ K:=
 .inl ⟨.r x,h,fun _ _ _ e=>(by cases e),hk⟩
theorem bH {x:DV}(h:Sem P ops ⟨some t,op,ty,pos,af,g⟩ (fun s=>aM s tm) (hid hs (fun k=>aM k bx)) (.r x)) (hk:dq P ops hs os ⟨⟨n,(t,x)::tm,bx⟩,nb,sd⟩ K'):dq P ops hs (⟨some t,op,ty,pos,af,g⟩::os) ⟨⟨n,tm,bx⟩,nb,sd⟩ K':=
 ⟨.r x,.inl h,fun _ _ e=>(by cases e),fun _ _ _ e=>(by cases e),fun _ _ _ _ e=>(by cases e),fun _ _ _ e=>(by cases e),hk⟩
theorem Bg (h:Sem P ops ⟨some t,op,ty,pos,af,g⟩ (fun s=>aM s tm) (fun k=>aM k bx) .skip) (hk:dl P ops os ⟨n,(t,.u)::tm,bx⟩ K):dl P ops (⟨some t,op,ty,pos,af,g⟩::os) ⟨n,tm,bx⟩ K:=
 .inl ⟨.skip,h,fun _ _ _ e=>(by cases e),hk⟩
theorem sP (h:Sem P ops ⟨some t,op,ty,pos,af,g⟩ (fun s=>aM s tm) (hid hs (fun k=>aM k bx)) .skip) (hk:dq P ops hs os ⟨⟨n,(t,.u)::tm,bx⟩,nb,sd⟩ K'):dq P ops hs (⟨some t,op,ty,pos,af,g⟩::os) ⟨⟨n,tm,bx⟩,nb,sd⟩ K':=
 ⟨.skip,.inl h,fun _ _ e=>(by cases e),fun _ _ _ e=>(by cases e),fun _ _ _ _ e=>(by cases e),fun _ _ _ e=>(by cases e),hk⟩
theorem pg (h:Sem P ops ⟨some t,op,ty,pos,af,g⟩ (fun s=>aM s tm) (fun k=>aM k bx) (.a U cs none)) (hf:aM t bx=none) (hk:dl P ops os ⟨n,(t,.p t 0)::tm,(t,U,cs)::bx⟩ K):dl P ops (⟨some t,op,ty,pos,af,g⟩::os) ⟨n,tm,bx⟩ K:=
 .inl ⟨.a U cs none,h,fun _ _ _ _=>⟨t,rfl,hf⟩,hk⟩
theorem J5 (h:Sem P ops ⟨some t,op,ty,pos,af,g⟩ (fun s=>aM s tm) (hid hs (fun k=>aM k bx)) (.a U cs none)) (hf:aM t (nb++bx)=none) (hk:dq P ops hs os ⟨⟨n,(t,.p t 0)::tm,bx⟩,(t,U,cs)::nb,sd⟩ K'):dq P ops hs (⟨some t,op,ty,pos,af,g⟩::os) ⟨⟨n,tm,bx⟩,nb,sd⟩ K':=
 ⟨.a U cs none,.inl h,fun _ _ e=>(by cases e),fun _ _ _ e=>(by cases e),fun _ _ _ _ e=>(by cases e),fun _ _ _ _=>⟨t,rfl,hf⟩,hk⟩
theorem ol {m:Nat}(h:Sem P ops ⟨some t,op,ty,pos,af,g⟩ (fun s=>aM s tm) (fun k=>aM k bx) (.a U cs (some m))) (hf:aM t bx=none) (hk:dl P ops os ⟨n,(t,.o t m m)::tm,(t,U,cs)::bx⟩ K):dl P ops (⟨some t,op,ty,pos,af,g⟩::os) ⟨n,tm,bx⟩ K:=
 .inl ⟨.a U cs (some m),h,fun _ _ _ _=>⟨t,rfl,hf⟩,hk⟩
theorem gZ (h:Sem P ops ⟨none,op,ty,pos,af,g⟩ (fun s=>aM s tm) (fun k=>aM k bx) (.s k U cs)) (hk:dl P ops os ⟨n,tm,(k,U,cs)::bx⟩ K):dl P ops (⟨none,op,ty,pos,af,g⟩::os) ⟨n,tm,bx⟩ K:=
 .inl ⟨.s k U cs,h,fun _ _ _ e=>(by cases e),hk⟩
theorem WM {x:DV}(h:Sem P ops ⟨some t,op,ty,pos,af,g⟩ (fun s=>aM s tm) (fun k=>aM k bx) (.c k x)) (hk:dl P ops os ⟨n,(t,x)::lN k tm,kz k bx⟩ K):dl P ops (⟨some t,op,ty,pos,af,g⟩::os) ⟨n,tm,bx⟩ K:=
 .inl ⟨.c k x,h,fun _ _ _ e=>(by cases e),hk⟩
theorem uz {x:DV}(h:Sem P ops ⟨some t,op,ty,pos,af,g⟩ (fun s=>aM s tm) (fun k=>aM k bx) (.rs k U cs x)) (hk:dl P ops os ⟨n,(t,x)::tm,(k,U,cs)::bx⟩ K):dl P ops (⟨some t,op,ty,pos,af,g⟩::os) ⟨n,tm,bx⟩ K:=
 .inl ⟨.rs k U cs x,h,fun _ _ _ e=>(by cases e),hk⟩
theorem uW {x:DV}(h:Sem P ops ⟨some t,op,ty,pos,af,g⟩ (fun s=>aM s tm) (fun l=>bif Nat.beq l k then aM l (nb++bx) else hid hs (fun k=>aM k bx) l) (.rs k U cs x))
 (h1:hs.any (Nat.beq k)=true) (h2:(aM k bx).isSome=true) (h3:sd.any (Nat.beq k)=false) (h4:os.all (fun o=>o.dst.isSome)=true) (h5:jz ⟨some t,op,ty,pos,af,g⟩=true) (h6:sL ops=true) (h7:hs.any (Nat.beq 999999)=false)
 (hk:dq P ops hs os ⟨⟨n,(t,x)::tm,bx⟩,(k,U,cs)::nb,sd⟩ K'):dq P ops hs (⟨some t,op,ty,pos,af,g⟩::os) ⟨⟨n,tm,bx⟩,nb,sd⟩ K':=
 ⟨.rs k U cs x,.inl h,fun _ _ e=>(by cases e),fun _ _ _ e=>(by cases e),fun _ _ _ _ e=>by
  injection e with e1
  subst e1
  exact⟨h1,(fun e=>by have e:aM k bx=none:=e;rw[e] at h2;cases h2),(fun hm=>by rw[kU.2 hm] at h3;cases h3),h4,h5,h6,h7⟩,fun _ _ _ e=>(by cases e),hk⟩
theorem bj (h:K ⟨n,tm,bx⟩):dl P ops [] ⟨n,tm,bx⟩ K:=h
theorem i4 (h:Sem P ops ⟨none,op,ty,pos,af,g⟩ (fun s=>aM s tm) (fun l=>bif Nat.beq l k then aM l (nb++bx) else hid hs (fun k=>aM k bx) l) (.s k U cs))
 (h1:hs.any (Nat.beq k)=true) (h2:(aM k bx).isSome=true) (h3:sd.any (Nat.beq k)=false) (h4:AD ⟨none,op,ty,pos,af,g⟩=true) (hk:dq P ops hs os ⟨⟨n,tm,bx⟩,(k,U,cs)::nb,k::sd⟩ K'):dq P ops hs (⟨none,op,ty,pos,af,g⟩::os) ⟨⟨n,tm,bx⟩,nb,sd⟩ K':=
 ⟨.s k U cs,.inl h,fun _ _ e=>(by cases e),fun _ _ _ e=>by
  injection e with e1
  subst e1
  exact⟨h1,.inl (fun e=>by have e:aM k bx=none:=e;rw[e] at h2;cases h2),(.inl fun hm=>by rw[kU.2 hm] at h3;cases h3),h4⟩,fun _ _ _ _ e=>(by cases e),fun _ _ _ e=>(by cases e),hk⟩
theorem jj (h:Sem P ops ⟨none,op,ty,pos,af,g⟩ (fun s=>aM s tm) (fun l=>bif Nat.beq l k then aM l (nb++bx) else hid hs (fun k=>aM k bx) l) (.s k U cs))
 (h1:hs.any (Nat.beq k)=true) (h2:((⟨none,op,ty,pos,af,g⟩:Oper).looksAt ops).any (Nat.beq k)=true) (h3:sd.any (Nat.beq k)=false) (h4:AD ⟨none,op,ty,pos,af,g⟩=true) (hk:dq P ops hs os ⟨⟨n,tm,bx⟩,(k,U,cs)::nb,k::sd⟩ K'):dq P ops hs (⟨none,op,ty,pos,af,g⟩::os) ⟨⟨n,tm,bx⟩,nb,sd⟩ K':=
 ⟨.s k U cs,.inl h,fun _ _ e=>(by cases e),fun _ _ _ e=>by
  injection e with e1
  subst e1
  exact⟨h1,.inr (kU.1 h2),(.inl fun hm=>by rw[kU.2 hm] at h3;cases h3),h4⟩,fun _ _ _ _ e=>(by cases e),fun _ _ _ e=>(by cases e),hk⟩
theorem H3 (h:Sem P ops ⟨none,op,ty,pos,af,g⟩ (fun s=>aM s tm) (fun l=>bif Nat.beq l k then aM l (nb++bx) else hid hs (fun k=>aM k bx) l) (.s k U cs))
 (h1:hs.any (Nat.beq k)=true) (h2:(aM k bx).isSome=true) (h3:qj ops=true) (h4:AD ⟨none,op,ty,pos,af,g⟩=true) (hk:dq P ops hs os ⟨⟨n,tm,bx⟩,(k,U,cs)::nb,k::sd⟩ K'):dq P ops hs (⟨none,op,ty,pos,af,g⟩::os) ⟨⟨n,tm,bx⟩,nb,sd⟩ K':=
 ⟨.s k U cs,.inl h,fun _ _ e=>(by cases e),fun _ _ _ e=>by
  injection e with e1
  subst e1
  exact⟨h1,.inl (fun e=>by have e:aM k bx=none:=e;rw[e] at h2;cases h2),.inr h3,h4⟩,fun _ _ _ _ e=>(by cases e),fun _ _ _ e=>(by cases e),hk⟩
theorem kj (h:K' ⟨⟨n,tm,bx⟩,nb,sd⟩):dq P ops hs [] ⟨⟨n,tm,bx⟩,nb,sd⟩ K':=h
theorem Aj {x:DV}(hv:Ta hs ops ⟨some t,op,ty,pos,af,g⟩=true) (h:Sem P ops ⟨some t,op,ty,pos,af,g⟩ (fun s=>aM s tm) (fun k=>aM k bx) (.r x)) (hk:dq P ops hs os ⟨⟨n,(t,x)::tm,bx⟩,nb,sd⟩ K'):dq P ops hs (⟨some t,op,ty,pos,af,g⟩::os) ⟨⟨n,tm,bx⟩,nb,sd⟩ K':=
 ⟨.r x,.inr ⟨hv,⟨x,rfl⟩,h⟩,fun _ _ e=>(by cases e),fun _ _ _ e=>(by cases e),fun _ _ _ _ e=>(by cases e),fun _ _ _ e=>(by cases e),hk⟩
theorem aaU (h:Sem P ops ⟨some t,op,ty,pos,af,g⟩ (fun s=>aM s tm) (fun k=>aM k bx) (.r (.v (.c (.b b))))) (hk: ∀c,b=c→dl P ops os ⟨n,(t,.v (.c (.b c)))::tm,bx⟩ K):dl P ops (⟨some t,op,ty,pos,af,g⟩::os) ⟨n,tm,bx⟩ K:=
 a7 h (hk b rfl)
theorem HC (h:Sem P ops ⟨some t,op,ty,pos,af,g⟩ (fun s=>aM s tm) (hid hs (fun k=>aM k bx)) (.r (.v (.c (.b b))))) (hk: ∀c,b=c→dq P ops hs os ⟨⟨n,(t,.v (.c (.b c)))::tm,bx⟩,nb,sd⟩ K'):dq P ops hs (⟨some t,op,ty,pos,af,g⟩::os) ⟨⟨n,tm,bx⟩,nb,sd⟩ K':=
 bH h (hk b rfl)
theorem dz (h:dl P ops os ⟨n,tm,bx⟩ K):dl P ops os (Sq.merge ⟨⟨n,tm,bx⟩,[],sd⟩) K:=h
theorem ry (h:dl P ops os ⟨n,tm,a::bx⟩ K):dl P ops os (Sq.merge ⟨⟨n,tm,bx⟩,[a],sd⟩) K:=h
theorem Nl {b:Nat×TypeId×List CellD}(h:dl P ops os ⟨n,tm,a::b::bx⟩ K):dl P ops os (Sq.merge ⟨⟨n,tm,bx⟩,[a,b],sd⟩) K:=h
theorem cO {x y:Code}(hb:aM t tm=some (.v (.c (.b true)))) (h:Dw P x ⟨n,tm,bx⟩ Q):Dw P (.cond (.tmp t) x y) ⟨n,tm,bx⟩ Q:=aX hb (fun _=>h) (fun e=>by cases e)
theorem ba {x y:Code}(hb:aM t tm=some (.v (.c (.b false)))) (h:Dw P y ⟨n,tm,bx⟩ Q):Dw P (.cond (.tmp t) x y) ⟨n,tm,bx⟩ Q:=aX hb (fun e=>by cases e) (fun _=>h)
theorem ae:qh P ⟨n,tm,bx⟩ []=some []:=rfl
theorem OW (h:aM t tm=some (.v d)) (hr:qh P ⟨n,tm,bx⟩ rs=some ds):qh P ⟨n,tm,bx⟩ (.tmp t::rs)=some (d::ds):=by
 have e:GT P ⟨n,tm,bx⟩ (.tmp t)=some d:=by unfold GT;simp only[h]
 unfold qh
 grind
theorem gE {m:Nat}(hU:qf P U=some (true,m)) (hp:aM t tm=some (.p k off)) (hb:aM k bx=some (W,cs)) (hu:(cs.drop off).take m=us) (hm:us.length=m)
 (hr:qh P ⟨n,tm,bx⟩ rs=some ds):qh P ⟨n,tm,bx⟩ (.cell t U::rs)=some (.a us::ds):=by
 have e:GT P ⟨n,tm,bx⟩ (.cell t U)=some (.a us):=by
  unfold GT
  simp only[hp,hb,hU,hu,hm]
  simp
 unfold qh
 grind
theorem CX {m:Nat}
 (hU:qf P U=some (q,m)) (ha:dc T ax=some (.p k 0)) (hx:dc T x=some (.v d)) (hb:B k=some (W,cs)) (hn:d.cells.length=m) (ho:cs.length=m)
 (hg:gd ops ⟨none,.store U ax x,ty,pos,af,g⟩ T=some true):Sem P ops ⟨none,.store U ax x,ty,pos,af,g⟩ T B (.s k W d.cells):=by
 refine bm hU ha hx hb hn (by omega) ?_ hg
 grind
theorem bn {m:Nat}
 (hU:qf P U=some (true,m)) (ha:dc T ax=some (.p k 0)) (hx:dc T x=some (.v (.a us))) (hb:B k=some (W,cs)) (hn:us.length=m) (ho:cs.length=m)
 (hg:gd ops ⟨none,.store U ax x,ty,pos,af,g⟩ T=some true):Sem P ops ⟨none,.store U ax x,ty,pos,af,g⟩ T B (.s k W us):=CX (d:=.a us) hU ha hx hb hn ho hg
theorem Mm 
 (hx:dc T x=some (.v (.a us))) (hg:gd ops ⟨dst,.box U x,ty,pos,af,g⟩ T=some true):Sem P ops ⟨dst,.box U x,ty,pos,af,g⟩ T B (.a U us none):=KC (d:=.a us) hx hg
theorem M1 
 (hx:dc T x=some (.v (.c u))) (hg:gd ops ⟨dst,.box U x,ty,pos,af,g⟩ T=some true):Sem P ops ⟨dst,.box U x,ty,pos,af,g⟩ T B (.a U [u] none):=KC (d:=.c u) hx hg
theorem uL {c:Bool}(hu:P.underlying xt=some .bool):(Op.equal xt (.bool b) (.bool c)).run P w=.ok (b==c) w:=by
 unfold Op.equal Op.maxDepth
 rw[show(10000:Nat)=9999+1 from rfl,Op.equalIn]
 simp only[fI,run_underlying hu,fM]
 rfl
theorem Ip {c:Bool}
 (hx:dc T x=some (.v (.c (.b b)))) (hy:dc T y=some (.v (.c (.b c)))) (hu:P.underlying xt=some .bool) (hg:gd ops ⟨dst,.binOp .eql xt x y yt,ty,pos,af,g⟩ T=some true):
 Sem P ops ⟨dst,.binOp .eql xt x y yt,ty,pos,af,g⟩ T B (.r (.v (.c (.b (b==c))))):=
 bQ hg (qi rfl) (fun V β a w hs=>by
  have e1:a.eval x=.bool b:=RdC.bool_eq (aK hs (x:=x) (by simp[Op.operands]) hx)
  have e2:a.eval y=.bool c:=RdC.bool_eq (aK hs (x:=y) (by simp[Op.operands]) hy)
  refine⟨.bool (b==c),?_,.b _⟩
  have h1:(eqGuard .eql xt x y (.bool b) (.bool c)).run P w=.ok () w:=rfl
  have h2:binOp .eql xt (.bool b) (.bool c)=(do pure (.bool (←Op.equal xt (.bool b) (.bool c)))):=rfl
  simp only[execOp,e1,e2,fI,h1,fM,h2,uL hu,gG])
theorem iv {c:Bool}
 (hx:dc T x=some (.v (.c (.b b)))) (hy:dc T y=some (.v (.c (.b c)))) (hu:P.underlying xt=some .bool) (hg:gd ops ⟨dst,.binOp .neq xt x y yt,ty,pos,af,g⟩ T=some true):
 Sem P ops ⟨dst,.binOp .neq xt x y yt,ty,pos,af,g⟩ T B (.r (.v (.c (.b (!(b==c)))))):=
 bQ hg (qi rfl) (fun V β a w hs=>by
  have e1:a.eval x=.bool b:=RdC.bool_eq (aK hs (x:=x) (by simp[Op.operands]) hx)
  have e2:a.eval y=.bool c:=RdC.bool_eq (aK hs (x:=y) (by simp[Op.operands]) hy)
  refine⟨.bool (!(b==c)),?_,.b _⟩
  have h1:(eqGuard .neq xt x y (.bool b) (.bool c)).run P w=.ok () w:=rfl
  have h2:binOp .neq xt (.bool b) (.bool c)=(do pure (.bool (!(←Op.equal xt (.bool b) (.bool c))))):=rfl
  simp only[execOp,e1,e2,fI,h1,fM,h2,uL hu,gG])
theorem Ry {k1 k2 k:IntKind}
 (h1:P.underlying t1=some (.int k1)) (h2:P.underlying t2=some (.int k2)) (hx:dc T x=some (.v (.c (.i k m)))) (hg:gd ops ⟨dst,.convert t1 t2 x,ty,pos,af,g⟩ T=some true):
 Sem P ops ⟨dst,.convert t1 t2 x,ty,pos,af,g⟩ T B (.r (.v (.c (.i k2 (k2.wrap m))))):=
 bQ hg (qi rfl) (fun V β a w hs=>by
  have e1:a.eval x=.int k m:=RdC.int_eq (aK hs (x:=x) (by simp[Op.operands]) hx)
  refine⟨.int k2 (k2.wrap m),?_,.i _ _⟩
  simp[execOp,e1,convert,run_underlying h1,run_underlying h2,Conv.intToInt])
end
def dG (v:Nat):List Int:=if h:v=0 then[] else((v%1000000000:Nat):Int)::dG (v/1000000000)
termination_by v
decreasing_by exact Nat.div_lt_self (Nat.pos_of_ne_zero h) (by omega)
theorem lC:dG 0=[]:=by unfold dG;simp
theorem AS {v:Nat}(h:v≠0):dG v=((v%1000000000:Nat):Int)::dG (v/1000000000):=by rw[dG];simp[h]
theorem bZ (v:Nat):Lim (dG v):=by
 induction v using Nat.strongRecOn with
 |_ v ih=>
  by_cases h:v=0
  ·subst h;rw[lC];exact Lim.nil
  ·rw[AS h]
   exact Lim.cons (by omega) (by omega) (ih _ (Nat.div_lt_self (Nat.pos_of_ne_zero h) (by omega)))
theorem cm (v:Nat):val (dG v)=v:=by
 induction v using Nat.strongRecOn with
 |_ v ih=>
  by_cases h:v=0
  ·subst h;rw[lC];rfl
  ·rw[AS h,eY,ih _ (Nat.div_lt_self (Nat.pos_of_ne_zero h) (by omega))]
   omega
theorem e8 {v:Nat}:dG v=[]↔v=0:=by
 constructor
 ·intro h;have:=cm v;rw[h] at this;simp[val] at this;omega
 ·intro h;rw[h,lC]
theorem In {x:Int}(h:Nrm xs) (hx:xs≠ []):Nrm (x::xs):=by
 obtain⟨ys,y,e,hy⟩:=h.last hx
 rw[e]
 exact BQ (x::ys) y hy
theorem jw (v:Nat):Nrm (dG v):=by
 induction v using Nat.strongRecOn with
 |_ v ih=>
  by_cases h:v=0
  ·subst h;rw[lC];exact Nrm.nil
  ·rw[AS h]
   by_cases h2:v/1000000000=0
   ·rw[h2,lC]
    exact BQ [] _ (by omega)
   ·exact In (ih _ (Nat.div_lt_self (Nat.pos_of_ne_zero h) (by omega))) (fun e=>h2 (e8.1 e))
theorem JM (h:Nrm xs) (hl:Lim xs):xs=dG (val xs).toNat:=by
 have h0:=dg hl
 exact Nrm.inj h (jw _) hl (bZ _) (by rw[cm];omega)
def cL (x:Int):CellD:=.s (dG x.natAbs).length ((dG x.natAbs).map (CellD.i .u32))
def cI (x:Int):List CellD:=[.b (decide (x<0)),cL x]
def dI (x:Int):D0:=.a (cI x)
structure Sz (k:Nat) (x:Int):Prop where
 lt:x<pw k
 gt: -x<pw k
section
variable {av:Nat→Prop}{w w':World}
theorem xv {c:Nat}(h:RdC av w (.slice A n c) (.s xs.length (xs.map (CellD.i .u32)))):RdI .u32 w A n xs∧n≤c∧c≤9223372036854775807∧(∀b off,0<n→A=some ⟨b,off,none⟩→ ¬av b):=by
 generalize hu:CellD.s xs.length (xs.map (CellD.i .u32))=u at h
 cases h with
 |s0 _ c hc=>
  have:xs=[]:=by grind
  subst this
  exact⟨Rd.nil,iH _,hc,fun _ _ h=>absurd h (by omega)⟩
 |s b off c sz n us cv h0 hnc hcm hlen hb hav hcell hr=>
  injection hu with h1 h2
  subst h1
  subst h2
  have hsz:sz=1:=by
   simp at hlen
   have:=Fk h0 (hlen.symm.trans (Nat.mul_one _).symm)
   grind
  subst hsz
  refine⟨⟨by simp,fun _=>⟨b,off,rfl,hb,fun j u hj=>?_⟩⟩,hnc,hcm,fun b' off' _ e=>by injection e with e;injection e with e1 e2;subst e1;exact hav⟩
  rw[ug] at hj
  cases hx:xs[j]? with
  |none=>rw[hx] at hj;cases hj
  |some x=>
   rw[hx] at hj
   injection hj with hj
   have hlt:j<xs.length:=(jU.1 hx).1
   have hc:=hcell j (by omega)
   have hrr:=hr j (.i .u32 x) (by rw[ug,hx];rfl)
   rw[hc,RdC.int_eq hrr,←hj]
 |_=>cases hu
theorem xb {c:Nat}(h:RdI .u32 w A n xs) (hnc:n≤c) (hcm:c≤9223372036854775807) (hav: ∀b off,A=some ⟨b,off,none⟩→ ¬av b):
 RdC av w (.slice A n c) (.s n (xs.map (CellD.i .u32))):=by
 have hl:=h.len
 rcases jZ n with h0|h0
 ·subst h0
  have:xs=[]:=by grind
  subst this
  exact .s0 A c hcm
 ·obtain⟨b,off,e,hb,hc⟩:=h.2 h0
  subst e
  refine .s b off c 1 n _ (fun j=>.int .u32 (xs.getD j 0)) h0 hnc hcm (by simp[hl]) hb (hav b off rfl) (fun j hj=>?_) (fun j u hj=>?_)
  ·grind
  ·rw[ug] at hj
   cases hx:xs[j]? with
   |none=>rw[hx] at hj;cases hj
   |some x=>
    rw[hx] at hj
    injection hj with hj
    subst hj
    simp only[List.getD,hx,Option.getD_some]
    exact .i _ _
theorem lG {x:Int}(h:RdV av w v (dI x)): ∃neg A n c,v=.agg #[.bool neg,.slice A n c]∧IsInt w neg A n c x:=by
 obtain⟨cs,rfl,hr⟩:=h
 have hl:=hr.1
 obtain⟨cs⟩:=cs
 match cs,hl,hr with
 |[a,b],_,hr=>
  obtain⟨h1,hr⟩:=hr.uncons
  obtain⟨h2,_⟩:=hr.uncons
  unfold cL at h2
  have e1:=RdC.bool_eq h1
  subst e1
  have: ∃A n c,b=.slice A n c:=by
   generalize hu:CellD.s (dG x.natAbs).length ((dG x.natAbs).map (CellD.i .u32))=u at h2
   cases h2 with
   |s0 A c _=>exact⟨A,0,c,rfl⟩
   |s b off c sz n=>exact⟨_,n,c,rfl⟩
   |_=>cases hu
  obtain⟨A,n,c,rfl⟩:=this
  obtain⟨g1,g2,g3,_⟩:=xv h2
  refine⟨_,A,n,c,rfl,dG x.natAbs,⟨g1,g2,g3,bZ _⟩,jw _,?_,fun hn=>?_⟩
  ·rw[cm]
   by_cases hx:x<0
   ·simp[hx,sg];omega
   ·simp[hx,sg];omega
  ·have hx:x<0:=by simpa using hn
   have:=g1.len
   rcases jZ n with h0|h0
   ·rw[h0] at this
    have:=e8.1 (lJ.1 this);omega
   grind
theorem HA {neg:Bool}{c:Nat}{x:Int}(h:IsInt w neg A n c x) (hav: ∀b off,A=some ⟨b,off,none⟩→ ¬av b):RdV av w (.agg #[.bool neg,.slice A n c]) (dI x):=by
 obtain⟨s1,s2,s3,s4⟩:=h.sign
 obtain⟨xs,hs,hn,hx,hp⟩:=h
 have hneg:neg=decide (x<0):=by
  cases neg with
  |true=>simp[s1 rfl]
  |false=>
   rcases jZ n with h0|h0
   ·grind
   grind
 have hxs:xs=dG x.natAbs:=by
  rw[JM hn hs.2.2.2]
  congr 1
  have:=dg hs.2.2.2
  cases neg with
  |true=>rw[gW] at hx;omega
  |false=>rw[du] at hx;omega
 have hl:n=(dG x.natAbs).length:=by rw[←hxs,hs.len]
 refine⟨_,rfl,u6 ?_ (u6 ?_ tJ)⟩
 ·rw[hneg];exact .b _
 ·unfold cL
  rw[←hl,←hxs]
  exact xb hs.1 hs.2.1 hs.2.2.1 hav
theorem pD {x:Int}{e:Ending}(hav: ∀b,av b→b<w.heap.size) (h:HO w x e w'): ∃v,e=.returned v∧VX av w' v [dI x]∧Below w.heap.size w w':=by
 obtain⟨neg,A,n,c,rfl,hi,hfr,hb⟩:=h
 exact⟨_,rfl,HA hi (fun b off e hv=>by have:=hav b hv;have:=hfr b off e;omega),hb⟩
theorem IsInt.sz {neg:Bool}{c:Nat}{x:Int}(h:IsInt w neg A n c x) (hs:Sz 100000000 x):n≤100000000:=h.le hs.1 hs.2
end
theorem Sz.mono {x:Int}(h:Sz k x) (hl:k≤l):Sz l x:=by
 have:=mJ hl
 exact⟨by have:=h.1;omega,by have:=h.2;omega⟩
theorem Sz.m_ {x:Int}(h:Sz k x) (hl:k≤l:=by decide):Sz l x:=h.mono hl
theorem gw {x:Int}(h:Sz k x) (hl:k≤l:=by decide):Sz l x:=h.mono hl
theorem Qc {x:Int}(h:Sz l x:=by first|assumption|exact Sz.mono (by assumption) (by decide)):Sz l x:=h
theorem Sz.neg {x:Int}(h:Sz k x):Sz k (-x):=⟨h.2,by have:=h.1;omega⟩
theorem Sz.add {x y:Int}(h:Sz k x) (h':Sz k y):Sz (k+1) (x+y):=by
 have:=eu k
 obtain⟨h1,h2⟩:=h
 obtain⟨h3,h4⟩:=h'
 constructor<;>omega
theorem Sz.abs {x:Int}:Sz k x↔(x.natAbs:Int)<pw k:=⟨fun h=>by have:=h.lt;have:=h.gt;omega,fun h=>⟨by omega,by omega⟩⟩
theorem Sz.mul {x y:Int}(h:Sz k x) (h':Sz l y):Sz (k+l) (x*y):=by
 rw[Sz.abs] at*
 rw[zl,pP,Int.natCast_mul]
 have h1:=dw k
 generalize (x.natAbs:Int)=a at*
 have hb0:0≤(y.natAbs:Int):=by omega
 generalize (y.natAbs:Int)=b at*
 generalize pw k=p at*
 generalize pw l=q at*
 have h3:a*b≤(p-1)*(q-1):=qo (by omega) (by omega) hb0 (by omega)
 grind
theorem Sz.of_le {x y:Int}(h:Sz k x) (hy:y.natAbs≤x.natAbs):Sz k y:=by
 rw[Sz.abs] at*;omega
theorem Sz.small {x:Int}(hk:3≤k) (h0: -9223372036854775808≤x) (h1:x≤9223372036854775807):Sz k x:=by
 have h3:pw 3=1000000000000000000000000000:=by decide
 have:=mJ hk
 constructor<;>omega
section
theorem CO {x:Int}:Ok Tryz.prog 155 [dI x] [.c (.i .i64 (eL x 0))]:=⟨by kernel_rfl,fun av vs w hav h=>by
 obtain⟨vs⟩:=vs
 match vs,h.1,h with
 |[v],_,h=>
  obtain⟨neg,A,n,c,rfl,hi⟩:=lG h.uncons.1
  exact(Oh neg A n c x w hi).mono fun e w' ⟨he,hb⟩=>⟨_,he,.i _ _,hb⟩⟩
theorem nH {x y:Int}:Ok Tryz.prog 204 [dI x,dI y] [.c (.i .i64 (eL x y))]:=⟨by kernel_rfl,fun av vs w hav h=>by
 obtain⟨vs⟩:=vs
 match vs,h.1,h with
 |[v,u],_,h=>
  obtain⟨hv,hu⟩:=h.uncons
  replace hu:=hu.uncons.1
  obtain⟨neg,A,n,c,rfl,hi⟩:=lG hv
  obtain⟨neg',A',n',c',rfl,hi'⟩:=lG hu
  exact(RE neg neg' A A' n c n' c' x y w hi hi').mono fun e w' ⟨he,hb⟩=>⟨_,he,.i _ _,hb⟩⟩
theorem jV {x y:Int}(hx:Sz 100000000 x) (hy:Sz 100000000 y):Ok Tryz.prog 121 [dI x,dI y] [dI (x*y)]:=⟨by kernel_rfl,fun av vs w hav h=>by
 obtain⟨vs⟩:=vs
 match vs,h.1,h with
 |[v,u],_,h=>
  obtain⟨hv,hu⟩:=h.uncons
  replace hu:=hu.uncons.1
  obtain⟨neg,A,n,c,rfl,hi⟩:=lG hv
  obtain⟨neg',A',n',c',rfl,hi'⟩:=lG hu
  exact(Od neg neg' A A' n c n' c' x y w hi hi' (hi.sz hx) (hi'.sz hy)).mono fun e w' h=>pD hav h⟩
theorem A3 {x y:Int}(hx:Sz 100000000 x) (hy:Sz 100000000 y):Ok Tryz.prog 209 [dI x,dI y] [dI (x+y)]:=⟨by kernel_rfl,fun av vs w hav h=>by
 obtain⟨vs⟩:=vs
 match vs,h.1,h with
 |[v,u],_,h=>
  obtain⟨hv,hu⟩:=h.uncons
  replace hu:=hu.uncons.1
  obtain⟨neg,A,n,c,rfl,hi⟩:=lG hv
  obtain⟨neg',A',n',c',rfl,hi'⟩:=lG hu
  exact(BT neg neg' A A' n c n' c' x y w hi hi' (hi.sz hx) (hi'.sz hy)).mono fun e w' h=>pD hav h⟩
theorem Ue {x y:Int}(hx:Sz 100000000 x) (hy:Sz 100000000 y):Ok Tryz.prog 298 [dI x,dI y] [dI (x-y)]:=⟨by kernel_rfl,fun av vs w hav h=>by
 obtain⟨vs⟩:=vs
 match vs,h.1,h with
 |[v,u],_,h=>
  obtain⟨hv,hu⟩:=h.uncons
  replace hu:=hu.uncons.1
  obtain⟨neg,A,n,c,rfl,hi⟩:=lG hv
  obtain⟨neg',A',n',c',rfl,hi'⟩:=lG hu
  exact(QE neg neg' A A' n c n' c' x y w hi hi' (hi.sz hx) (hi'.sz hy)).mono fun e w' h=>pD hav h⟩
theorem A8 {x:Int}(hx:Sz 100000000 x):Ok Tryz.prog 202 [dI x] [dI (-x)]:=⟨by kernel_rfl,fun av vs w hav h=>by
 obtain⟨vs⟩:=vs
 match vs,h.1,h with
 |[v],_,h=>
  obtain⟨neg,A,n,c,rfl,hi⟩:=lG h.uncons.1
  exact(PZ neg A n c x w hi (hi.sz hx)).mono fun e w' h=>pD hav h⟩
theorem n9 {x:Int}(h0: -9223372036854775808≤x) (h1:x≤9223372036854775807):Ok Tryz.prog 127 [.c (.i .i64 x)] [dI x]:=⟨by kernel_rfl,fun av vs w hav h=>by
 obtain⟨vs⟩:=vs
 match vs,h.1,h with
 |[v],_,h=>
  obtain rfl:=RdC.int_eq h.uncons.1
  exact(Ig x w h0 h1).mono fun e w' h=>pD hav h⟩
end
section
variable {P:Program}{ops:Array Oper}{o:Oper}{T:TF}{B:BF}{V:Nat→Prop}{β:Nat→Nat}{a:Act}{w w':World}{av:Nat→Prop}
theorem Gy {R:Value→World→Prop}
 (h: ∀(o':Oper) (a':Act) (K:Act→World→Prop) (Q:Exit→Act→World→Prop),o'.op=o.op→a'.eval=a.eval→(∀v w',R v w'→K (a'.put o'.dst v) w')→o'.wp P a' w K Q):Gives P o a w R:=by
 have he:(⟨a.tmps.push undef,a.defers⟩:Act).eval=a.eval:=by
  funext x
  cases x with
  |tmp t=>
   show(a.tmps.push undef).getD t undef=a.tmps.getD t undef
   by_cases ht:t<a.tmps.size
   ·simp only[Array.getD,ht,Array.size_push,Nat.lt_succ_of_lt ht,dite_true]
    rw[Array.getInternal_eq_getElem,Array.getInternal_eq_getElem,Array.getElem_push_lt]
   ·by_cases he:t=a.tmps.size
    ·simp_all
    grind
  |_=>rfl
 have h1:=h {o with dst:=some a.tmps.size} ⟨a.tmps.push undef,a.defers⟩ (fun a'' w'=>a''.defers=a.defers∧ ∃v,a''.tmps[a.tmps.size]? =some v∧R v w') (fun _ _ _=>False) rfl he (fun v w' hv=>⟨rfl,v,by simp[Act.put],hv⟩)
 unfold Oper.wp at h1
 unfold Gives
 rw[he] at h1
 have e2:execOp a.eval {o with dst:=some a.tmps.size}=execOp a.eval o:=by cases o;rfl
 rw[e2] at h1
 have hput: ∀(v:Value) (w':World),(∃u,((⟨a.tmps.push undef,a.defers⟩:Act).put (some a.tmps.size) v).tmps[a.tmps.size]? =some u∧R u w')→R v w':=by
  rintro v w' ⟨u,hu,hR⟩
  simp[Act.put] at hu
  grind
 generalize (execOp a.eval o).run P w=r at*
 cases r with
 |ok n w'=>
  cases n<;>simp only[Oper.upon] at h1<;>simp only[D5]
  case value v=>exact hput v w' h1.2
  case skip=>exact hput undef w' h1.2
  case enter f args=>
   refine h1.mono fun e w'' he=>?_
   cases e with
   |returned v=>exact⟨v,rfl,hput v w'' he.2⟩
   |panicked c=>exact he.elim
   |outgrown=>obtain⟨_,_,h⟩:=he;exact h.elim
  case defer d=>
   have:=h1.1
   simp[Act.put] at this
  case row row args=>exact h1.mono fun v w'' hv=>hput v w'' hv.2
 |halt x w'=>cases x<;>simp only[Oper.upon] at h1
theorem O3 
 (hx:dc T x=some (.v (.c (cL e)))) (hs:Sz 100000000 e) (hg:gd ops ⟨dst,.call ⟨.builtin .append,#[.const (.slice none 0 0),x],#[31,31]⟩,ty,pos,af,g⟩ T=some true):
 Sem Tryz.prog ops ⟨dst,.call ⟨.builtin .append,#[.const (.slice none 0 0),x],#[31,31]⟩,ty,pos,af,g⟩ T B (.r (.v (.c (cL e)))):=by
 refine⟨qi rfl,fun V β a w hsee=>⟨fa hsee hg,Gy fun o' a' K Q ho he hK=>?_⟩⟩
 have h1:RdC V w (a.eval x) (cL e):=aK hsee (x:=x) (by simp[Op.operands,Call.operands]) hx
 unfold cL at h1
 have hf: ∃A n c,a.eval x=.slice A n c:=by
  generalize hu:CellD.s (dG e.natAbs).length ((dG e.natAbs).map (CellD.i .u32))=u at h1
  generalize a.eval x=v at h1
  cases h1 with
  |s0 A c _=>exact⟨A,0,c,rfl⟩
  |s b off c sz n=>exact⟨_,n,c,rfl⟩
  |_=>cases hu
 obtain⟨A,n,c,hv⟩:=hf
 rw[hv] at h1
 obtain⟨g1,g2,g3,g4⟩:=xv h1
 have hl:=g1.len
 have hn:n≤100000000:=by
  rw[←hl]
  refine(jw e.natAbs).len (bZ _) ?_
  rw[cm];exact Sz.abs.1 hs
 refine KS (.const (.slice none 0 0)) x ho A n c (dG e.natAbs) rfl (by rw[he];exact hv) ⟨g1,g2,g3,bZ _⟩ (by omega) ?_
 intro v' w' hown hgr
 refine hK v' w' ⟨?_,(fu _ w).grown hgr (cK _) (by intro k hk;cases hk)⟩
 obtain⟨A',c',rfl⟩:=hown.form
 have hsl:=hown.sl
 have:=xb (av:=V) hsl.1 hsl.2.1 hsl.2.2.1 (fun b off e hV=>by have:=hown.fresh (k:=w.heap.size) (cK _) b off e;have:=hsee.av b hV;omega)
 show RdC V w' _ (cL e)
 unfold cL
 rw[hl]
 exact this
theorem UL {k:IntKind}{n:Int}
 (hx:dc T x=some (.v (.c (.i k m)))) (hy:dc T y=some (.v (.c (.i k n)))) (h0:n≠0) (hg:gd ops ⟨dst,.binOp .quo xt x y yt,ty,pos,af,g⟩ T=some true):
 Sem P ops ⟨dst,.binOp .quo xt x y yt,ty,pos,af,g⟩ T B (.r (.v (.c (.i k (k.wrap (m.tdiv n)))))):=
 bQ hg (qi rfl) (fun V β a w hs=>by
  have e1:a.eval x=.int k m:=RdC.int_eq (aK hs (x:=x) (by simp[Op.operands]) hx)
  have e2:a.eval y=.int k n:=RdC.int_eq (aK hs (x:=y) (by simp[Op.operands]) hy)
  exact⟨.int k (k.wrap (m.tdiv n)),by simp[execOp,e1,e2,eqGuard,binOp,Op.intDiv,h0],.i _ _⟩)
theorem FD {k:IntKind}{n:Int}
 (hx:dc T x=some (.v (.c (.i k m)))) (hy:dc T y=some (.v (.c (.i k n)))) (h0:n≠0) (hg:gd ops ⟨dst,.binOp .rem xt x y yt,ty,pos,af,g⟩ T=some true):
 Sem P ops ⟨dst,.binOp .rem xt x y yt,ty,pos,af,g⟩ T B (.r (.v (.c (.i k (m.tmod n))))):=
 bQ hg (qi rfl) (fun V β a w hs=>by
  have e1:a.eval x=.int k m:=RdC.int_eq (aK hs (x:=x) (by simp[Op.operands]) hx)
  have e2:a.eval y=.int k n:=RdC.int_eq (aK hs (x:=y) (by simp[Op.operands]) hy)
  exact⟨.int k (m.tmod n),by simp[execOp,e1,e2,eqGuard,binOp,Op.intDiv,h0],.i _ _⟩)
theorem xS {x:Int}(h:RdC av w v (cL x)): ∃A n c,v=.slice A n c∧Sl w A n c (dG x.natAbs)∧(∀b off,0<n→A=some ⟨b,off,none⟩→ ¬av b):=by
 have h1:=h
 unfold cL at h1
 have hf: ∃A n c,v=.slice A n c:=by
  generalize hu:CellD.s (dG x.natAbs).length ((dG x.natAbs).map (CellD.i .u32))=u at h1
  cases h1 with
  |s0 A c _=>exact⟨A,0,c,rfl⟩
  |s b off c sz n=>exact⟨_,n,c,rfl⟩
  |_=>cases hu
 obtain⟨A,n,c,rfl⟩:=hf
 obtain⟨g1,g2,g3,g4⟩:=xv h1
 exact⟨A,n,c,rfl,⟨g1,g2,g3,bZ _⟩,g4⟩
theorem iA {x:Int}(h:Sz k x):(dG x.natAbs).length≤k:=by
 refine(jw x.natAbs).len (bZ _) ?_
 rw[cm];exact Sz.abs.1 h
theorem R4 {c:Nat}{zs:List Int}{b:Nat}(h:Ow w' b (.slice A n c) n zs) (hav: ∀k,av k→k<b):RdC av w' (.slice A n c) (.l (val zs)):=
 .l A n c zs h.sl.1 h.sl.2.1 h.sl.2.2.1 h.sl.2.2.2 (fun b' off _ e hV=>by have:=h.fresh (cK _) b' off e;have:=hav b' hV;omega)
theorem wQ {x y:Int}(hx:Sz 100000000 x) (hy:Sz 100000000 y) (h0:y≠0):Ok Tryz.prog 267 [.c (cL x),.c (cL y)] [.c (.l ((x.natAbs:Int)/y.natAbs)),.c (.l ((x.natAbs:Int)%y.natAbs))]:=⟨by kernel_rfl,fun av vs w hav h=>by
 obtain⟨vs⟩:=vs
 match vs,h.1,h with
 |[v,u],_,h=>
  obtain⟨hv,hu⟩:=h.uncons
  replace hu:=hu.uncons.1
  obtain⟨A,n,c,rfl,ha,_⟩:=xS hv
  obtain⟨B,m,d,rfl,hb,_⟩:=xS hu
  have:=ha.len
  have:=hb.len
  have:=iA hx
  have:=iA hy
  refine(J3 A B n c m d _ _ w ha hb (by omega) (by omega) (by rw[cm];omega)).mono ?_
  rintro e w' ⟨A',n',c',zs,B',m',d',ys,rfl,h1,h2,h3,h4,h5⟩
  rw[cm,cm] at h2 h4
  refine⟨_,rfl,⟨_,rfl,tY ?_ (tY ?_ RdL.nil)⟩,h5⟩
  ·rw[←h2];exact R4 h1 hav
  ·rw[←h4];exact R4 h3 hav⟩
theorem mu {neg:Bool}{x:Int}:Ok Tryz.prog 207 [.c (.b neg),.c (.l x)] [dI (sg neg x)]:=⟨by kernel_rfl,fun av vs w hav h=>by
 obtain⟨vs⟩:=vs
 match vs,h.1,h with
 |[v,u],_,h=>
  obtain⟨hv,hu⟩:=h.uncons
  replace hu:=hu.uncons.1
  obtain rfl:=RdC.bool_eq hv
  have hu0:RdC av w u (.l x):=hu
  generalize hq:CellD.l x=q at hu0
  cases hu0 with
  |l A n c xs h0 h1 h2 h3 h4=>
   injection hq with hq
   subst hq
   have hsl:Sl w A n c xs:=⟨h0,h1,h2,h3⟩
   refine(kK neg A n c xs w hsl).mono ?_
   rintro e w' ⟨rfl,hb⟩
   refine⟨_,rfl,?_,hb⟩
   have hi:=(iK hsl neg).below hb
   obtain⟨xs',g1,g2,g3,g4⟩:=id hi
   rcases jZ (trm xs).length with hz|hz
   ·have e0:trm xs=[]:=lJ.1 hz
    have ev:val xs=0:=by rw[←jc,e0];rfl
    rw[hz] at hi⊢
    have hsv:sg neg (val xs)=0:=by rw[ev];cases neg<;>rfl
    rw[hsv]
    refine⟨_,rfl,u6 ?_ (u6 ?_ tJ)⟩
    ·simp;exact .b _
    ·unfold cL
     rw[show(0:Int).natAbs=0 from rfl,lC]
     exact .s0 A 0 (by omega)
   ·have hn:0<n:=by have:=sb xs;have:=h0.len;omega
    exact HA hi (fun b off e=>h4 b off hn e)
  |_=>cases hq⟩
theorem si {neg:Bool}{x:Int}:Ok Tryz.prog 207 [.c (.b neg),.c (cL x)] [dI (sg neg x.natAbs)]:=⟨mu (neg:=neg) (x:=x.natAbs)|>.cal,fun av vs w hav h=>by
 refine mu.run av vs w hav ⟨h.1,fun j v d hv hd=>?_⟩
 match j,hd with
 |0,hd=>exact h.2 0 v d hv hd
 |1,hd=>
  injection hd with hd
  subst hd
  obtain⟨A,n,c,rfl,hs,hav'⟩:=xS (h.2 1 v _ hv rfl)
  have:=RdC.l (av:=av) A n c _ hs.1 hs.2.1 hs.2.2.1 hs.2.2.2 hav'
  rw[cm] at this
  exact this
 |j+2,hd=>cases hd⟩
theorem Nx {u:Int}(h0:0≤u) (h1:u≤18446744073709551615):Ok Tryz.prog 211 [.c (.i .u64 u)] [.c (.l u)]:=⟨by kernel_rfl,fun av vs w hav h=>by
 obtain⟨vs⟩:=vs
 match vs,h.1,h with
 |[v],_,h=>
  obtain rfl:=RdC.int_eq h.uncons.1
  refine(zu u w h0 h1 (by omega)).mono ?_
  rintro e w' ⟨A,c,zs,rfl,g1,g2,g3⟩
  exact⟨_,rfl,by rw[←g2];exact R4 g1 hav,g3⟩⟩
theorem Gi {x:Int}:Ok Tryz.prog 266 [dI x] [.c (.i .u64 (if x.natAbs<1000000000000000000 then x.natAbs else 0)),.c (.b (decide (x.natAbs<1000000000000000000)))]:=⟨by kernel_rfl,fun av vs w hav h=>by
 obtain⟨vs⟩:=vs
 match vs,h.1,h with
 |[v],_,h=>
  obtain⟨cs,hcs,hr⟩:=h.uncons.1
  subst hcs
  obtain⟨cs⟩:=cs
  match cs,hr.1,hr with
  |[a,b],_,hr=>
   obtain⟨h1,hr⟩:=hr.uncons
   have h2:=hr.uncons.1
   obtain rfl:=RdC.bool_eq h1
   obtain⟨A,n,c,rfl,hs,_⟩:=xS h2
   have hl:=hs.len
   have hp2:pw 2=1000000000000000000:=by decide
   by_cases hn:n≤2
   ·have hlt:x.natAbs<1000000000000000000:=by
     have h1:=fS (bZ x.natAbs)
     rw[cm] at h1
     have h3:=mJ (n:=(dG x.natAbs).length) (m:=2) (by omega)
     omega
    have hfin: ∀(e:Ending) (w':World),e=.returned (.tuple #[.int .u64 (val (dG x.natAbs)),.bool true])∧Below w.heap.size w w'→ ∃v,e=.returned v∧VX av w' v [.c (.i .u64 (if x.natAbs<1000000000000000000 then x.natAbs else 0)),.c (.b (decide (x.natAbs<1000000000000000000)))]∧Below w.heap.size w w':=by
     rintro e w' ⟨rfl,hb⟩
     refine⟨_,rfl,⟨_,rfl,tY ?_ (tY ?_ RdL.nil)⟩,hb⟩
     ·rw[if_pos hlt,cm];exact .i _ _
     ·rw[show decide (x.natAbs<1000000000000000000)=true from by simpa using hlt];exact .b _
    by_cases hn1:n≤1
    ·exact(QG _ A n c _ w hs hn1).mono hfin
    ·obtain rfl:n=2:=by omega
     exact(OI _ A c _ w hs).mono hfin
   ·have hge: ¬x.natAbs<1000000000000000000:=by
     have hne:dG x.natAbs≠ []:=fun e=>by rw[e] at hl;simp at hl;omega
     have h1:=(jw x.natAbs).ge (bZ _) hne
     rw[cm] at h1
     have h3:=mJ (n:=2) (m:=(dG x.natAbs).length-1) (by omega)
     omega
    refine(Mf _ A n c w (by omega)).mono ?_
    rintro e w' ⟨rfl,hb⟩
    refine⟨_,rfl,⟨_,rfl,tY ?_ (tY ?_ RdL.nil)⟩,hb⟩
    ·rw[if_neg hge];exact .i _ _
    ·rw[show decide (x.natAbs<1000000000000000000)=false from by simpa using hge];exact .b _⟩
end
end Go.Proofs.YtkmdgigkbhmilaaGreat
