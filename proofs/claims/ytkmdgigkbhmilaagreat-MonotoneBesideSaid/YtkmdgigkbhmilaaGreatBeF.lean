/-Data:slices:made,indexed,sliced,appended to. -/
import Derived.Test.YtkmdgigkbhmilaaGreatBeE
import Derived.Laws.MakeOwn
import Derived.Deep.AppendSrc
import Derived.Great.BuildSlice
import Derived.Test.YtkmdgigkbhmilaaGreatProg
namespace Go.Proofs.YtkmdgigkbhmilaaGreat
open Go Go.RowKit
variable {ops:Array Oper}{B:BF}{op:BinOp}{z:CellD}{c:Code}{Q:Exit→St→Prop}{a b d j r u y:Int}{kc ki kk kl:IntKind}{tm:List (Nat×DV)}{bx nb:List (Nat×TypeId×List CellD)}{cs us zs:List CellD}{rs xs ys:List Int}{hs sd:List Nat}{l os pre tail:List Oper}{N by_ c' i id k m n n' q:Nat}{ax fo h x:Operand}{P:Program}{K:St→Prop}{T:TF}{U W e t1 t2 xt yt:TypeId}{v:Value}
variable {ty:TypeId}{pos:String}{af:Array Edge}{g:Option (Nat×Bool)}{dst:Option Nat}
theorem jX:type_of% @RdC.int_eq:=@RdC.int_eq
theorem lk:type_of% @Int.tmod_eq_emod_of_nonneg:=@Int.tmod_eq_emod_of_nonneg
theorem pt:type_of% @List.map_cons:=@List.map_cons
theorem pf:type_of% @Int.fdiv_eq_ediv_of_nonneg:=@Int.fdiv_eq_ediv_of_nonneg
theorem rZ:type_of% @Nat.le_of_eq:=@Nat.le_of_eq
theorem tz:type_of% @Nat.mul_le_mul_right:=@Nat.mul_le_mul_right
theorem tF:type_of% @Nat.add_mul:=@Nat.add_mul
theorem tN:type_of% @Bool.cond_eq_ite:=@Bool.cond_eq_ite
theorem uh:type_of% @List.map_toArray:=@List.map_toArray
theorem uR:type_of% @List.map_nil:=@List.map_nil
theorem q6:type_of% @Int.mul_ediv_add_emod:=@Int.mul_ediv_add_emod
theorem xy:type_of% @Array.toList_map:=@Array.toList_map
theorem zo:type_of% @Int.eq_ofNat_of_zero_le:=@Int.eq_ofNat_of_zero_le
def ua (P:Program) (U:TypeId):Option (TypeId×Nat×Nat×List CellD):=
 match P.underlying U with
 |some (.slice e)=>match P.info? e,CW P e with
  |some i,some zs=>if Nat.beq i.size zs.length then some (e,i.size,i.bytes,zs) else none
  |_,_=>none
 |_=>none
section
variable {P:Program}{ops:Array Oper}{o:Oper}{T:TF}{B:BF}{V:Nat→Prop}{β:Nat→Nat}{a:Act}{w w':World}{av:Nat→Prop}
theorem jh (h:ua P U=some (e,m,by_,zs)):P.underlying U=some (.slice e)∧ ∃i z,P.info? e=some i∧i.zero=some z∧i.size=m∧i.bytes=by_∧zs.length=m∧ ∀(V:Nat→Prop) (w:World),RdCs V w z.cells.toList zs:=by
 unfold ua at h
 split at h
 ·rename_i e' hu
  split at h
  ·rename_i i zs' hi hz
   split at h
   ·rename_i hb
    injection h with h
    injection h with h1 h
    injection h with h2 h
    injection h with h3 h4
    subst h1 h2 h3 h4
    have hzc:=hz
    unfold CW at hzc
    rw[hi] at hzc
    dsimp only at hzc
    cases hz0:i.zero with
    |none=>rw[hz0] at hzc;cases hzc
    |some z=>
     refine⟨hu,i,z,hi,hz0,rfl,rfl,(jr hb).symm,fun V w=>?_⟩
     obtain⟨it,z',hi',hz',hr⟩:=yW (V:=V) (w:=w) hz
     grind
   grind
  grind
 grind
theorem n7 {l c:Operand}
 (hU:ua P U=some (e,1,by_,[z])) (hl:dc T l=some (.v (.c (.i kl n)))) (hc:dc T c=some (.v (.c (.i kc n)))) (hb:by_*n≤281474976710656) (h63:n≤9223372036854775807)
 (hg:gd ops ⟨dst,.makeSlice U l c,ty,pos,af,g⟩ T=some true):Sem P ops ⟨dst,.makeSlice U l c,ty,pos,af,g⟩ T B (.a e (List.replicate n z) (some n)):=fun V β a w hs=>⟨fa hs hg,by
 obtain⟨hu,i,zv,hi,hz,hsz,hby,_,hr⟩:=jh hU
 have e1:a.eval l=.int kl n:=jX (aK hs (x:=l) (by simp[Op.operands]) hl)
 have e2:a.eval c=.int kc n:=jX (aK hs (x:=c) (by simp[Op.operands]) hc)
 have hrun:=run_make (P:=P) w U e i zv hu hi hz kl kc n n (by omega) (by omega) (by rw[hby];have h2:((by_*n:Nat):Int)≤281474976710656:=Int.ofNat_le.2 hb;rw[Int.natCast_mul] at h2;exact h2) (by omega)
 have hrr:=hr V w
 unfold Gives
 have:(execOp a.eval ⟨dst,.makeSlice U l c,ty,pos,af,g⟩).run P w=.ok (.value (.slice (some ⟨w.heap.size,0,none⟩) n n)) (w.alloc (.cells (madeCells zv.cells (n*1)) e)):=by
  simp only[execOp,e1,e2,fI,hrun,fM,gG,hsz]
  simp
 rw[this]
 refine⟨_,rfl,rfl,by simp[madeCells],fun j v u hv hu=>?_⟩
 have hlen:zv.cells.size=1:=by have:=hrr.1;simpa using this
 simp only[madeCells,Nat.mul_one,hlen,Nat.mod_one,xy,Array.toList_range,ug] at hv
 cases hq:(List.range n)[j]? with
 |none=>rw[hq] at hv;cases hv
 |some q=>
  rw[hq] at hv
  injection hv with hv
  have hu2:u=z:=by grind
  subst hu2
  have hpos:0<zv.cells.size:=by omega
  have h0:zv.cells.toList[0]? =some (zv.cells[0]'hpos):=by grind
  have:=hrr.2 0 _ u h0 rfl
  rw[←hv]
  have e3:zv.cells[0]! =zv.cells[0]'hpos:=by grind
  rw[e3];exact this⟩
theorem f6 {c:Nat}
 (hU:wF P U=some m) (hx:dc T x=some (.o k n c)) (hg:gd ops ⟨dst,.call ⟨.builtin .len,#[x],#[U]⟩,ty,pos,af,g⟩ T=some true):
 Sem P ops ⟨dst,.call ⟨.builtin .len,#[x],#[U]⟩,ty,pos,af,g⟩ T B (.r (.v (.c (.i .i64 n)))):=
 bQ hg (qi rfl) (fun V β a w hs=>by
  have e:a.eval x=.slice (some ⟨β k,0,none⟩) n c:=aK hs (x:=x) (by simp[Op.operands,Call.operands]) hx
  unfold wF at hU
  split at hU
  ·rename_i el hu
   refine⟨.int .i64 n,?_,.i _ _⟩
   simp[execOp,resolve,invoke,builtin,Builtin.len_,e,run_underlying hu,goInt]
  ·cases hU)
theorem bq {i:Operand}{c:Nat}
 (hU:wF P U=some m) (hx:dc T x=some (.o k n c)) (hi:dc T i=some (.v (.c (.i ki j)))) (hj:0≤j∧j<n) (hg:gd ops ⟨dst,.indexAddr U x i,ty,pos,af,g⟩ T=some true):
 Sem P ops ⟨dst,.indexAddr U x i,ty,pos,af,g⟩ T B (.r (.p k (j.toNat*m))):=
 bQ hg (fun k' e=>by
  obtain rfl:k=k':=by injection e
  exact qR (ops:=ops) (o:=⟨dst,.indexAddr U x i,ty,pos,af,g⟩) (by simp[Op.operands]) hx rfl) (fun V β a w hs=>by
  have e:a.eval x=.slice (some ⟨β k,0,none⟩) n c:=aK hs (x:=x) (by simp[Op.operands]) hx
  have h2:=jX (aK hs (x:=i) (by simp[Op.operands]) hi)
  unfold wF at hU
  split at hU
  case h_2=>cases hU
  rename_i el hul
  cases hinf:P.info? el with
  |none=>rw[hinf] at hU;cases hU
  |some inf=>
   rw[hinf] at hU
   simp at hU
   refine⟨.pointer (some ⟨β k,j.toNat*m,none⟩),?_,rfl⟩
   have hso: ∀w,(sizeOf el).run P w=.ok m w:=fun w=>by unfold sizeOf typeInfo;simp[program,Sem.run,hinf,hU]
   simp[execOp,Instr.indexAt,e,h2,asIntOf,run_underlying hul,hj.1,hj.2,hso,lQ])
theorem mx {xs:List CellD}
 (hU:wF P U=some m) (hx:dc T x=some (.v (.c (.s n xs)))) (hh:dc T h=some (.v (.c (.i ki j)))) (hj:0≤j∧j≤n) (hl:xs.length=n*m) (hu:xs.take (j.toNat*m)=us) (hg:gd ops ⟨dst,.slice U x none (some h) none,ty,pos,af,g⟩ T=some true):
 Sem P ops ⟨dst,.slice U x none (some h) none,ty,pos,af,g⟩ T B (.r (.v (.c (.s j.toNat us)))):=
 bQ hg (qi rfl) (fun V β a w hs=>by
  have h1:=aK hs (x:=x) (by simp[Op.operands]) hx
  have h2:=jX (aK hs (x:=h) (by simp[Op.operands]) hh)
  generalize hv:a.eval x=v at h1
  have h1:RdC V w v (.s n xs):=h1
  unfold wF at hU
  split at hU
  case h_2=>cases hU
  rename_i el hul
  cases hinf:P.info? el with
  |none=>rw[hinf] at hU;cases hU
  |some inf=>
   rw[hinf] at hU
   simp at hU
   have hso: ∀w,(sizeOf el).run P w=.ok m w:=fun w=>by unfold sizeOf typeInfo;simp[program,Sem.run,hinf,hU]
   have hgen: ∀(A:Option Addr) (c:Nat),a.eval x=.slice A n c→j≤c→(execOp a.eval ⟨dst,.slice U x none (some h) none,ty,pos,af,g⟩).run P w=.ok (.value (.slice A j.toNat c)) w:=by
    intro A c e hjc
    simp[execOp,Instr.sliceAt,Instr.slice,run_underlying hul,e,h2,Instr.sliceBounds,Instr.sliceBound,asIntOf,hj.1,hjc,hso,Addr.add]
    try (cases A<;>rfl)
   cases h1 with
   |s0 A c hc=>
    grind
   |s b off c sz _ _ cv h0 hnc hcm hlen hb hav hc hr=>
    have hsz:sz=m:=by
     rw[hl] at hlen
     exact(Fk h0 hlen).symm
    refine⟨_,hgen _ c hv (by omega),?_⟩
    rcases jZ j.toNat with hj0|hj0
    ·rw[←hu,hj0];simp;exact .s0 _ c hcm
    ·have hjn:j.toNat≤n:=by omega
     have hmul:j.toNat*sz≤n*sz:=tz _ hjn
     refine .s b off c sz j.toNat us cv hj0 (by omega) hcm ?_ hb hav (fun q hq=>hc q (by omega)) (fun q u hq=>?_)
     ·grind
     ·rw[←hu,qA] at hq
      split at hq
      ·grind
      ·cases hq)
end
section
variable {P:Program}{ops:Array Oper}{o:Oper}{T:TF}{B:BF}{V:Nat→Prop}{β:Nat→Nat}{a:Act}{w w':World}{av:Nat→Prop}
theorem RK {vs:List Value}(h:RdCs V w vs us): ∀v∈vs,v.oneCell'=true:=by
 intro v hv
 obtain⟨j,hj⟩:=List.getElem?_of_mem hv
 have hlt:j<us.length:=by rw[←h.1];exact(jU.1 hj).1
 have:=h.2 j v _ hj (j7 hlt)
 generalize us[j]=u at this
 cases this<;>rfl
theorem JA {xs:List CellD}(h:RdC V w v (.s n xs)) (hl:xs.length=n*m):
 ∃(A:Option Addr) (c:Nat) (vs:List Value),v=.slice A n c∧RdCs V w vs xs∧(∀(j:Nat) (u:Value),vs[j]? =some u→ ∃b off,A=some ⟨b,off,none⟩∧w.cell? ⟨b,off+j,none⟩=some u):=by
 generalize hu:CellD.s n xs=u at h
 cases h with
 |s0 A c hc=>
  injection hu with h1 h2
  subst h1 h2
  exact⟨A,c,[],rfl,tJ,fun j u hj=>by simp at hj⟩
 |s b off c sz n' xs' cv h0 hnc hcm hlen hb hav hcell hr=>
  injection hu with h1 h2
  subst h1 h2
  refine⟨_,c,(List.range (n*sz)).map cv,rfl,⟨by simp[hlen],fun j v u hv hu=>?_⟩,fun j u hj=>?_⟩
  ·grind
  grind
 |_=>cases hu
theorem rf {xs:List CellD}(hU:ua P U=some (e,m,by_,zs)) (h:RdC V w v (.s n xs)) (hl:xs.length=n*m): ∃news,Src P m U v n news w∧RdCs V w news xs:=by
 obtain⟨A,c,vs,rfl,hr,hc⟩:=JA h hl
 obtain⟨hu,_⟩:=jh hU
 have hlen:vs.length=n*m:=by rw[hr.1,hl]
 have hcells: ∀w',(∀a:Addr,w'.cell? a=w.cell? a)→(Builtin.firstCells m n (.slice A n c)).run P w'=.ok vs.toArray w':=by
  intro w' hw
  cases A with
  |none=>
   have:vs=[]:=by
    cases vs with
    |nil=>rfl
    |cons u us=>obtain⟨b,off,e,_⟩:=hc 0 u rfl;cases e
   subst this;rfl
  |some A=>
   have:=run_loadCells_list (P:=P) w' A vs (fun j u hj=>by
    obtain⟨b,off,e,hcell⟩:=hc j u hj
    injection e with e
    subst e
    rw[lQ,hw];exact hcell)
   rw[hlen] at this
   exact this
 exact⟨vs,⟨.inl ⟨e,hu⟩,fun _=>rfl,hcells w (fun _=>rfl),hcells w.drew (fun _=>rfl),hlen,RK hr⟩,hr⟩
theorem xB {y:Operand}{c:Nat}{ys:List CellD}
 (hU:ua P U=some (e,m,by_,zs)) (hx:dc T x=some (.o k n c)) (hy:dc T y=some (.v (.c (.s q ys)))) (hb:B k=some (e,cs)) (hcs:cs.length=c*m) (hys:ys.length=q*m) (hm:0<m)
 (hgrow:c<n+q) (hnc:n≤c) (hbytes:(n+q)*by_≤140737488355328) (h63:n+q≤maxLen) (hus:cs.take (n*m)++ys=us)
 (hg:gd ops ⟨dst,.call ⟨.builtin .append,#[x,y],#[U,U]⟩,ty,pos,af,g⟩ T=some true):
 Sem P ops ⟨dst,.call ⟨.builtin .append,#[x,y],#[U,U]⟩,ty,pos,af,g⟩ T B (.c k (.v (.c (.s (n+q) us)))):=by
 refine⟨rfl,by rw[hb];simp,fun V β a w hs=>⟨fa hs hg,?_⟩⟩
 have e1:a.eval x=.slice (some ⟨β k,0,none⟩) n c:=aK hs (x:=x) (by simp[Op.operands,Call.operands]) hx
 have h2:RdC V w (a.eval y) (.s q ys):=aK hs (x:=y) (by simp[Op.operands,Call.operands]) hy
 obtain⟨news,hsrc,hrn⟩:=rf hU h2 hys
 obtain⟨hu,i,z,hi,hz,hsz,hby,_,hzr⟩:=jh hU
 obtain⟨hvk,vs,ev,hr⟩:=hs.box k e cs hb
 subst hsz
 have hle:n*i.size≤cs.length:=by rw[hcs];exact tz _ hnc
 have hr2:=hr.take (n*i.size)
 have hlen:(vs.toList.take (n*i.size)).length=n*i.size:=by rw[hr2.1,fQ];omega
 have hold:(Builtin.firstCells i.size n (.slice (some ⟨β k,0,none⟩) n c)).run P w.drew=.ok (vs.toList.take (n*i.size)).toArray w.drew:=by
  have:=run_loadCells_list (P:=P) w.drew ⟨β k,0,none⟩ (vs.toList.take (n*i.size)) (fun j u hj=>by
   rw[lQ,ip]
   show w.cell? _=_
   rw[qA] at hj
   split at hj
   ·rw[dk ev,←hj];simp
   ·cases hj)
  rw[hlen] at this
  exact this
 have hrun:=run_append_grow_src (P:=P) (w:=w) U U ty e i z hu hi hz (some ⟨β k,0,none⟩) n c _ hold (a.eval y) q news hsrc hgrow (by have:maxLen=9223372036854775807:=rfl;omega) (growslice_fits hgrow (by rw[hby];exact hbytes))
 have hexec:(execOp a.eval ⟨dst,.call ⟨.builtin .append,#[x,y],#[U,U]⟩,ty,pos,af,g⟩).run P w=.ok (.value (.slice (some ⟨w.heap.size,0,none⟩) (n+q) (grownCap w (n+q) c e)))
  (w.drew.alloc (.cells ((vs.toList.take (n*i.size)++news).toArray++Builtin.zeroCells z.cells (grownCap w (n+q) c e-(n+q))) e)):=by
  simp only[execOp,resolve,invoke,builtin,fI,gG,fM,uh,pt,uR,e1]
  rw[hrun]
  rfl
 unfold Gives
 rw[hexec]
 have hbel:Below w.heap.size w (w.drew.alloc (.cells ((vs.toList.take (n*i.size)++news).toArray++Builtin.zeroCells z.cells (grownCap w (n+q) c e-(n+q))) e)):=(fu _ w).drew.alloc (cK _) _
 refine⟨?_,hbel⟩
 have hkeep:Keep V (fun b=>V b∧b≠β k) w (w.drew.alloc (.cells ((vs.toList.take (n*i.size)++news).toArray++Builtin.zeroCells z.cells (grownCap w (n+q) c e-(n+q))) e)):=⟨hbel.size,fun b hb _=>hbel.block b hb,fun _ _ h=>h.1⟩
 have hrd:=(lP hr2 hrn).keep hkeep
 rw[hus] at hrd
 have hlenr:(vs.toList.take (n*i.size)++news).length=(n+q)*i.size:=by rw[fp,hlen,hsrc.newsLen,tF]
 refine .s w.heap.size 0 (grownCap w (n+q) c e) i.size (n+q) us (fun j=>(vs.toList.take (n*i.size)++news).getD j undef) (by omega) (grownCap_ge _ _ _ _) ?_ (by rw[←hrd.1];exact hlenr) (by simp) (fun h=>by have:=hs.av _ h.1;omega) (fun j hj=>?_) (fun j u hj=>?_)
 ·exact grownCap_le_maxLen _ _ _ _ h63
 ·have hlt:j<(vs.toList.take (n*i.size)++news).length:=by omega
  rw[ip]
  show(w.drew.alloc _).cell? ⟨w.drew.heap.size,j,none⟩=_
  rw[dk (U:=e) (vs:=(vs.toList.take (n*i.size)++news).toArray++Builtin.zeroCells z.cells (grownCap w (n+q) c e-(n+q))) (heap_alloc_new w.drew _)]
  grind
 ·have hlt:j<(vs.toList.take (n*i.size)++news).length:=by rw[hrd.1];exact(jU.1 hj).1
  have hv:(vs.toList.take (n*i.size)++news)[j]? =some ((vs.toList.take (n*i.size)++news)[j]):=by grind
  simp only[List.getD,hv,Option.getD_some]
  exact hrd.2 j _ u hv hj
theorem jC {ps:Array (Nat×Operand)}{dps:List (Nat×D0)}
 (hU:ua P U=some (e,m,by_,zs)) (hp:vC T ps.toList=some dps) (hf:wE (fun i=>some (i*m,m)) (List.replicate n zs).flatten dps=some us) (hn:n*m≤16777216) (hm:0<n*m)
 (hg:gd ops ⟨dst,.buildSlice U n ps,ty,pos,af,g⟩ T=some true):Sem P ops ⟨dst,.buildSlice U n ps,ty,pos,af,g⟩ T B (.a e us (some n)):=fun V β a w hs=>⟨fa hs hg,by
 obtain⟨hu,i,z,hi,hz,hsz,hby,hzl,hzr⟩:=jh hU
 obtain⟨h1,h2⟩:=sy hs ps.toList dps (fun p hp=>by simp only[Op.operands,List.mem_toArray,vf];exact⟨p,hp,rfl⟩) hp
 subst hsz
 have hzs:z.cells.size=i.size:=by have:=(hzr V w).1;rw[hzl] at this;simpa using this
 have hzero:RdCs V w ((Array.range (n*i.size)).map (z.cells[· %z.cells.size]!)).toList (List.replicate n zs).flatten:=by
  have key: ∀(n:Nat),RdCs V w ((List.range (n*i.size)).map (fun j=>z.cells[j%z.cells.size]!)) (List.replicate n zs).flatten:=by
   intro n
   induction n with
   |zero=>simp;exact tJ
   |succ n ih=>
    rw[Nat.succ_mul,List.range_add,List.map_append,List.replicate_succ',List.flatten_append]
    refine lP ih ?_
    have e2:(List.map (fun x=>n*i.size+x) (List.range i.size)).map (fun j=>z.cells[j%z.cells.size]!)=z.cells.toList:=by
     apply List.ext_getElem (by simp[hzs])
     intro j h1 h2
     simp at h1
     simp only[List.getElem_map,List.getElem_range,hzs]
     rw[Nat.mul_comm n,Nat.mul_add_mod,Nat.mod_eq_of_lt (by omega),getElem!_pos z.cells j (by omega)]
     simp
    grind
  have:=key n
  simpa using this
 obtain⟨cells,hfl,hrd⟩:=xg _ dps _ _ us h1 h2 hzero hf
 have hrun:=run_buildSlice (P:=P) w U e n (ps.map fun(i,x)=>(i,a.eval x)) cells i z hu hi hz (by have:(2:Nat)^24=16777216:=rfl;omega) (by omega) (by simpa using hfl)
 unfold Gives
 have:(execOp a.eval ⟨dst,.buildSlice U n ps,ty,pos,af,g⟩).run P w=.ok (.value (.slice (some ⟨w.heap.size,0,none⟩) n n)) (w.alloc (.cells cells e)):=by
  simp only[execOp,fI,hrun,fM,gG]
 rw[this]
 exact⟨cells,rfl,rfl,hrd⟩⟩
end
section
variable {P:Program}{σ:St}{Q:Exit→St→Prop}
theorem Rel.upd {av:Nat→Prop}{w0:Ent}{w:World}{β:Nat→Nat}{a:Act}(h:Rel av w0 n T B β a w) {t:Nat}{x:DV}(hv:a.tmps[t]? =some v)
 (hx:RdX (fun b=>av b∨ ∃k,B k≠none∧β k=b) w β v x) (hr:kg x=none):Rel av w0 n (fun s=>if t=s then some x else T s) B β a w:=
 ⟨h.dfr,h.siz,h.bel,h.avl,h.avE,h.big,h.fix,h.inj,h.own,fun s y k hs hy=>by
  try dsimp only at hs
  split at hs
  ·injection hs with hs;subst hs;rw[hr] at hy;cases hy
  ·exact h.wf s y k hs hy,h.sees.av,h.sees.box,fun s y hL hs=>by
  try dsimp only at hs
  split at hs
  ·rename_i e;injection hs with hs;subst hs;subst e;exact⟨v,hv,hx⟩
  ·exact h.sees.tmp s y hL hs⟩
theorem jd {ι:Type}{x y:Code}(J:ι→St) (h1:Dw P x σ (D3 (fun σ'=> ∃j,Sub σ' (J j)) Q)) (h2: ∀j,Dw P y (J j) Q):Dw P (.seq x y) σ Q:=by
 refine aa (h1.mono fun e σ' h=>?_)
 cases e with
 |normal=>obtain⟨j,hs⟩:=h;exact(h2 j).weak hs
 |_=>exact h
theorem dj {t:Nat}
 (ht:aM t tm=some (.o k n' c')) (hb:aM k bx=some (U,cs)) (hm:cs.length=c'*m) (hn:n'≤c') (hc:c'≤9223372036854775807) (hu:cs.take (n'*m)=us)
 (h:Dw P c ⟨N,(t,.v (.c (.s n' us)))::lN k tm,kz k bx⟩ Q):Dw P c ⟨N,tm,bx⟩ Q:=fun av w0 β a w hr=>by
 obtain⟨v,hv,hx⟩:=hr.sees.tmp t _ trivial ht
 have hx:v=.slice (some ⟨β k,0,none⟩) n' c':=hx
 subst hx
 obtain⟨hvk,vs,ev,hrd⟩:=hr.sees.box k U cs hb
 have hk0:(St.B ⟨N,tm,bx⟩) k≠none:=by rw[show(St.B ⟨N,tm,bx⟩) k=some (U,cs) from hb];simp
 have e:=FV hr hk0
 have hkeep:Keep (fun b=>av b∨ ∃l,(St.B ⟨N,tm,bx⟩) l≠none∧β l=b) (fun b=>(av b∨ ∃l,(St.B ⟨N,tm,bx⟩) l≠none∧β l=b)∧b≠β k) w w:=⟨Nat.le_refl _,fun _ _ _=>rfl,fun _ _ h=>h.1⟩
 have hle:n'*m≤cs.length:=by rw[hm];exact tz _ hn
 have hread:RdC (fun b=>(av b∨ ∃l,(St.B ⟨N,tm,bx⟩) l≠none∧β l=b)∧b≠β k) w (.slice (some ⟨β k,0,none⟩) n' c') (.s n' us):=by
  rcases jZ n' with h0|h0
  ·subst h0
   rw[←hu];simp
   exact .s0 _ _ hc
  ·have hr2:=(hrd.take (n'*m)).keep hkeep
   rw[hu] at hr2
   have hvl:n'*m≤vs.size:=by have:=hrd.1;simp at this;omega
   refine .s (β k) 0 c' m n' us (fun j=>vs.getD j undef) h0 hn hc ?_ (hr.sees.av _ hvk) (fun h=>h.2 rfl) (fun j hj=>?_) (fun j u hj=>?_)
   ·grind
   ·rw[ip,dk ev]
    have:j<vs.size:=by omega
    simp[Array.getD,this]
   ·have hlt:j<us.length:=(jU.1 hj).1
    have hlt2:j<n'*m:=by grind
    refine hr2.2 j _ u ?_ hj
    rw[qA,if_pos hlt2,sT]
    have:j<vs.size:=by omega
    simp[Array.getD,this]
 have h2:=(hr.drop k).upd (t:=t) (x:=.v (.c (.s n' us))) hv (by rw[e];exact hread) rfl
 refine h av w0 β a w (h2.congr (fun s=>?_) (fun l=>?_))
 ·show aM s ((t,.v (.c (.s n' us)))::lN k tm)=_
  rw[bl]
  split
  ·rfl
  ·rw[mp]
   show _=nP k (fun s=>aM s tm) s
   unfold nP
   grind
 ·exact kG k l bx
end
section
variable {P:Program}{ops:Array Oper}{T:TF}{B:BF}{dst:Option Nat}{x y c:Operand}{ty U W xt yt:TypeId}{pos:String}{af:Array Edge}{g:Option (Nat×Bool)}{dv:DV}{k off n m:Nat}{cs us:List CellD}{u:CellD}
theorem bp (h:(dc T x,gd ops ⟨dst,.move x,ty,pos,af,g⟩ T)=(some dv,some true)):Sem P ops ⟨dst,.move x,ty,pos,af,g⟩ T B (.r dv):=GR (congrArg Prod.fst h) (congrArg Prod.snd h)
theorem bW (hU:qf P U=some (false,n)) (h:(dc T x,B k,cs[off]?,gd ops ⟨dst,.load U x,ty,pos,af,g⟩ T)=(some (.p k off),some (W,cs),some u,some true)):Sem P ops ⟨dst,.load U x,ty,pos,af,g⟩ T B (.r (.v (.c u))):=
 cT hU (congrArg Prod.fst h) (congrArg (fun q=>q.2.1) h) (congrArg (fun q=>q.2.2.1) h) (congrArg (fun q=>q.2.2.2) h)
theorem ji (us:List CellD) (hU:qf P U=some (true,n)) (h:(dc T x,B k,(cs.drop off).take n,us.length,gd ops ⟨dst,.load U x,ty,pos,af,g⟩ T)=(some (.p k off),some (W,cs),us,n,some true)):Sem P ops ⟨dst,.load U x,ty,pos,af,g⟩ T B (.r (.v (.a us))):=
 aV hU (congrArg Prod.fst h) (congrArg (fun q=>q.2.1) h) (congrArg (fun q=>q.2.2.1) h) (congrArg (fun q=>q.2.2.2.1) h) (congrArg (fun q=>q.2.2.2.2) h)
theorem dx (us:List CellD) (hU:qf P U=some (true,n)) (h:(dc T x,B k,us.length,gd ops ⟨dst,.load U x,ty,pos,af,g⟩ T)=(some (.p k off),some (W,cs),n,some true)) (hu:(cs.drop off).take n=us):Sem P ops ⟨dst,.load U x,ty,pos,af,g⟩ T B (.r (.v (.a us))):=
 aV hU (congrArg Prod.fst h) (congrArg (fun q=>q.2.1) h) hu (congrArg (fun q=>q.2.2.1) h) (congrArg (fun q=>q.2.2.2) h)
theorem gC (hU:qf P U=some (true,n)) (h:(dc T x,B k,cs.length,gd ops ⟨dst,.load U x,ty,pos,af,g⟩ T)=(some (.p k 0),some (W,cs),n,some true)):Sem P ops ⟨dst,.load U x,ty,pos,af,g⟩ T B (.r (.v (.a cs))):=
 aV hU (congrArg Prod.fst h) (congrArg (fun q=>q.2.1) h) (by rw[tR];exact iB (rZ (congrArg (fun q=>q.2.2.1) h))) (congrArg (fun q=>q.2.2.1) h) (congrArg (fun q=>q.2.2.2) h)
theorem cD (hn:us.length=n) (hU:qf P U=some (true,n)) (h:(dc T x,B k,gd ops ⟨dst,.load U x,ty,pos,af,g⟩ T)=(some (.p k 0),some (W,us),some true)):Sem P ops ⟨dst,.load U x,ty,pos,af,g⟩ T B (.r (.v (.a us))):=
 aV hU (congrArg Prod.fst h) (congrArg (fun q=>q.2.1) h) (by rw[tR];exact iB (rZ hn)) hn (congrArg (fun q=>q.2.2) h)
theorem cr {e:Int}(r:Int) (hb:BV op kk a e=some r) (h:(dc T x,dc T y,gd ops ⟨dst,.binOp op xt x y yt,ty,pos,af,g⟩ T)=(some (.v (.c (.i kk a))),some (.v (.c (.i kk e))),some true)):Sem P ops ⟨dst,.binOp op xt x y yt,ty,pos,af,g⟩ T B (.r (.v (.c (.i kk r)))):=
 gI (congrArg Prod.fst h) (congrArg (fun q=>q.2.1) h) hb (congrArg (fun q=>q.2.2) h)
theorem fe {e:Int}{b:Bool}(h:(dc T x,dc T y,Tn op a e,gd ops ⟨dst,.binOp op xt x y yt,ty,pos,af,g⟩ T)=(some (.v (.c (.i kk a))),some (.v (.c (.i kk e))),some b,some true)):
 Sem P ops ⟨dst,.binOp op xt x y yt,ty,pos,af,g⟩ T B (.r (.v (.c (.b b)))):=Lb (congrArg Prod.fst h) (congrArg (fun q=>q.2.1) h) (congrArg (fun q=>q.2.2.1) h) (congrArg (fun q=>q.2.2.2) h)
theorem dZ (hU:qf P U=some (true,m)) (h:(dc T ax,dc T x,B k,us.length,cs.length,gd ops ⟨none,.store U ax x,ty,pos,af,g⟩ T)=(some (.p k 0),some (.v (.a us)),some (W,cs),m,m,some true)):
 Sem P ops ⟨none,.store U ax x,ty,pos,af,g⟩ T B (.s k W us):=bn hU (congrArg Prod.fst h) (congrArg (fun q=>q.2.1) h) (congrArg (fun q=>q.2.2.1) h) (congrArg (fun q=>q.2.2.2.1) h) (congrArg (fun q=>q.2.2.2.2.1) h) (congrArg (fun q=>q.2.2.2.2.2) h)
theorem dt {args:Array Operand}{at_:Array TypeId}{f:FuncId}{ds rs:List D0}(h:(dc T fo,pJ T args.toList,gd ops ⟨dst,.call ⟨.value fo,args,at_⟩,ty,pos,af,g⟩ T)=(some (.v (.c (.f f))),some ds,some true)) (hok:Ok P f ds rs):
 Sem P ops ⟨dst,.call ⟨.value fo,args,at_⟩,ty,pos,af,g⟩ T B (.r (wR rs)):=Q9 (congrArg Prod.fst h) (congrArg (fun q=>q.2.1) h) hok (congrArg (fun q=>q.2.2) h)
end
section
variable {P:Program}{σ:St}{Q:Exit→St→Prop}{n t:Nat}{tm:List (Nat×DV)}{bx:List (Nat×TypeId×List CellD)}{rt:List ResultVar}{ds rs:List D0}
theorem bo (h:dl P l.toArray l σ (Q .normal)) (hn:Mc l.toArray σ.n=true:=by kernel_rfl):Dw P (.region id l.toArray false) σ Q:=zw hn h
theorem Ok.fn {f:FuncId}{fn:Func}(hf:P.funcs[f]? =some fn) (n:Nat) (rt:List ResultVar) (hb:fn.body=some c) (h:Dw P c ⟨n,mZ 0 ds,[]⟩ fun e σ=>(e=.normal∨e=.ret)∧qh P σ rt=some rs)
 (hcal:fU P f=true:=by kernel_rfl) (hlen:Nat.ble ds.length fn.ntmps=true:=by rfl) (hn:fn.ntmps=n:=by rfl) (hr:fn.results.toList=rt:=by rfl):Ok P f ds rs:=by
 subst hn hr
 exact Ok.of hcal hf hb hlen h
theorem ai (h:qh P σ rt=some rs):(Exit.ret=.normal∨Exit.ret=.ret)∧qh P σ rt=some rs:=⟨.inr rfl,h⟩
theorem QF (h:qh P σ rt=some rs):(Exit.normal=.normal∨Exit.normal=.ret)∧qh P σ rt=some rs:=⟨.inl rfl,h⟩
theorem al {d:D0}(hr:qh P ⟨n,tm,bx⟩ rt=some ds) (h:aM t tm=some (.v d):=by rfl):qh P ⟨n,tm,bx⟩ (.tmp t::rt)=some (d::ds):=OW h hr
theorem a8 {off:Nat}(hU:qf P U=some (true,m)) (h:(aM t tm,aM k bx,(cs.drop off).take m,us.length)=(some (.p k off),some (W,cs),us,m))
 (hr:qh P ⟨n,tm,bx⟩ rt=some ds):qh P ⟨n,tm,bx⟩ (.cell t U::rt)=some (.a us::ds):=gE hU (congrArg Prod.fst h) (congrArg (fun q=>q.2.1) h) (congrArg (fun q=>q.2.2.1) h) (congrArg (fun q=>q.2.2.2) h) hr
end
structure Tb where
 ty:Nat→Option (Bool×Nat)
 fd:Nat→Nat→Option Nat
 sl:Nat→Option Nat
structure TbOk (P:Program) (b:Tb):Prop where
 ty: ∀U r,b.ty U=some r→qf P U=some r
 fd: ∀U f r,b.fd U f=some r→Sk P U f=some r
 sl: ∀U r,b.sl U=some r→wF P U=some r
inductive SA where
 |sk
 |v (x:DV)
 |bx (U:TypeId) (cs:List CellD)
 |st (k:Nat) (U:TypeId) (cs:List CellD)
def SA.eff:SA→Eff
 | .sk=>.skip
 | .v x=>.r x
 | .bx U cs=>.a U cs none
 | .st k U cs=>.s k U cs
def Kl (b:Tb) (T:TF) (B:BF):Op→Option SA
 | .move x=>match dc T x with
   |some dv=>some (.v dv)
   |none=>none
 | .assign x=>match dc T x with
   |some dv=>some (.v dv)
   |none=>none
 | .extract x i=>match dc T x with
   |some (.t ds)=>match ds[i]? with
    |some d=>some (.v (.v d))
    |none=>none
   |_=>none
 | .binOp op _ x y _=>match dc T x,dc T y with
   |some (.v (.c (.i k1 a))),some (.v (.c (.i k2 e)))=>match decEq k1 k2 with
    | .isTrue _=>match Tn op a e with
      |some r=>some (.v (.v (.c (.b r))))
      |none=>none
    | .isFalse _=>none
   |_,_=>none
 | .pick c x y=>match dc T c with
   |some (.v (.c (.b true)))=>match dc T x with
    |some dv=>match kg dv with
     |none=>some (.v dv)
     |some _=>none
    |none=>none
   |some (.v (.c (.b false)))=>match dc T y with
    |some dv=>match kg dv with
     |none=>some (.v dv)
     |some _=>none
    |none=>none
   |_=>none
 | .unOp .not _xt x=>match dc T x with
   |some (.v (.c (.b r)))=>some (.v (.v (.c (.b (!r)))))
   |_=>none
 | .box U x=>match dc T x with
   |some (.v (.a us))=>some (.bx U us)
   |some (.v (.c u))=>some (.bx U [u])
   |_=>none
 | .fieldAddr U x f=>match dc T x,b.fd U f with
   |some (.p k off),some o'=>some (.v (.p k (off+o')))
   |_,_=>none
 | .load U x=>match dc T x with
   |some (.p k off)=>match B k,b.ty U with
    |some (_,cs),some (true,n)=>bif Nat.beq off 0&&Nat.beq cs.length n then some (.v (.v (.a cs))) else none
    |some (_,cs),some (false,_)=>match cs[off]? with
     |some u=>some (.v (.v (.c u)))
     |none=>none
    |_,_=>none
   |_=>none
 | .store U ax x=>match dc T ax,dc T x,b.ty U with
   |some (.p k off),some (.v (.a us)),some (true,m)=>match B k with
    |some (W,cs)=>bif Nat.beq off 0&&Nat.beq us.length m&&Nat.beq cs.length m then some (.st k W us) else none
    |none=>none
   |_,_,_=>none
 | .call ⟨.builtin .len,⟨[x]⟩,⟨[U]⟩⟩=>match dc T x,b.sl U with
   |some (.v (.c (.s n _))),some _=>some (.v (.v (.c (.i .i64 n))))
   |_,_=>none
 |_=>none
def Ep (b:Tb) (ops:Array Oper) (T:TF) (B:BF) (o:Oper):Option SA:=
 match gd ops o T with
 |some true=>Kl b T B o.op
 |some false=>some .sk
 |none=>none
section
variable {P:Program}{b:Tb}{ops:Array Oper}{T:TF}{B:BF}
theorem Id (hb:TbOk P b) {op:Op}{s:SA}(hg:gd ops ⟨dst,op,ty,pos,af,g⟩ T=some true) (h:Kl b T B op=some s)
 (hd: ∀k U cs,s=.st k U cs→dst=none):Sem P ops ⟨dst,op,ty,pos,af,g⟩ T B s.eff:=by
 unfold Kl at h
 split at h
 ·split at h
  ·rename_i e;cases h;exact GR e hg
  ·cases h
 ·split at h
  ·rename_i e;cases h;exact JX e hg
  ·cases h
 ·split at h
  ·rename_i e
   split at h
   ·rename_i e2;cases h;exact GS e e2 hg
   ·cases h
  ·cases h
 ·split at h
  ·rename_i e1 e2
   split at h
   ·rename_i hk _
    subst hk
    split at h
    ·rename_i e3;cases h;exact Lb e1 e2 e3 hg
    ·cases h
   grind
  grind
 ·split at h
  ·rename_i e
   split at h
   ·rename_i e2
    split at h
    ·rename_i e3;cases h;exact H0 (b:=true) e e2 e3 hg
    grind
   grind
  ·rename_i e
   split at h
   ·rename_i e2
    split at h
    ·rename_i e3;cases h;exact H0 (b:=false) e e2 e3 hg
    grind
   grind
  grind
 ·split at h
  ·rename_i e;cases h;exact SC e hg
  grind
 ·split at h
  ·rename_i e;cases h;exact Mm e hg
  ·rename_i e;cases h;exact M1 e hg
  grind
 ·split at h
  ·rename_i e1 e2;cases h;exact Ml (hb.fd _ _ _ e2) e1 hg
  grind
 ·split at h
  ·rename_i e
   split at h
   ·rename_i e1 e2
    rw[tN] at h
    split at h
    ·rename_i hc
     cases h
     rw[dT] at hc
     have h0:=jr hc.1
     have hl:=jr hc.2
     subst h0
     exact aV (hb.ty _ _ e2) e e1 (by rw[tR];exact iB (rZ hl)) hl hg
    grind
   ·rename_i e1 e2
    split at h
    ·rename_i e3;cases h;exact cT (hb.ty _ _ e2) e e1 e3 hg
    grind
   grind
  grind
 ·split at h
  ·rename_i e1 e2 e3
   split at h
   ·rename_i e4
    rw[tN] at h
    split at h
    ·rename_i hc
     cases h
     rw[dT,dT] at hc
     have h0:=jr hc.1.1
     subst h0
     have:=hd _ _ _ rfl
     subst this
     exact bn (hb.ty _ _ e3) e1 e2 e4 (jr hc.1.2) (jr hc.2) hg
    grind
   grind
  grind
 ·split at h
  ·rename_i e1 e2;cases h;exact SV (hb.sl _ _ e2) e1 hg
  grind
 grind
theorem iW (hb:TbOk P b) {op:Op}{s:SA}(h:Ep b ops T B ⟨dst,op,ty,pos,af,g⟩=some s)
 (hd: ∀k U cs,s=.st k U cs→dst=none):Sem P ops ⟨dst,op,ty,pos,af,g⟩ T B s.eff:=by
 unfold Ep at h
 split at h
 ·rename_i e;exact Id hb e h hd
 ·rename_i e;cases h;exact pk e
 grind
end
section
variable (P:Program) (b:Tb) (ops:Array Oper) (K:St→Prop) (n:Nat)
def Wm:Nat→List Oper→List (Nat×DV)→List (Nat×TypeId×List CellD)→Prop
 |0,os,tm,bx=>dl P ops os ⟨n,tm,bx⟩ K
 |_+1,[],_,_=>False
 |k+1,o::os,tm,bx=>match o.dst,Ep b ops (fun s=>aM s tm) (fun l=>aM l bx) o with
  |some t,some .sk=>Wm k os ((t,.u)::tm) bx
  |some t,some (.v x)=>Wm k os ((t,x)::tm) bx
  |some t,some (.bx U cs)=>match aM t bx with
   |none=>Wm k os ((t,.p t 0)::tm) ((t,U,cs)::bx)
   |some _=>False
  |none,some (.st j U cs)=>Wm k os tm ((j,U,cs)::bx)
  |_,_=>False
variable {P b ops K n}
theorem P9 (hb:TbOk P b): ∀ {k:Nat}{os:List Oper}{tm:List (Nat×DV)}{bx:List (Nat×TypeId×List CellD)},Wm P b ops K n k os tm bx→dl P ops os ⟨n,tm,bx⟩ K
 |0,os,tm,bx,h=>h
 |k+1,[],tm,bx,h=>h.elim
 |k+1,⟨dst,op,ty,pos,af,g⟩::os,tm,bx,h=>by
  unfold Wm at h
  split at h
  ·rename_i t e1 e2
   cases e1
   exact Bg (iW hb e2 (fun _ _ _ e=>by cases e)) (P9 hb h)
  ·rename_i t x e1 e2
   cases e1
   exact a7 (iW hb e2 (fun _ _ _ e=>by cases e)) (P9 hb h)
  ·rename_i t U cs e1 e2
   cases e1
   split at h
   ·rename_i e3;exact pg (iW hb e2 (fun _ _ _ e=>by cases e)) e3 (P9 hb h)
   ·exact h.elim
  ·rename_i j U cs e1 e2
   cases e1
   exact gZ (iW hb e2 (fun _ _ _ _=>rfl)) (P9 hb h)
  ·exact h.elim
end
section
variable (P:Program) (b:Tb) (ops:Array Oper) (K:St→Prop) (n:Nat)
def XN:List Oper→List (Nat×DV)→List (Nat×TypeId×List CellD)→Prop
 |[],tm,bx=>K ⟨n,tm,bx⟩
 |o::os,tm,bx=>match o.dst,Ep b ops (fun s=>aM s tm) (fun l=>aM l bx) o with
  |some t,some .sk=>XN os ((t,.u)::tm) bx
  |some t,some (.v x)=>XN os ((t,x)::tm) bx
  |some t,some (.bx U cs)=>match aM t bx with
   |none=>XN os ((t,.p t 0)::tm) ((t,U,cs)::bx)
   |some _=>False
  |none,some (.st j U cs)=>XN os tm ((j,U,cs)::bx)
  |_,_=>False
variable {P b ops K n}
theorem Ib (hb:TbOk P b): ∀ {os:List Oper}{tm:List (Nat×DV)}{bx:List (Nat×TypeId×List CellD)},XN b ops K n os tm bx→dl P ops os ⟨n,tm,bx⟩ K
 |[],tm,bx,h=>h
 |⟨dst,op,ty,pos,af,g⟩::os,tm,bx,h=>by
  unfold XN at h
  split at h
  ·rename_i t e1 e2
   cases e1
   exact Bg (iW hb e2 (fun _ _ _ e=>by cases e)) (Ib hb h)
  ·rename_i t x e1 e2
   cases e1
   exact a7 (iW hb e2 (fun _ _ _ e=>by cases e)) (Ib hb h)
  ·rename_i t U cs e1 e2
   cases e1
   split at h
   ·rename_i e3;exact pg (iW hb e2 (fun _ _ _ e=>by cases e)) e3 (Ib hb h)
   ·exact h.elim
  ·rename_i j U cs e1 e2
   cases e1
   exact gZ (iW hb e2 (fun _ _ _ _=>rfl)) (Ib hb h)
  ·exact h.elim
end
section
variable (P:Program) (b:Tb) (ops:Array Oper) (hs:List Nat) (K:Sq→Prop) (n:Nat)
def YS:Nat→List Oper→List (Nat×DV)→List (Nat×TypeId×List CellD)→List (Nat×TypeId×List CellD)→List Nat→Prop
 |0,os,tm,bx,nb,sd=>dq P ops hs os ⟨⟨n,tm,bx⟩,nb,sd⟩ K
 |_+1,[],_,_,_,_=>False
 |k+1,o::os,tm,bx,nb,sd=>match o.dst,Ep b ops (fun s=>aM s tm) (hid hs (fun l=>aM l bx)) o with
  |some t,some .sk=>YS k os ((t,.u)::tm) bx nb sd
  |some t,some (.v x)=>YS k os ((t,x)::tm) bx nb sd
  |some t,some (.bx U cs)=>match aM t (nb++bx) with
   |none=>YS k os ((t,.p t 0)::tm) bx ((t,U,cs)::nb) sd
   |some _=>False
  |_,_=>False
variable {P b ops hs K n}
theorem Tc (hb:TbOk P b): ∀ {k:Nat}{os:List Oper}{tm:List (Nat×DV)}{bx nb:List (Nat×TypeId×List CellD)}{sd:List Nat},YS P b ops hs K n k os tm bx nb sd→dq P ops hs os ⟨⟨n,tm,bx⟩,nb,sd⟩ K
 |0,os,tm,bx,nb,sd,h=>h
 |k+1,[],tm,bx,nb,sd,h=>h.elim
 |k+1,⟨dst,op,ty,pos,af,g⟩::os,tm,bx,nb,sd,h=>by
  unfold YS at h
  split at h
  ·rename_i t e1 e2
   cases e1
   exact sP (iW hb e2 (fun _ _ _ e=>by cases e)) (Tc hb h)
  ·rename_i t x e1 e2
   cases e1
   exact bH (iW hb e2 (fun _ _ _ e=>by cases e)) (Tc hb h)
  ·rename_i t U cs e1 e2
   cases e1
   split at h
   ·rename_i e3;exact J5 (iW hb e2 (fun _ _ _ e=>by cases e)) e3 (Tc hb h)
   ·exact h.elim
  ·exact h.elim
end
section
variable (P:Program) (b:Tb) (ops:Array Oper) (hs:List Nat) (K:Sq→Prop) (n:Nat)
def YV:List Oper→List (Nat×DV)→List (Nat×TypeId×List CellD)→List (Nat×TypeId×List CellD)→List Nat→Prop
 |[],tm,bx,nb,sd=>K ⟨⟨n,tm,bx⟩,nb,sd⟩
 |o::os,tm,bx,nb,sd=>match o.dst,Ep b ops (fun s=>aM s tm) (hid hs (fun l=>aM l bx)) o with
  |some t,some .sk=>YV os ((t,.u)::tm) bx nb sd
  |some t,some (.v x)=>YV os ((t,x)::tm) bx nb sd
  |some t,some (.bx U cs)=>match aM t (nb++bx) with
   |none=>YV os ((t,.p t 0)::tm) bx ((t,U,cs)::nb) sd
   |some _=>False
  |_,_=>False
variable {P b ops hs K n}
theorem KR (hb:TbOk P b): ∀ {os:List Oper}{tm:List (Nat×DV)}{bx nb:List (Nat×TypeId×List CellD)}{sd:List Nat},YV b ops hs K n os tm bx nb sd→dq P ops hs os ⟨⟨n,tm,bx⟩,nb,sd⟩ K
 |[],tm,bx,nb,sd,h=>h
 |⟨dst,op,ty,pos,af,g⟩::os,tm,bx,nb,sd,h=>by
  unfold YV at h
  split at h
  ·rename_i t e1 e2
   cases e1
   exact sP (iW hb e2 (fun _ _ _ e=>by cases e)) (KR hb h)
  ·rename_i t x e1 e2
   cases e1
   exact bH (iW hb e2 (fun _ _ _ e=>by cases e)) (KR hb h)
  ·rename_i t U cs e1 e2
   cases e1
   split at h
   ·rename_i e3;exact J5 (iW hb e2 (fun _ _ _ e=>by cases e)) e3 (KR hb h)
   ·exact h.elim
  ·exact h.elim
end
theorem QK {f:Nat→Bool}(h:(List.range N).all f=true): ∀U,U<N→f U=true:=by grind
theorem TbOk.of {t:Nat→Option (Bool×Nat)}{f:Nat→Nat→Option Nat}{s:Nat→Option Nat}
 (h1:((List.range N).all fun U=>match t U with|none=>true|some r=>decide (qf P U=some r))=true)
 (h2:((List.range N).all fun U=>(List.range 16).all fun i=>match f U i with|none=>true|some r=>decide (Sk P U i=some r))=true)
 (h3:((List.range N).all fun U=>match s U with|none=>true|some r=>decide (wF P U=some r))=true):
 TbOk P ⟨fun U=>bif Nat.blt U N then t U else none,fun U i=>bif Nat.blt U N&&Nat.blt i 16 then f U i else none,fun U=>bif Nat.blt U N then s U else none⟩:=by
 have hlt: ∀ {a c:Nat},Nat.blt a c=true→a<c:=fun h=>dV h
 refine⟨fun U r h=>?_,fun U i r h=>?_,fun U r h=>?_⟩
 ·grind
 ·dsimp only at h
  rw[tN] at h
  split at h
  ·rename_i hc
   rw[dT] at hc
   have:=QK (QK h2 U (hlt hc.1)) i (hlt hc.2)
   grind
  grind
 grind
theorem ew:Tryz.prog.follows .mixedOrders=true:=by kernel_rfl
theorem iI:Tryz.prog.underlying 4=some .bool:=by kernel_rfl
theorem lq {σ:St}(m:Nat) (hpre:l.take m=pre) (htail:l.drop m=tail)
 (h:dq Tryz.prog l.toArray [] pre ⟨σ,[],[]⟩ fun s=>dl Tryz.prog l.toArray tail s.merge (Q .normal)) (hc:I2 l.toArray m σ.n=true:=by kernel_rfl):Dw Tryz.prog (.region id l.toArray true) σ Q:=qV m [] ew hc hpre htail h
theorem U8:ua Tryz.prog 238=some (2,1,8,[.i .i64 0]):=by kernel_rfl
theorem xj:ua Tryz.prog 31=some (192,1,4,[.i .u32 0]):=by kernel_rfl
theorem ja:ua Tryz.prog 39=some (48,66,1040,[.b false,.b false,.s 0 [],.b false,.s 0 [],.b false,.s 0 [],.b false,.s 0 [],.b false,.s 0 [],.b false,.s 0 [],.b false,.s 0 [],.b false,.s 0 [],.b false,.s 0 [],.b false,.s 0 [],.b false,.s 0 [],.b false,.s 0 [],.b false,.b false,.s 0 [],.b false,.s 0 [],.b false,.s 0 [],.b false,.s 0 [],.b false,.s 0 [],.b false,.s 0 [],.b false,.s 0 [],.b false,.s 0 [],.b false,.s 0 [],.b false,.s 0 [],.b false,.s 0 [],.b false,.s 0 [],.b false,.s 0 [],.b false,.s 0 [],.b false,.s 0 [],.b false,.s 0 [],.b false,.s 0 [],.b false,.s 0 [],.b false,.s 0 [],.b false,.s 0 []]):=by kernel_rfl
theorem iC:ua Tryz.prog 64=some (46,20,320,[.b false,.s 0 [],.b false,.s 0 [],.b false,.s 0 [],.b false,.s 0 [],.b false,.s 0 [],.b false,.s 0 [],.b false,.s 0 [],.b false,.s 0 [],.b false,.s 0 [],.b false,.s 0 []]):=by kernel_rfl
theorem N7:Sk Tryz.prog 48 3=some 25:=by kernel_rfl
theorem QU:Sk Tryz.prog 48 4=some 26:=by kernel_rfl
theorem Pg:Sk Tryz.prog 48 5=some 46:=by kernel_rfl
theorem Gl:Jn Tryz.prog 116=some [(0,1),(1,12)]:=by kernel_rfl
theorem Hh:Jn Tryz.prog 119=some [(0,1),(1,12)]:=by kernel_rfl
theorem U9:Jn Tryz.prog 153=some [(0,4),(4,4),(8,4),(12,4),(16,4),(20,4)]:=by kernel_rfl
theorem oR:Jn Tryz.prog 202=some [(0,1),(1,1)]:=by kernel_rfl
theorem Zl:Jn Tryz.prog 233=some [(0,1)]:=by kernel_rfl
theorem Kb:Jn Tryz.prog 33=some [(0,1),(1,1)]:=by kernel_rfl
theorem vE:Jn Tryz.prog 35=some [(0,2),(2,2)]:=by kernel_rfl
theorem ro:Jn Tryz.prog 37=some [(0,4),(4,4)]:=by kernel_rfl
theorem Sp:Jn Tryz.prog 42=some [(0,4),(4,4),(8,4)]:=by kernel_rfl
theorem Yt:Jn Tryz.prog 44=some [(0,4),(4,4),(8,4)]:=by kernel_rfl
theorem Mr:Jn Tryz.prog 46=some [(0,4),(4,4),(8,4),(12,4),(16,4)]:=by kernel_rfl
theorem Jz:Jn Tryz.prog 48=some [(0,1),(1,12),(13,12),(25,1),(26,20),(46,20)]:=by kernel_rfl
theorem rG:Jn Tryz.prog 49=some [(0,4),(4,4),(8,4)]:=by kernel_rfl
theorem K3:wF Tryz.prog 238=some 1:=by kernel_rfl
theorem jv:wF Tryz.prog 31=some 1:=by kernel_rfl
theorem gz:wF Tryz.prog 39=some 66:=by kernel_rfl
theorem fw:wF Tryz.prog 64=some 20:=by kernel_rfl
theorem tC:qf Tryz.prog 116=some (true,13):=by kernel_rfl
theorem tG:qf Tryz.prog 119=some (true,13):=by kernel_rfl
theorem VL:qf Tryz.prog 153=some (true,24):=by kernel_rfl
theorem fY:qf Tryz.prog 192=some (false,1):=by kernel_rfl
theorem YW:qf Tryz.prog 2=some (false,1):=by kernel_rfl
theorem i6:qf Tryz.prog 202=some (true,2):=by kernel_rfl
theorem mU:qf Tryz.prog 22=some (false,1):=by kernel_rfl
theorem UA:qf Tryz.prog 24=some (true,8):=by kernel_rfl
theorem C4:qf Tryz.prog 26=some (true,17):=by kernel_rfl
theorem II:qf Tryz.prog 3=some (false,1):=by kernel_rfl
theorem fh:qf Tryz.prog 33=some (true,2):=by kernel_rfl
theorem bt:qf Tryz.prog 35=some (true,4):=by kernel_rfl
theorem WP:qf Tryz.prog 37=some (true,8):=by kernel_rfl
theorem jb:qf Tryz.prog 4=some (false,1):=by kernel_rfl
theorem AI:qf Tryz.prog 42=some (true,12):=by kernel_rfl
theorem rg:qf Tryz.prog 44=some (true,12):=by kernel_rfl
theorem bv:qf Tryz.prog 46=some (true,20):=by kernel_rfl
theorem aY:qf Tryz.prog 48=some (true,66):=by kernel_rfl
theorem ez:qf Tryz.prog 49=some (true,12):=by kernel_rfl
theorem xu:qf Tryz.prog 5=some (false,1):=by kernel_rfl
theorem gh:Tryz.prog.underlying 183=some (.int .u64):=by kernel_rfl
theorem jR:Tryz.prog.underlying 192=some (.int .u32):=by kernel_rfl
theorem C9:Tryz.prog.underlying 2=some (.int .i64):=by kernel_rfl
theorem Y8:Tryz.prog.underlying 22=some (.int .i8):=by kernel_rfl
theorem acs:Tryz.prog.underlying 3=some (.int .i64):=by kernel_rfl
theorem ZP:Tryz.prog.underlying 5=some (.int .u8):=by kernel_rfl
theorem Dr:CW Tryz.prog 116=some [.i .i64 0,.b false,.s 0 [],.b false,.s 0 [],.b false,.s 0 [],.b false,.s 0 [],.b false,.s 0 [],.b false,.s 0 []]:=by kernel_rfl
theorem DZ:CW Tryz.prog 119=some [.i .i64 0,.b false,.s 0 [],.b false,.s 0 [],.b false,.s 0 [],.b false,.s 0 [],.b false,.s 0 [],.b false,.s 0 []]:=by kernel_rfl
theorem RP:CW Tryz.prog 153=some [.b false,.s 0 [],.b false,.s 0 [],.b false,.s 0 [],.b false,.s 0 [],.b false,.s 0 [],.b false,.s 0 [],.b false,.s 0 [],.b false,.s 0 [],.b false,.s 0 [],.b false,.s 0 [],.b false,.s 0 [],.b false,.s 0 []]:=by kernel_rfl
theorem oa:CW Tryz.prog 202=some [.i .i64 0,.i .i64 0]:=by kernel_rfl
theorem Zi:CW Tryz.prog 233=some [.b false]:=by kernel_rfl
theorem H4:CW Tryz.prog 33=some [.b false,.s 0 []]:=by kernel_rfl
theorem ub:CW Tryz.prog 35=some [.b false,.s 0 [],.b false,.s 0 []]:=by kernel_rfl
theorem q9:CW Tryz.prog 37=some [.b false,.s 0 [],.b false,.s 0 [],.b false,.s 0 [],.b false,.s 0 []]:=by kernel_rfl
theorem OD:CW Tryz.prog 42=some [.b false,.s 0 [],.b false,.s 0 [],.b false,.s 0 [],.b false,.s 0 [],.b false,.s 0 [],.b false,.s 0 []]:=by kernel_rfl
theorem Tp:CW Tryz.prog 44=some [.b false,.s 0 [],.b false,.s 0 [],.b false,.s 0 [],.b false,.s 0 [],.b false,.s 0 [],.b false,.s 0 []]:=by kernel_rfl
theorem FF:CW Tryz.prog 46=some [.b false,.s 0 [],.b false,.s 0 [],.b false,.s 0 [],.b false,.s 0 [],.b false,.s 0 [],.b false,.s 0 [],.b false,.s 0 [],.b false,.s 0 [],.b false,.s 0 [],.b false,.s 0 []]:=by kernel_rfl
theorem AE:CW Tryz.prog 48=some [.b false,.b false,.s 0 [],.b false,.s 0 [],.b false,.s 0 [],.b false,.s 0 [],.b false,.s 0 [],.b false,.s 0 [],.b false,.s 0 [],.b false,.s 0 [],.b false,.s 0 [],.b false,.s 0 [],.b false,.s 0 [],.b false,.s 0 [],.b false,.b false,.s 0 [],.b false,.s 0 [],.b false,.s 0 [],.b false,.s 0 [],.b false,.s 0 [],.b false,.s 0 [],.b false,.s 0 [],.b false,.s 0 [],.b false,.s 0 [],.b false,.s 0 [],.b false,.s 0 [],.b false,.s 0 [],.b false,.s 0 [],.b false,.s 0 [],.b false,.s 0 [],.b false,.s 0 [],.b false,.s 0 [],.b false,.s 0 [],.b false,.s 0 [],.b false,.s 0 []]:=by kernel_rfl
theorem p6:CW Tryz.prog 49=some [.b false,.s 0 [],.b false,.s 0 [],.b false,.s 0 [],.b false,.s 0 [],.b false,.s 0 [],.b false,.s 0 []]:=by kernel_rfl
def tyF (U:Nat):Option (Bool×Nat):=bif Nat.blt U 45 then(bif Nat.blt U 29 then(bif Nat.blt U 21 then(bif Nat.blt U 5 then(bif Nat.blt U 3 then(bif Nat.beq U 2 then some (false,1) else none) else(bif Nat.blt U 4 then(bif Nat.beq U 3 then some (false,1) else none) else(bif Nat.beq U 4 then some (false,1) else none))) else(bif Nat.blt U 6 then(bif Nat.beq U 5 then some (false,1) else none) else(bif Nat.blt U 12 then(bif Nat.beq U 6 then some (false,1) else none) else(bif Nat.beq U 12 then some (false,1) else none)))) else(bif Nat.blt U 25 then(bif Nat.blt U 22 then(bif Nat.beq U 21 then some (false,1) else none) else(bif Nat.blt U 24 then(bif Nat.beq U 22 then some (false,1) else none) else(bif Nat.beq U 24 then some (true,8) else none))) else(bif Nat.blt U 26 then(bif Nat.beq U 25 then some (true,17) else none) else(bif Nat.blt U 27 then(bif Nat.beq U 26 then some (true,17) else none) else(bif Nat.beq U 27 then some (false,1) else none))))) else(bif Nat.blt U 37 then(bif Nat.blt U 34 then(bif Nat.blt U 31 then(bif Nat.beq U 29 then some (true,3) else none) else(bif Nat.blt U 33 then(bif Nat.beq U 31 then some (false,1) else none) else(bif Nat.beq U 33 then some (true,2) else none))) else(bif Nat.blt U 35 then(bif Nat.beq U 34 then some (true,4) else none) else(bif Nat.blt U 36 then(bif Nat.beq U 35 then some (true,4) else none) else(bif Nat.beq U 36 then some (true,8) else none)))) else(bif Nat.blt U 42 then(bif Nat.blt U 39 then(bif Nat.beq U 37 then some (true,8) else none) else(bif Nat.blt U 41 then(bif Nat.beq U 39 then some (false,1) else none) else(bif Nat.beq U 41 then some (true,12) else none))) else(bif Nat.blt U 43 then(bif Nat.beq U 42 then some (true,12) else none) else(bif Nat.blt U 44 then(bif Nat.beq U 43 then some (true,12) else none) else(bif Nat.beq U 44 then some (true,12) else none)))))) else(bif Nat.blt U 119 then(bif Nat.blt U 60 then(bif Nat.blt U 48 then(bif Nat.blt U 46 then(bif Nat.beq U 45 then some (true,20) else none) else(bif Nat.blt U 47 then(bif Nat.beq U 46 then some (true,20) else none) else(bif Nat.beq U 47 then some (true,66) else none))) else(bif Nat.blt U 49 then(bif Nat.beq U 48 then some (true,66) else none) else(bif Nat.blt U 50 then(bif Nat.beq U 49 then some (true,12) else none) else(bif Nat.beq U 50 then some (false,1) else none)))) else(bif Nat.blt U 115 then(bif Nat.blt U 62 then(bif Nat.beq U 60 then some (false,1) else none) else(bif Nat.blt U 64 then(bif Nat.beq U 62 then some (true,6) else none) else(bif Nat.beq U 64 then some (false,1) else none))) else(bif Nat.blt U 116 then(bif Nat.beq U 115 then some (true,13) else none) else(bif Nat.blt U 118 then(bif Nat.beq U 116 then some (true,13) else none) else(bif Nat.beq U 118 then some (true,13) else none))))) else(bif Nat.blt U 233 then(bif Nat.blt U 183 then(bif Nat.blt U 152 then(bif Nat.beq U 119 then some (true,13) else none) else(bif Nat.blt U 153 then(bif Nat.beq U 152 then some (true,24) else none) else(bif Nat.beq U 153 then some (true,24) else none))) else(bif Nat.blt U 192 then(bif Nat.beq U 183 then some (false,1) else none) else(bif Nat.blt U 202 then(bif Nat.beq U 192 then some (false,1) else none) else(bif Nat.beq U 202 then some (true,2) else none)))) else(bif Nat.blt U 262 then(bif Nat.blt U 238 then(bif Nat.beq U 233 then some (true,1) else none) else(bif Nat.blt U 244 then(bif Nat.beq U 238 then some (false,1) else none) else(bif Nat.beq U 244 then some (false,1) else none))) else(bif Nat.blt U 266 then(bif Nat.blt U 263 then(bif Nat.beq U 262 then some (false,1) else none) else(bif Nat.beq U 263 then some (false,1) else none)) else(bif Nat.blt U 267 then(bif Nat.beq U 266 then some (false,1) else none) else(bif Nat.beq U 267 then some (false,1) else none))))))
def slF (U:Nat):Option Nat:=bif Nat.blt U 64 then(bif Nat.blt U 39 then(bif Nat.beq U 31 then some 1 else none) else(bif Nat.beq U 39 then some 66 else none)) else(bif Nat.blt U 238 then(bif Nat.beq U 64 then some 20 else none) else(bif Nat.beq U 238 then some 1 else none))
def fdF (U i:Nat):Option Nat:=bif Nat.blt U 45 then(bif Nat.blt U 35 then(bif Nat.blt U 29 then(bif Nat.blt U 25 then(bif Nat.beq U 24 then(bif Nat.blt i 4 then(bif Nat.blt i 2 then(bif Nat.blt i 1 then(bif Nat.beq i 0 then some 0 else none) else(bif Nat.beq i 1 then some 1 else none)) else(bif Nat.blt i 3 then(bif Nat.beq i 2 then some 2 else none) else(bif Nat.beq i 3 then some 3 else none))) else(bif Nat.blt i 6 then(bif Nat.blt i 5 then(bif Nat.beq i 4 then some 4 else none) else(bif Nat.beq i 5 then some 5 else none)) else(bif Nat.blt i 7 then(bif Nat.beq i 6 then some 6 else none) else(bif Nat.beq i 7 then some 7 else none)))) else none) else(bif Nat.blt U 26 then(bif Nat.beq U 25 then(bif Nat.blt i 1 then(bif Nat.beq i 0 then some 0 else none) else(bif Nat.blt i 2 then(bif Nat.beq i 1 then some 8 else none) else(bif Nat.beq i 2 then some 16 else none))) else none) else(bif Nat.beq U 26 then(bif Nat.blt i 1 then(bif Nat.beq i 0 then some 0 else none) else(bif Nat.blt i 2 then(bif Nat.beq i 1 then some 8 else none) else(bif Nat.beq i 2 then some 16 else none))) else none))) else(bif Nat.blt U 33 then(bif Nat.beq U 29 then(bif Nat.blt i 1 then(bif Nat.beq i 0 then some 0 else none) else(bif Nat.blt i 2 then(bif Nat.beq i 1 then some 1 else none) else(bif Nat.beq i 2 then some 2 else none))) else none) else(bif Nat.blt U 34 then(bif Nat.beq U 33 then(bif Nat.blt i 1 then(bif Nat.beq i 0 then some 0 else none) else(bif Nat.beq i 1 then some 1 else none)) else none) else(bif Nat.beq U 34 then(bif Nat.blt i 1 then(bif Nat.beq i 0 then some 0 else none) else(bif Nat.beq i 1 then some 2 else none)) else none)))) else(bif Nat.blt U 41 then(bif Nat.blt U 36 then(bif Nat.beq U 35 then(bif Nat.blt i 1 then(bif Nat.beq i 0 then some 0 else none) else(bif Nat.beq i 1 then some 2 else none)) else none) else(bif Nat.blt U 37 then(bif Nat.beq U 36 then(bif Nat.blt i 1 then(bif Nat.beq i 0 then some 0 else none) else(bif Nat.beq i 1 then some 4 else none)) else none) else(bif Nat.beq U 37 then(bif Nat.blt i 1 then(bif Nat.beq i 0 then some 0 else none) else(bif Nat.beq i 1 then some 4 else none)) else none))) else(bif Nat.blt U 43 then(bif Nat.blt U 42 then(bif Nat.beq U 41 then(bif Nat.blt i 1 then(bif Nat.beq i 0 then some 0 else none) else(bif Nat.blt i 2 then(bif Nat.beq i 1 then some 4 else none) else(bif Nat.beq i 2 then some 8 else none))) else none) else(bif Nat.beq U 42 then(bif Nat.blt i 1 then(bif Nat.beq i 0 then some 0 else none) else(bif Nat.blt i 2 then(bif Nat.beq i 1 then some 4 else none) else(bif Nat.beq i 2 then some 8 else none))) else none)) else(bif Nat.blt U 44 then(bif Nat.beq U 43 then(bif Nat.blt i 1 then(bif Nat.beq i 0 then some 0 else none) else(bif Nat.blt i 2 then(bif Nat.beq i 1 then some 4 else none) else(bif Nat.beq i 2 then some 8 else none))) else none) else(bif Nat.beq U 44 then(bif Nat.blt i 1 then(bif Nat.beq i 0 then some 0 else none) else(bif Nat.blt i 2 then(bif Nat.beq i 1 then some 4 else none) else(bif Nat.beq i 2 then some 8 else none))) else none))))) else(bif Nat.blt U 116 then(bif Nat.blt U 48 then(bif Nat.blt U 46 then(bif Nat.beq U 45 then(bif Nat.blt i 2 then(bif Nat.blt i 1 then(bif Nat.beq i 0 then some 0 else none) else(bif Nat.beq i 1 then some 4 else none)) else(bif Nat.blt i 3 then(bif Nat.beq i 2 then some 8 else none) else(bif Nat.blt i 4 then(bif Nat.beq i 3 then some 12 else none) else(bif Nat.beq i 4 then some 16 else none)))) else none) else(bif Nat.blt U 47 then(bif Nat.beq U 46 then(bif Nat.blt i 2 then(bif Nat.blt i 1 then(bif Nat.beq i 0 then some 0 else none) else(bif Nat.beq i 1 then some 4 else none)) else(bif Nat.blt i 3 then(bif Nat.beq i 2 then some 8 else none) else(bif Nat.blt i 4 then(bif Nat.beq i 3 then some 12 else none) else(bif Nat.beq i 4 then some 16 else none)))) else none) else(bif Nat.beq U 47 then(bif Nat.blt i 3 then(bif Nat.blt i 1 then(bif Nat.beq i 0 then some 0 else none) else(bif Nat.blt i 2 then(bif Nat.beq i 1 then some 1 else none) else(bif Nat.beq i 2 then some 13 else none))) else(bif Nat.blt i 4 then(bif Nat.beq i 3 then some 25 else none) else(bif Nat.blt i 5 then(bif Nat.beq i 4 then some 26 else none) else(bif Nat.beq i 5 then some 46 else none)))) else none))) else(bif Nat.blt U 62 then(bif Nat.blt U 49 then(bif Nat.beq U 48 then(bif Nat.blt i 3 then(bif Nat.blt i 1 then(bif Nat.beq i 0 then some 0 else none) else(bif Nat.blt i 2 then(bif Nat.beq i 1 then some 1 else none) else(bif Nat.beq i 2 then some 13 else none))) else(bif Nat.blt i 4 then(bif Nat.beq i 3 then some 25 else none) else(bif Nat.blt i 5 then(bif Nat.beq i 4 then some 26 else none) else(bif Nat.beq i 5 then some 46 else none)))) else none) else(bif Nat.beq U 49 then(bif Nat.blt i 1 then(bif Nat.beq i 0 then some 0 else none) else(bif Nat.blt i 2 then(bif Nat.beq i 1 then some 4 else none) else(bif Nat.beq i 2 then some 8 else none))) else none)) else(bif Nat.blt U 115 then(bif Nat.beq U 62 then(bif Nat.blt i 3 then(bif Nat.blt i 1 then(bif Nat.beq i 0 then some 0 else none) else(bif Nat.blt i 2 then(bif Nat.beq i 1 then some 1 else none) else(bif Nat.beq i 2 then some 2 else none))) else(bif Nat.blt i 4 then(bif Nat.beq i 3 then some 3 else none) else(bif Nat.blt i 5 then(bif Nat.beq i 4 then some 4 else none) else(bif Nat.beq i 5 then some 5 else none)))) else none) else(bif Nat.beq U 115 then(bif Nat.blt i 1 then(bif Nat.beq i 0 then some 0 else none) else(bif Nat.beq i 1 then some 1 else none)) else none)))) else(bif Nat.blt U 152 then(bif Nat.blt U 118 then(bif Nat.beq U 116 then(bif Nat.blt i 1 then(bif Nat.beq i 0 then some 0 else none) else(bif Nat.beq i 1 then some 1 else none)) else none) else(bif Nat.blt U 119 then(bif Nat.beq U 118 then(bif Nat.blt i 1 then(bif Nat.beq i 0 then some 0 else none) else(bif Nat.beq i 1 then some 1 else none)) else none) else(bif Nat.beq U 119 then(bif Nat.blt i 1 then(bif Nat.beq i 0 then some 0 else none) else(bif Nat.beq i 1 then some 1 else none)) else none))) else(bif Nat.blt U 202 then(bif Nat.blt U 153 then(bif Nat.beq U 152 then(bif Nat.blt i 3 then(bif Nat.blt i 1 then(bif Nat.beq i 0 then some 0 else none) else(bif Nat.blt i 2 then(bif Nat.beq i 1 then some 4 else none) else(bif Nat.beq i 2 then some 8 else none))) else(bif Nat.blt i 4 then(bif Nat.beq i 3 then some 12 else none) else(bif Nat.blt i 5 then(bif Nat.beq i 4 then some 16 else none) else(bif Nat.beq i 5 then some 20 else none)))) else none) else(bif Nat.beq U 153 then(bif Nat.blt i 3 then(bif Nat.blt i 1 then(bif Nat.beq i 0 then some 0 else none) else(bif Nat.blt i 2 then(bif Nat.beq i 1 then some 4 else none) else(bif Nat.beq i 2 then some 8 else none))) else(bif Nat.blt i 4 then(bif Nat.beq i 3 then some 12 else none) else(bif Nat.blt i 5 then(bif Nat.beq i 4 then some 16 else none) else(bif Nat.beq i 5 then some 20 else none)))) else none)) else(bif Nat.blt U 233 then(bif Nat.beq U 202 then(bif Nat.blt i 1 then(bif Nat.beq i 0 then some 0 else none) else(bif Nat.beq i 1 then some 1 else none)) else none) else(bif Nat.beq U 233 then(bif Nat.beq i 0 then some 0 else none) else none)))))
def tb:Tb:=⟨fun U=>bif Nat.blt U 268 then tyF U else none,fun U i=>bif Nat.blt U 268&&Nat.blt i 16 then fdF U i else none,fun U=>bif Nat.blt U 268 then slF U else none⟩
theorem NP:TbOk Tryz.prog tb:=TbOk.of (by kernel_rfl) (by kernel_rfl) (by kernel_rfl)
theorem bR (k:Nat) (h:Wm Tryz.prog tb ops K n k os tm bx):dl Tryz.prog ops os ⟨n,tm,bx⟩ K:=P9 NP h
theorem dU {K:Sq→Prop}(k:Nat) (h:YS Tryz.prog tb ops hs K n k os tm bx nb sd):dq Tryz.prog ops hs os ⟨⟨n,tm,bx⟩,nb,sd⟩ K:=Tc NP h
theorem fN (h:XN tb ops K n os tm bx):dl Tryz.prog ops os ⟨n,tm,bx⟩ K:=Ib NP h
theorem yQ {K:Sq→Prop}(h:YV tb ops hs K n os tm bx nb sd):dq Tryz.prog ops hs os ⟨⟨n,tm,bx⟩,nb,sd⟩ K:=KR NP h
def cQ (n d:Int):List CellD:=cI n++cI d
def dQ (n d:Int):D0:=.a (cQ n d)
def cR (x:Rat):List CellD:=cQ x.num (x.den:Int)
def dR (x:Rat):D0:=.a (cR x)
theorem Ak {x q:Int}(hy:y≠0) (h:x=y*q+r) (hp:0<y→0≤r∧r<y) (hn:y<0→y<r∧r≤0):x.fdiv y=q∧x.fmod y=r:=by
 have hfd:x.fdiv y=q:=by
  rcases Int.lt_or_gt_of_ne hy with h0|h0
  ·obtain⟨h1,h2⟩:=hn h0
   rw[←Int.neg_fdiv_neg,pf _ (by omega)]
   have:=(Int.ediv_emod_unique (a:= -x) (b:= -y) (r:= -r) (q:=q) (by omega)).2 ⟨by rw[h];simp only[Int.neg_mul];omega,by omega,by omega⟩
   grind
  ·obtain⟨h1,h2⟩:=hp h0
   rw[pf _ (by omega)]
   exact((Int.ediv_emod_unique (a:=x) (b:=y) (r:=r) (q:=q) h0).2 ⟨by rw[h];omega,h1,h2⟩).1
 have:=Int.mul_fdiv_add_fmod x y
 grind
def q0 (x y:Int):Int:=sg (!(decide (x<0)==decide (y<0))) ((x.natAbs:Int)/y.natAbs)
def r0 (x y:Int):Int:=sg (decide (x<0)) ((x.natAbs:Int)%y.natAbs)
theorem VY {x:Int}:x=y*q0 x y+r0 x y:=by
 have h:=q6 (x.natAbs:Int) y.natAbs
 unfold q0 r0
 obtain⟨q,hq⟩: ∃q,(x.natAbs:Int)/y.natAbs=q:=⟨_,rfl⟩
 obtain⟨r,hr⟩: ∃r,(x.natAbs:Int)%y.natAbs=r:=⟨_,rfl⟩
 rw[hq,hr]
 rw[hq,hr] at h
 by_cases hx:x<0<;>by_cases hy:y<0
 ·rw[show(x.natAbs:Int)= -x from by omega,show(y.natAbs:Int)= -y from by omega,Int.neg_mul] at h
  rw[show(!(decide (x<0)==decide (y<0)))=false from by simp[hx,hy],show decide (x<0)=true from by simp[hx],gW,du]
  omega
 ·rw[show(x.natAbs:Int)= -x from by omega,show(y.natAbs:Int)=y from by omega] at h
  rw[show(!(decide (x<0)==decide (y<0)))=true from by simp[hx,hy],show decide (x<0)=true from by simp[hx],gW,gW,Int.mul_neg]
  omega
 ·rw[show(x.natAbs:Int)=x from by omega,show(y.natAbs:Int)= -y from by omega,Int.neg_mul] at h
  rw[show(!(decide (x<0)==decide (y<0)))=true from by simp[hx,hy],show decide (x<0)=false from by simp[hx],gW,du,Int.mul_neg]
  omega
 ·rw[show(x.natAbs:Int)=x from by omega,show(y.natAbs:Int)=y from by omega] at h
  rw[show(!(decide (x<0)==decide (y<0)))=false from by simp[hx,hy],show decide (x<0)=false from by simp[hx],du,du]
  omega
theorem MS {x:Int}(hy:y≠0):0≤(x.natAbs:Int)%y.natAbs∧(x.natAbs:Int)%y.natAbs<y.natAbs:=⟨Int.emod_nonneg _ (by omega),nQ _ (by omega)⟩
theorem yH {x:Int}(hy:y≠0) (h:r0 x y=0∨(r0 x y<0↔y<0)):x.fdiv y=q0 x y∧x.fmod y=r0 x y:=by
 refine Ak hy VY ?_ ?_
 all_goals
  have:=MS (x:=x) hy
  unfold r0 at*
  by_cases hx:x<0
  ·simp only[hx,decide_true,gW] at*;omega
  ·simp only[hx,decide_false,du] at*;omega
theorem Gq {x:Int}(hy:y≠0) (h0:r0 x y≠0) (h: ¬(r0 x y<0↔y<0)):x.fdiv y=q0 x y-1∧x.fmod y=r0 x y+y:=by
 refine Ak hy ?_ ?_ ?_
 ·have:=VY (x:=x) (y:=y)
  rw[Int.mul_sub];omega
 all_goals
  have:=MS (x:=x) hy
  unfold r0 at*
  by_cases hx:x<0
  ·simp only[hx,decide_true,gW] at*;omega
  ·simp only[hx,decide_false,du] at*;omega
theorem FS:(dG y.natAbs).length=0↔y=0:=by
 rw[lJ,e8];omega
theorem rT (h:decide (((dG r.natAbs).length:Int)>0)=true):r≠0:=by
 intro e
 have:=FS.2 e
 grind
theorem rE (h:decide (((dG r.natAbs).length:Int)>0)=false):r=0:=by
 simp only[decide_eq_false_iff_not] at h
 exact FS.1 (by omega)
theorem E7 (h:(!(decide (a<0)==decide (b<0)))=true): ¬(a<0↔b<0):=by simpa using h
theorem FT (h:(!(decide (a<0)==decide (b<0)))=false):(a<0↔b<0):=by simpa using h
theorem Sz.q0 {x:Int}(hx:Sz k x):Sz k (q0 x y):=by
 refine hx.of_le ?_
 have h1:(x.natAbs:Int)/(y.natAbs:Int)≤x.natAbs:=Int.ediv_le_self _ (by omega)
 have h2:0≤(x.natAbs:Int)/(y.natAbs:Int):=s9 (by omega) (by omega)
 unfold Go.Proofs.YtkmdgigkbhmilaaGreat.q0
 generalize (!(decide (x<0)==decide (y<0)))=s
 cases s
 ·rw[du];omega
 ·rw[gW];omega
theorem Sz.r0 {x:Int}(hy:y≠0) (h:Sz k y):Sz k (r0 x y):=by
 refine h.of_le ?_
 have:=MS (x:=x) hy
 unfold Go.Proofs.YtkmdgigkbhmilaaGreat.r0
 generalize decide (x<0)=s
 cases s
 ·rw[du];omega
 ·rw[gW];omega
theorem Fj {c:Int}(h1:0≤a) (h2:0≤c):Int.gcd c (a%c)=Int.gcd a c:=by
 obtain⟨m,rfl⟩:=zo h1
 obtain⟨n,rfl⟩:=zo h2
 show Nat.gcd n (m%n)=Nat.gcd m n
 rw[Nat.gcd_comm m n,Nat.gcd_rec n m,Nat.gcd_comm]
structure GInv (x y a c:Int):Prop where
 sa:Sz 100000000 a
 sc:Sz 100000000 c
 a0:0≤a
 c0:0≤c
 g:Int.gcd a c=Int.gcd x y
theorem GInv.start {x:Int}(hx:Sz 100000000 x) (hy:Sz 100000000 y):GInv x y (sg false (x.natAbs:Int)) (sg false (y.natAbs:Int)):=by
 rw[du,du]
 exact⟨hx.of_le (by omega),hy.of_le (by omega),by omega,by omega,rfl⟩
theorem GInv.step {x c:Int}(h:GInv x y a c) (hc:c≠0):GInv x y c (sg false ((a.natAbs:Int)%c.natAbs)):=by
 rw[du]
 have h1:=h.a0
 have h2:=h.c0
 have e1:(a.natAbs:Int)=a:=by omega
 have e2:(c.natAbs:Int)=c:=by omega
 rw[e1,e2]
 have h3:=oO a hc
 have h4:=nQ a (show 0<c by omega)
 exact⟨h.sc,h.sc.of_le (by omega),h2,h3,by rw[←h.g,Fj h1 h2]⟩
theorem GInv.less {x c:Int}(h:GInv x y a c) (hc:c≠0):(sg false ((a.natAbs:Int)%c.natAbs)).toNat<c.toNat:=by
 rw[du]
 have:=h.c0
 have:=MS (x:=a) hc
 omega
theorem GInv.done {x c:Int}(h:GInv x y a c) (hc:c=0):(Int.gcd x y:Int)=sg false (a.natAbs:Int):=by
 rw[←h.g,hc,du];simp
structure GInv2 (x y u v:Int):Prop where
 u0:0≤u
 u1:u≤18446744073709551615
 v0:0≤v
 v1:v≤18446744073709551615
 g:Int.gcd u v=Int.gcd x y
theorem GInv.word {x c:Int}(h:GInv x y a c) (ha:decide (a.natAbs<1000000000000000000)=true) (hc:decide (c.natAbs<1000000000000000000)=true):
 GInv2 x y (if a.natAbs<1000000000000000000 then(a.natAbs:Int) else 0) (if c.natAbs<1000000000000000000 then(c.natAbs:Int) else 0):=by
 rw[decide_eq_true_eq] at ha hc
 rw[if_pos ha,if_pos hc]
 exact⟨by omega,by omega,by omega,by omega,by rw[←h.g];rfl⟩
theorem GInv2.step {x v:Int}(h:GInv2 x y u v) (hv:v>0):GInv2 x y v (u.tmod v):=by
 have h1:=h.u0
 rw[lk h1]
 have h3:=oO u (show v≠0 by omega)
 have h4:=nQ u hv
 exact⟨h.v0,h.v1,h3,by have:=h.v1;omega,by rw[←h.g,Fj h1 h.v0]⟩
theorem GInv2.less {x v:Int}(h:GInv2 x y u v) (hv:v>0):(u.tmod v).toNat<v.toNat:=by
 rw[lk h.u0]
 have h4:=nQ u hv
 omega
theorem GInv2.done {x v:Int}(h:GInv2 x y u v) (hv:v≤0):(Int.gcd x y:Int)=sg false u:=by
 have h0:=h.v0
 have h1:=h.u0
 rw[←h.g,show v=0 from by omega,du];simp;omega
theorem K1 (h:Lim xs):trm xs=dG (val xs).natAbs:=by
 have h0:=dg h
 rw[JM (sO xs) h.trm,jc]
 grind
def cM (xs:List Int):CellD:=.s xs.length (xs.map (CellD.i .u32))
theorem U5 (e:Int):cL e=cM (dG e.natAbs):=rfl
theorem Ou (h:Lim xs):cL (val xs)=cM (trm xs):=by rw[U5,K1 h]
theorem jM (xs:List Int):(xs.map (CellD.i .u32)).length=xs.length*1:=by simp
theorem ll (h:i<xs.length):((xs.map (CellD.i .u32)).drop (i*1))[0]? =some (.i .u32 (xs.getD i 0)):=by grind
theorem abo (h:i<xs.length):(xs.map (CellD.i .u32))[i*1]? =some (.i .u32 (xs.getD i 0)):=by grind
theorem qX {x:Int}(h:i<xs.length):(xs.map (CellD.i .u32)).take (i*1)++[CellD.i .u32 x]++(xs.map (CellD.i .u32)).drop (i*1+1)=(xs.set i x).map (CellD.i .u32):=by
 rw[List.set_eq_take_append_cons_drop,if_pos h]
 simp
theorem dH (h:Lim xs) (i:Nat):0≤xs.getD i 0∧xs.getD i 0<1000000000:=by
 rw[List.getD]
 cases hx:xs[i]? with
 |none=>simp
 |some x=>exact h.at_ hx
theorem getD_some (h:i<xs.length):xs[i]? =some (xs.getD i 0):=by grind
theorem sG {x:Int}(h0: -9223372036854775808≤x) (h1:x≤9223372036854775807):IntKind.i64.wrap x=x:=by unfold IntKind.wrap;simp[IntKind.bits,IntKind.signed];omega
theorem jk {x:Int}(h0:0≤x) (h1:x≤18446744073709551615):IntKind.u64.wrap x=x:=by unfold IntKind.wrap;simp[IntKind.bits,IntKind.signed];omega
theorem rM {x:Int}(h0:0≤x) (h1:x≤4294967295):IntKind.u32.wrap x=x:=by unfold IntKind.wrap;simp[IntKind.bits,IntKind.signed];omega
theorem bL (h0: -9223372036854775808≤a+b) (h1:a+b≤9223372036854775807):BV .add .i64 a b=some (a+b):=congrArg some (sG h0 h1)
theorem fB {y:Operand}{ty:TypeId}{j:Nat}(hj:j<9223372036854775807) (h:(dc T x,dc T y,gd ops ⟨dst,.binOp .add xt x y yt,ty,pos,af,g⟩ T)=(some (.v (.c (.i .i64 j))),some (.v (.c (.i .i64 1))),some true)):Sem P ops ⟨dst,.binOp .add xt x y yt,ty,pos,af,g⟩ T B (.r (.v (.c (.i .i64 ((j+1:Nat):Int))))):=
 gI (congrArg Prod.fst h) (congrArg (fun q=>q.2.1) h) ((bL (by omega) (by omega)).trans (congrArg some (by omega))) (congrArg (fun q=>q.2.2) h)
theorem bT (h0: -9223372036854775808≤a-b) (h1:a-b≤9223372036854775807):BV .sub .i64 a b=some (a-b):=congrArg some (sG h0 h1)
theorem gy (h0:0≤a+b) (h1:a+b≤18446744073709551615):BV .add .u64 a b=some (a+b):=congrArg some (jk h0 h1)
theorem Im (h0:0≤a-b) (h1:a-b≤18446744073709551615):BV .sub .u64 a b=some (a-b):=congrArg some (jk h0 h1)
theorem iT (h0:0≤a*b) (h1:a*b≤18446744073709551615):BV .mul .u64 a b=some (a*b):=congrArg some (jk h0 h1)
theorem og (h0:0≤a+b) (h1:a+b≤4294967295):BV .add .u32 a b=some (a+b):=congrArg some (rM h0 h1)
theorem qv (h0:0≤a-b) (h1:a-b≤4294967295):BV .sub .u32 a b=some (a-b):=congrArg some (rM h0 h1)
theorem MD (h1:0<k) (hk:k≤xs.length) (hT:trm (xs.take k)=trm xs) (h:((xs.take k).getD (k-1) 0==0)=true):trm (xs.take (k-1))=trm xs:=by
 obtain⟨j,rfl⟩: ∃j,k=j+1:=⟨k-1,by omega⟩
 rw[Nat.add_sub_cancel] at*
 have hx:=getD_some (xs:=xs) (i:=j) (by omega)
 rw[←hT,rj hx (by simpa using h)]
theorem MP (h1:0<k) (hk:k≤xs.length) (hT:trm (xs.take k)=trm xs) (h:((xs.take k).getD (k-1) 0==0)=false):trm xs=xs.take k:=by
 obtain⟨j,rfl⟩: ∃j,k=j+1:=⟨k-1,by omega⟩
 have hx:=getD_some (xs:=xs) (i:=j) (by omega)
 rw[←hT,rb hx (by simpa using h)]
section
variable {P:Program}{ops:Array Oper}{T:TF}{B:BF}
theorem kv {y:Operand}{k:IntKind}{m n:Int}
 (hx:dc T x=some (.v (.c (.i k m)))) (hy:dc T y=some (.v (.c (.i k n)))) (h0:n≠0) (hr:k.wrap (m.tdiv n)=r) (hg:gd ops ⟨dst,.binOp .quo xt x y yt,ty,pos,af,g⟩ T=some true):
 Sem P ops ⟨dst,.binOp .quo xt x y yt,ty,pos,af,g⟩ T B (.r (.v (.c (.i k r)))):=by subst hr;exact UL hx hy h0 hg
theorem fJ {y:Operand}{k:IntKind}{m n:Int}
 (hx:dc T x=some (.v (.c (.i k m)))) (hy:dc T y=some (.v (.c (.i k n)))) (h0:n≠0) (hr:m.tmod n=r) (hg:gd ops ⟨dst,.binOp .rem xt x y yt,ty,pos,af,g⟩ T=some true):
 Sem P ops ⟨dst,.binOp .rem xt x y yt,ty,pos,af,g⟩ T B (.r (.v (.c (.i k r)))):=by subst hr;exact FD hx hy h0 hg
theorem cS {k1 k2 k:IntKind}{m:Int}
 (h1:P.underlying t1=some (.int k1)) (h2:P.underlying t2=some (.int k2)) (hx:dc T x=some (.v (.c (.i k m)))) (hr:k2.wrap m=r) (hg:gd ops ⟨dst,.convert t1 t2 x,ty,pos,af,g⟩ T=some true):
 Sem P ops ⟨dst,.convert t1 t2 x,ty,pos,af,g⟩ T B (.r (.v (.c (.i k2 r)))):=by subst hr;exact Ry h1 h2 hx hg
theorem wM {m:Int}
 (hU:ua P U=some (e,1,by_,[z])) (hx:dc T x=some (.v (.c (.i .u32 m)))) (hg:gd ops ⟨dst,.buildSlice U 1 #[(0,x)],ty,pos,af,g⟩ T=some true):
 Sem P ops ⟨dst,.buildSlice U 1 #[(0,x)],ty,pos,af,g⟩ T B (.r (.v (.c (cM [m])))):=by
 have h:=jC (B:=B) (n:=1) (us:=[.i .u32 m]) (dps:=[(0,.c (.i .u32 m))]) hU (by unfold vC;rw[hx];rfl) rfl (by omega) (by omega) hg
 refine⟨qi rfl,fun V β a w hs=>?_⟩
 obtain⟨hw,hg⟩:=h V β a w hs
 refine⟨hw,hg.mono ?_⟩
 rintro v w' ⟨vs,rfl,rfl,hr⟩
 refine⟨?_,(fu _ w).alloc (cK _) _⟩
 have hkeep:=Keep.below (av:=V) ((fu w.heap.size w).alloc (cK _) (.cells vs e))
 have hr2:=hr.keep hkeep
 have hvl:vs.size=1:=by have:=hr.1;simpa using this
 refine .s w.heap.size 0 1 1 1 _ (fun j=>vs.getD j undef) (by omega) (by omega) (by omega) rfl (by simp) (fun h=>by have:=hs.av _ h;omega) (fun j hj=>?_) (fun j u hj=>?_)
 ·simp_all
 ·have hlt:j<1:=by have:=(jU.1 hj).1;simpa using this
  refine hr2.2 j _ u ?_ hj
  have:j<vs.size:=by omega
  simp[Array.getD,this]
theorem EK {y:Operand}
 (hU:ua P U=some (e,m,by_,zs)) (hx:dc T x=some (.o k n n)) (hy:dc T y=some (.v (.c (.s 0 [])))) (hb:B k=some (e,cs)) (hcs:cs.length=n*m) (hn:0<n) (hn2:n≤9223372036854775807)
 (hg:gd ops ⟨dst,.call ⟨.builtin .append,#[x,y],#[U,U]⟩,ty,pos,af,g⟩ T=some true):
 Sem P ops ⟨dst,.call ⟨.builtin .append,#[x,y],#[U,U]⟩,ty,pos,af,g⟩ T B (.c k (.v (.c (.s n cs)))):=by
 refine⟨rfl,by rw[hb];simp,fun V β a w hs=>⟨fa hs hg,?_⟩⟩
 have e1:a.eval x=.slice (some ⟨β k,0,none⟩) n n:=aK hs (x:=x) (by simp[Op.operands,Call.operands]) hx
 have h2:RdC V w (a.eval y) (.s 0 []):=aK hs (x:=y) (by simp[Op.operands,Call.operands]) hy
 have h3: ∃A c,a.eval y=.slice A 0 c:=by
  generalize a.eval y=v at h2
  cases h2 with
  |s0 A c _=>exact⟨A,c,rfl⟩
  |s b off c sz _ _ cv h0=>omega
 obtain⟨A,c,e2⟩:=h3
 obtain⟨hu,i,z,hi,hz,hsz,hby,_,hzr⟩:=jh hU
 obtain⟨hvk,vs,ev,hr⟩:=hs.box k e cs hb
 have hfirst: ∀w,(Builtin.firstCells m 0 (.slice A 0 c)).run P w=.ok #[] w:=by
  intro w
  cases A with
  |none=>rfl
  |some A=>simp[Builtin.firstCells,loadCells,loadCellsFrom]
 have hexec:(execOp a.eval ⟨dst,.call ⟨.builtin .append,#[x,y],#[U,U]⟩,ty,pos,af,g⟩).run P w=.ok (.value (.slice (some ⟨β k,0,none⟩) n n)) w:=by
  simp only[execOp,resolve,invoke,builtin,fI,gG,fM,uh,pt,uR,e1,e2]
  simp[Builtin.append_,run_underlying hu,sizeOf,typeInfo,program,Sem.run,hi,hsz,Builtin.lenOf,hfirst,storeCells]
 unfold Gives
 rw[hexec]
 refine⟨?_,fu _ _⟩
 have hkeep:Keep V (fun b=>V b∧b≠β k) w w:=⟨Nat.le_refl _,fun _ _ _=>rfl,fun _ _ h=>h.1⟩
 have hr2:=hr.keep hkeep
 have hvl:vs.size=n*m:=by have:=hr.1;simp at this;omega
 refine .s (β k) 0 n m n cs (fun j=>vs.getD j undef) hn (cK _) hn2 hcs (hs.av _ hvk) (fun h=>h.2 rfl) (fun j hj=>?_) (fun j u hj=>?_)
 ·rw[ip,dk ev]
  have:j<vs.size:=by omega
  simp[Array.getD,this]
 ·have hlt:j<cs.length:=(jU.1 hj).1
  refine hr2.2 j _ u ?_ hj
  have:j<vs.size:=by omega
  simp[Array.getD,this]
theorem De {y:Operand}
 (hU:ua P U=some (e,1,4,[z])) (hx:dc T x=some (.o k 1 1)) (hy:dc T y=some (.v (.c (cM rs)))) (hb:B k=some (e,[.i .u32 d])) (hl:rs.length≤1000000000)
 (hg:gd ops ⟨dst,.call ⟨.builtin .append,#[x,y],#[U,U]⟩,ty,pos,af,g⟩ T=some true):
 Sem P ops ⟨dst,.call ⟨.builtin .append,#[x,y],#[U,U]⟩,ty,pos,af,g⟩ T B (.c k (.v (.c (cM (d::rs))))):=by
 cases rs with
 |nil=>exact EK (n:=1) hU hx hy hb rfl (by omega) (by omega) hg
 |cons r rs=>
  have:=xB (us:=(d::r::rs).map (CellD.i .u32)) hU hx hy hb rfl (jM _) (by omega) (by simp) (by omega) (by simp at hl⊢;omega) (by simp at hl⊢;unfold maxLen;omega) rfl hg
  unfold cM
  grind
theorem vJ {t:Nat}{zs:List Int}
 (ht:aM t tm=some (.o k n' c')) (hb:aM k bx=some (U,zs.map (CellD.i .u32))) (hm:zs.length=c') (hn:n'≤c') (hc:c'≤9223372036854775807) (hu:zs.take n'=ys)
 (h:Dw P c ⟨N,(t,.v (.c (cM ys)))::lN k tm,kz k bx⟩ Q):Dw P c ⟨N,tm,bx⟩ Q:=by
 refine dj ht hb (m:=1) (us:=ys.map (CellD.i .u32)) (by simp[hm]) hn hc (by rw[Nat.mul_one,←List.map_take,hu]) ?_
 unfold cM at h
 grind
theorem Gf {j:Nat}
 (hU:wF P U=some 1) (hx:dc T x=some (.v (.c (cM xs)))) (hh:dc T h=some (.v (.c (.i ki j)))) (hj:j≤xs.length) (hg:gd ops ⟨dst,.slice U x none (some h) none,ty,pos,af,g⟩ T=some true):
 Sem P ops ⟨dst,.slice U x none (some h) none,ty,pos,af,g⟩ T B (.r (.v (.c (cM (xs.take j))))):=by
 have:=mx (B:=B) hU hx hh (by omega) (jM xs) rfl hg
 have e:CellD.s ((j:Int).toNat) ((xs.map (CellD.i .u32)).take ((j:Int).toNat*1))=cM (xs.take j):=by
  unfold cM
  rw[Int.toNat_natCast,Nat.mul_one,fQ,fT hj,List.map_take]
 grind
theorem jq {c:Nat}
 (hU:wF P U=some m) (hx:dc T x=some (.o k n c)) (hh:dc T h=some (.v (.c (.i ki q)))) (hq:q≤c) (hg:gd ops ⟨dst,.slice U x none (some h) none,ty,pos,af,g⟩ T=some true):
 Sem P ops ⟨dst,.slice U x none (some h) none,ty,pos,af,g⟩ T B (.r (.o k q c)):=
 bQ hg (fun k' e=>by
  obtain rfl:k=k':=by injection e
  exact qR (ops:=ops) (o:=⟨dst,.slice U x none (some h) none,ty,pos,af,g⟩) (by simp[Op.operands]) hx rfl) (fun V β a w hs=>by
  have e:a.eval x=.slice (some ⟨β k,0,none⟩) n c:=aK hs (x:=x) (by simp[Op.operands]) hx
  have h2:=jX (aK hs (x:=h) (by simp[Op.operands]) hh)
  unfold wF at hU
  split at hU
  case h_2=>cases hU
  rename_i el hul
  cases hinf:P.info? el with
  |none=>rw[hinf] at hU;cases hU
  |some inf=>
   rw[hinf] at hU
   simp at hU
   have hso: ∀w,(sizeOf el).run P w=.ok m w:=fun w=>by unfold sizeOf typeInfo;simp[program,Sem.run,hinf,hU]
   refine⟨.slice (some ⟨β k,0,none⟩) q c,?_,rfl⟩
   simp[execOp,Instr.sliceAt,Instr.slice,run_underlying hul,e,h2,Instr.sliceBounds,Instr.sliceBound,asIntOf,hq,hso,Addr.add])
end
end Go.Proofs.YtkmdgigkbhmilaaGreat
