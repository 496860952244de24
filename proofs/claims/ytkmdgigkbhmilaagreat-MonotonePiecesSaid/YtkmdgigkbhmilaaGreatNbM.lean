/-Data:a full slice made of values,appended to from own memory;nil slices. -/
import Derived.Test.YtkmdgigkbhmilaaGreatNbL
namespace Go.Proofs.YtkmdgigkbhmilaaGreat
open Go Go.RowKit
variable {ty:TypeId}{pos:String}{af:Array Edge}{g:Option (Nat×Bool)}{dst:Option Nat}
section
variable {P:Program}{ops:Array Oper}{T:TF}{B:BF}
theorem jB {U e:TypeId}{ps:Array (Nat×Operand)}{n m by_:Nat}{zs us:List CellD}{dps:List (Nat×D0)}
 (hU:pc P U=some (e,m,by_,zs)) (hp:pT T ps.toList=some dps) (hf:qG (fun i=>some (i*m,m)) (List.replicate n zs).flatten dps=some us) (hl:us.length=n*m) (hn:n*m≤16777216) (hm:0<n*m)
 (hg:gd ops ⟨dst,.buildSlice U n ps,ty,pos,af,g⟩ T=some true):Sem P ops ⟨dst,.buildSlice U n ps,ty,pos,af,g⟩ T B (.r (.f n us)):=by
 have h:=gg (B:=B) hU hp hf hn hm hg
 refine⟨mG rfl,fun V β a w hs=>?_⟩
 obtain⟨hw,hg⟩:=h V β a w hs
 refine⟨hw,hg.mono ?_⟩
 rintro v w' ⟨vs,rfl,rfl,hr⟩
 refine⟨⟨⟨_,rfl⟩,?_⟩,(Below.refl _ w).alloc (Nat.le_refl _) _⟩
 have hkeep:=Keep.below (av:=V) ((Below.refl w.heap.size w).alloc (Nat.le_refl _) (.cells vs e))
 have hr2:=hr.keep hkeep
 have hvl:vs.size=n*m:=by have:=hr.1;rw[hl] at this;simpa using this
 have hn0:0<n:=by
  rcases Nat.eq_zero_or_pos n with h0|h0
  ·rw[h0,Nat.zero_mul] at hm;omega
  ·exact h0
 have hm0:0<m:=by
  rcases Nat.eq_zero_or_pos m with h0|h0
  ·rw[h0,Nat.mul_zero] at hm;omega
  ·exact h0
 have hnm:n≤n*m:=Nat.le_mul_of_pos_right n hm0
 refine RdC.s w.heap.size 0 n m n _ (fun j=>vs.getD j undef) hn0 (Nat.le_refl _) (by omega) hl (by simp) (fun h=>by have:=hs.av _ h;omega) (fun j hj=>?_) (fun j u hj=>?_)
 ·rw[Nat.zero_add,cE (heap_alloc_new w (.cells vs e))]
  have:j<vs.size:=by omega
  simp[Array.getD,this]
 ·have hlt:j<n*m:=by have:=(List.getElem?_eq_some_iff.1 hj).1;omega
  refine hr2.2 j _ u ?_ hj
  rw[Array.getElem?_toList]
  have:j<vs.size:=by omega
  simp[Array.getD,this]
theorem NK {V L:Nat→Prop}{w:World}{β:Nat→Nat}{a:Act}{k off q c m by_:Nat}{U e e2:TypeId}{cs ys zs:List CellD}(hU:pc P U=some (e,m,by_,zs)) (hs:Sees V L T B β a w) (hb:B k=some (e2,cs)) (hys:(cs.drop off).take (q*m)=ys)
 (hyl:ys.length=q*m) (hoff:0<q→off+q*m≤cs.length) (hqc:q≤c) (hc:c≤9223372036854775807): ∃news,Src P m U (.slice (some ⟨β k,off,none⟩) q c) q news w∧RdCs V w news ys:=by
 obtain⟨news,hsrc,hr⟩:=no hU (Fa hs hb hys hoff hqc hc) hyl
 obtain⟨hV,bs,e,hr2⟩:=hs.box k e2 cs hb
 refine⟨news,hsrc,?_⟩
 have hbl:bs.size=cs.length:=by have:=hr2.1;simpa using this
 have hr3:=(hr2.drop off).take (q*m)
 rw[hys] at hr3
 have hl:((bs.toList.drop off).take (q*m)).length=q*m:=by rw[hr3.1,hyl]
 have h2:=run_loadCells_list (P:=P) w ⟨β k,off,none⟩ ((bs.toList.drop off).take (q*m)) (fun j u hj=>by
  rw[jb,cE e]
  have hlt:j<q*m:=by have:=(List.getElem?_eq_some_iff.1 hj).1;omega
  rw[List.getElem?_take,if_pos hlt,List.getElem?_drop,Array.getElem?_toList] at hj
  exact hj)
 rw[hl] at h2
 have h1:(Builtin.firstCells m q (.slice (some ⟨β k,off,none⟩) q c)).run P w=.ok news.toArray w:=hsrc.cells
 have h3:=h1.symm.trans h2
 injection h3 with h4
 have h5:news=(bs.toList.drop off).take (q*m):=congrArg Array.toList h4
 rw[h5];exact hr3
theorem o4 {x y:Operand}{U e:TypeId}{n q m by_:Nat}{us ys zs:List CellD}
 (hU:pc P U=some (e,m,by_,zs)) (hx:di T x=some (.f n us)) (hsc: ∀V β a w,Sees V (gy ops ⟨dst,.call ⟨.builtin .append,#[x,y],#[U,U]⟩,ty,pos,af,g⟩) T B β a w→ ∃news,Src P m U (a.eval y) q news w∧RdCs V w news ys)
 (hus:us.length=n*m) (hys:ys.length=q*m) (hm:0<m) (hn0:0<n) (hbytes:(n+q)*by_≤140737488355328) (h63:n+q≤maxLen)
 (hg:gd ops ⟨dst,.call ⟨.builtin .append,#[x,y],#[U,U]⟩,ty,pos,af,g⟩ T=some true):
 Sem P ops ⟨dst,.call ⟨.builtin .append,#[x,y],#[U,U]⟩,ty,pos,af,g⟩ T B (.r (.v (.c (.s (n+q) (us++ys))))):=by
 refine⟨mG rfl,fun V β a w hs=>⟨d8 hs hg,?_⟩⟩
 obtain⟨⟨A,e1⟩,hxr⟩:(∃A,a.eval x=.slice A n n)∧RdV V w (a.eval x) (.c (.s n us)):=aS hs (x:=x) (by simp[Op.operands,Call.operands]) hx
 replace hxr:RdC V w (a.eval x) (.s n us):=hxr
 obtain⟨news,hsrc,hrn⟩:=hsc _ _ _ _ hs
 obtain⟨olds,hsrc0,hro⟩:=no hU hxr hus
 obtain⟨hu,i,z,hi,hz,hsz,hby,_,hzr⟩:=gI hU
 subst hsz
 have hnl:news.length=q*i.size:=hsrc.newsLen
 rw[e1] at hxr hsrc0
 unfold Gives
 by_cases hq:q=0
 ·subst hq
  have hn1:news=[]:=List.length_eq_zero_iff.1 (by rw[hnl,Nat.zero_mul])
  have hy1:ys=[]:=List.length_eq_zero_iff.1 (by rw[hys,Nat.zero_mul])
  subst hn1 hy1
  have hrun:(Builtin.append_ #[U,U] ty #[.slice A n n,a.eval y]).run P w=.ok (.slice A n n) w:=by
   have hA: ∃b off,A=some ⟨b,off,none⟩:=by
    generalize hv:Value.slice A n n=v at hxr
    cases hxr with
    |s0 A' c hc=>omega
    |s b off c sz n' xs' cv h0 hnc hcm hlen hb hav hcell hr=>injection hv with h1;exact⟨b,off,h1⟩
   obtain⟨b,off,rfl⟩:=hA
   rcases hsrc.kind with⟨e',hk⟩|hk<;>simp[Builtin.append_,run_underlying hu,sizeOf,typeInfo,hi,hsrc.len,hsrc.cells,Addr.add_lit]<;>rfl
  have hexec:(execOp a.eval ⟨dst,.call ⟨.builtin .append,#[x,y],#[U,U]⟩,ty,pos,af,g⟩).run P w=.ok (.value (.slice A n n)) w:=by
   simp only[execOp,resolve,invoke,builtin,Sem.run_bind,Sem.run_pure,Result.andThen_ok,List.map_toArray,List.map_cons,List.map_nil,e1]
   rw[hrun]
   rfl
  rw[hexec]
  refine⟨?_,Below.refl _ w⟩
  rw[List.append_nil];exact hxr
 ·have hgrow:n<n+q:=by omega
  have hrun:=run_append_grow_src (P:=P) (w:=w) U U ty e i z hu hi hz A n n _ hsrc0.cellsD (a.eval y) q news hsrc hgrow (by have:maxLen=9223372036854775807:=rfl;omega) (growslice_fits hgrow (by rw[hby];exact hbytes))
  have hexec:(execOp a.eval ⟨dst,.call ⟨.builtin .append,#[x,y],#[U,U]⟩,ty,pos,af,g⟩).run P w=.ok (.value (.slice (some ⟨w.heap.size,0,none⟩) (n+q) (grownCap w (n+q) n e)))
   (w.drew.alloc (.cells ((olds++news).toArray++Builtin.zeroCells z.cells (grownCap w (n+q) n e-(n+q))) e)):=by
   simp only[execOp,resolve,invoke,builtin,Sem.run_bind,Sem.run_pure,Result.andThen_ok,List.map_toArray,List.map_cons,List.map_nil,e1]
   rw[hrun]
   rfl
  rw[hexec]
  have hbel:Below w.heap.size w (w.drew.alloc (.cells ((olds++news).toArray++Builtin.zeroCells z.cells (grownCap w (n+q) n e-(n+q))) e)):=(Below.refl _ w).drew.alloc (Nat.le_refl _) _
  refine⟨?_,hbel⟩
  have hrd:=(RdCs.append hro hrn).keep (Keep.below (av:=V) hbel)
  have hlenr:(olds++news).length=(n+q)*i.size:=by rw[List.length_append,hsrc0.newsLen,hnl,Nat.add_mul]
  refine RdC.s w.heap.size 0 (grownCap w (n+q) n e) i.size (n+q) _ (fun j=>(olds++news).getD j undef) (by omega) (grownCap_ge _ _ _ _) (grownCap_le_maxLen _ _ _ _ h63) (by rw[←hrd.1];exact hlenr) (by simp) (fun h=>by have:=hs.av _ h;omega) (fun j hj=>?_) (fun j u hj=>?_)
  ·have hlt:j<(olds++news).length:=by omega
   rw[Nat.zero_add]
   show(w.drew.alloc _).cell? ⟨w.drew.heap.size,j,none⟩=_
   rw[cE (U:=e) (vs:=(olds++news).toArray++Builtin.zeroCells z.cells (grownCap w (n+q) n e-(n+q))) (heap_alloc_new w.drew _)]
   rw[Array.getElem?_append_left (by simpa using hlt)]
   simp only[List.getElem?_toArray,List.getD]
   rw[List.getElem?_eq_getElem hlt];rfl
  ·have hlt:j<(olds++news).length:=by rw[hrd.1];exact(List.getElem?_eq_some_iff.1 hj).1
   have hv:(olds++news)[j]? =some ((olds++news)[j]):=List.getElem?_eq_getElem hlt
   simp only[List.getD,hv,Option.getD_some]
   exact hrd.2 j _ u hv hj
theorem ng {x y:Operand}{U e e2:TypeId}{n q m by_ k2 off c2:Nat}{us ys zs cs2:List CellD}
 (hU:pc P U=some (e,m,by_,zs)) (hx:di T x=some (.f n us)) (hy:di T y=some (.w k2 off q c2)) (hb2:B k2=some (e2,cs2)) (hys:(cs2.drop off).take (q*m)=ys) (hoff:0<q→off+q*m≤cs2.length) (hqc:q≤c2) (hc2:c2≤maxLen)
 (hus:us.length=n*m) (hyl:ys.length=q*m) (hm:0<m) (hn0:0<n) (hbytes:(n+q)*by_≤140737488355328) (h63:n+q≤maxLen)
 (hg:gd ops ⟨dst,.call ⟨.builtin .append,#[x,y],#[U,U]⟩,ty,pos,af,g⟩ T=some true):
 Sem P ops ⟨dst,.call ⟨.builtin .append,#[x,y],#[U,U]⟩,ty,pos,af,g⟩ T B (.r (.v (.c (.s (n+q) (us++ys))))):=
 o4 hU hx (fun V β a w hs=>by
  have hmax:maxLen=9223372036854775807:=rfl
  have e1:a.eval y=.slice (some ⟨β k2,off,none⟩) q c2:=aS hs (x:=y) (by simp[Op.operands,Call.operands]) hy
  rw[e1]
  exact NK hU hs hb2 hys hyl hoff hqc (by omega)) hus hyl hm hn0 hbytes h63 hg
theorem rN {x y:Operand}{U e:TypeId}{n m by_:Nat}{us zs:List CellD}
 (hU:pc P U=some (e,m,by_,zs)) (hx:di T x=some (.f n us)) (hy:di T y=some .z) (hus:us.length=n*m) (hm:0<m) (hn0:0<n) (hbytes:n*by_≤140737488355328) (h63:n≤maxLen)
 (hg:gd ops ⟨dst,.call ⟨.builtin .append,#[x,y],#[U,U]⟩,ty,pos,af,g⟩ T=some true):
 Sem P ops ⟨dst,.call ⟨.builtin .append,#[x,y],#[U,U]⟩,ty,pos,af,g⟩ T B (.r (.v (.c (.s n us)))):=by
 have h:=o4 (B:=B) (q:=0) (ys:=[]) hU hx (fun V β a w hs=>no hU (by
  have e1:a.eval y=.slice none 0 0:=aS hs (x:=y) (by simp[Op.operands,Call.operands]) hy
  rw[e1];exact .s0 _ _ (by decide)) (by simp)) hus (by simp) hm hn0 hbytes h63 hg
 rw[List.append_nil] at h
 exact h
theorem tI {x h:Operand}{U:TypeId}{m:Nat}{ki:IntKind}
 (hU:qP P U=some m) (hx:di T x=some .z) (hh:di T h=some (.v (.c (.i ki 0)))) (hg:gd ops ⟨dst,.slice U x none (some h) none,ty,pos,af,g⟩ T=some true):
 Sem P ops ⟨dst,.slice U x none (some h) none,ty,pos,af,g⟩ T B (.r .z):=
 bO hg (fun k' e=>by cases e) (fun V β a w hs=>by
  have e:a.eval x=.slice none 0 0:=aS hs (x:=x) (by simp[Op.operands]) hx
  have h2:=RdC.int_eq (aS hs (x:=h) (by simp[Op.operands]) hh)
  unfold qP at hU
  split at hU
  case h_2=>cases hU
  rename_i el hul
  cases hinf:P.info? el with
  |none=>rw[hinf] at hU;cases hU
  |some inf=>
   rw[hinf] at hU
   simp at hU
   have hso: ∀w,(sizeOf el).run P w=.ok m w:=fun w=>by unfold sizeOf typeInfo;simp[program,Sem.run,hinf,hU]
   refine⟨.slice none 0 0,?_,rfl⟩
   simp[execOp,Instr.sliceAt,Instr.slice,run_underlying hul,e,h2,Instr.sliceBounds,Instr.sliceBound,asIntOf,hso])
theorem rZ {x h:Operand}{U:TypeId}{m:Nat}{ki:IntKind}
 (hU:qP P U=some m) (hx:di T x=some .z) (hh:di T h=some (.v (.c (.i ki 0)))) (hg:gd ops ⟨dst,.slice U x (some h) none none,ty,pos,af,g⟩ T=some true):
 Sem P ops ⟨dst,.slice U x (some h) none none,ty,pos,af,g⟩ T B (.r .z):=
 bO hg (fun k' e=>by cases e) (fun V β a w hs=>by
  have e:a.eval x=.slice none 0 0:=aS hs (x:=x) (by simp[Op.operands]) hx
  have h2:=RdC.int_eq (aS hs (x:=h) (by simp[Op.operands]) hh)
  unfold qP at hU
  split at hU
  case h_2=>cases hU
  rename_i el hul
  cases hinf:P.info? el with
  |none=>rw[hinf] at hU;cases hU
  |some inf=>
   rw[hinf] at hU
   simp at hU
   have hso: ∀w,(sizeOf el).run P w=.ok m w:=fun w=>by unfold sizeOf typeInfo;simp[program,Sem.run,hinf,hU]
   refine⟨.slice none 0 0,?_,rfl⟩
   simp[execOp,Instr.sliceAt,Instr.slice,run_underlying hul,e,h2,Instr.sliceBounds,Instr.sliceBound,asIntOf,hso])
theorem xH {U:TypeId}{x:Operand}{m:Nat}
 (hU:qP P U=some m) (hx:di T x=some .z) (hg:gd ops ⟨dst,.call ⟨.builtin .len,#[x],#[U]⟩,ty,pos,af,g⟩ T=some true):Sem P ops ⟨dst,.call ⟨.builtin .len,#[x],#[U]⟩,ty,pos,af,g⟩ T B (.r (.v (.c (.i .i64 0)))):=
 bO hg (mG rfl) (fun V β a w hs=>by
  have e:a.eval x=.slice none 0 0:=aS hs (x:=x) (by simp[Op.operands,Call.operands]) hx
  unfold qP at hU
  split at hU
  case h_2=>cases hU
  rename_i el hul
  refine⟨.int .i64 0,?_,.i _ _⟩
  simp[execOp,resolve,invoke,builtin,Builtin.len_,e,run_underlying hul,goInt])
end
section
variable {P:Program}{ops:Array Oper}{os:List Oper}{K:St→Prop}{N:Nat}{tm:List (Nat×DV)}{bx:List (Nat×TypeId×List CellD)}
theorem lW {t:Nat}{x y:Operand}{U e:TypeId}{n c q m by_ k N':Nat}{us rest ys zs cs zs':List CellD}
 (hU:pc P U=some (e,m,by_,zs)) (hx:di (fun s=>aT s tm) x=some (.o k n c)) (hy:di (fun s=>aT s tm) y=some (.v (.c (.s q ys)))) (hb:aT k bx=some (e,cs)) (hcs:cs=us++rest) (hus:us.length=n*m) (hr:rest.length=(c-n)*m)
 (hys:ys.length=q*m) (hm:0<m) (hnc:n≤c) (hcm:c≤maxLen) (hbytes:(n+q)*by_≤140737488355328) (h63:n+q≤maxLen) (hd:t=k∨aT t bx=none) (hN:n+q=N') (hz:us++ys=zs')
 (hg:gd ops ⟨some t,.call ⟨.builtin .append,#[x,y],#[U,U]⟩,ty,pos,af,g⟩ (fun s=>aT s tm)=some true)
 (hk: ∀c' rest',N'≤c'→c'≤maxLen→rest'.length=(c'-N')*m→dl P ops os ⟨N,(t,.o t N' c')::jg k tm,(t,e,zs'++rest')::iK k bx⟩ K):
 dl P ops (⟨some t,.call ⟨.builtin .append,#[x,y],#[U,U]⟩,ty,pos,af,g⟩::os) ⟨N,tm,bx⟩ K:=by
 subst hcs hN hz
 exact mQ hU hx hy hb hus hr hys hm hnc hcm hbytes h63 hd hg hk
theorem qm {t:Nat}{x y:Operand}{U e:TypeId}{q m by_:Nat}{ys zs zs':List CellD}
 (hU:pc P U=some (e,m,by_,zs)) (hx:di (fun s=>aT s tm) x=some .z) (hy:di (fun s=>aT s tm) y=some (.v (.c (.s q ys)))) (hys:ys.length=q*m) (hq:0<q)
 (hbytes:q*by_≤140737488355328) (h63:q≤maxLen) (hd:aT t bx=none) (hz:ys=zs')
 (hg:gd ops ⟨some t,.call ⟨.builtin .append,#[x,y],#[U,U]⟩,ty,pos,af,g⟩ (fun s=>aT s tm)=some true)
 (hk: ∀c' rest',q≤c'→c'≤maxLen→rest'.length=(c'-q)*m→dl P ops os ⟨N,(t,.o t q c')::tm,(t,e,zs'++rest')::bx⟩ K):
 dl P ops (⟨some t,.call ⟨.builtin .append,#[x,y],#[U,U]⟩,ty,pos,af,g⟩::os) ⟨N,tm,bx⟩ K:=by
 subst hz
 exact mm hU hx hy hys hq hbytes h63 hd hg hk
end
def o9 (L:Nat→Bool):List (Nat×Nat×DV)→List (Nat×DV)→List (Nat×DV)
 |[],tm=>tm
 |(i,d,x)::r,tm=>o9 L r (bif L i then(d,x)::tm else tm)
def oF (L:Nat→Bool):List (Nat×Nat×DV)→Nat→Option DV
 |[],_=>none
 |(i,d,x)::r,t=>(oF L r t).or (if d=t∧L i=true then some x else none)
theorem fy (L:Nat→Bool) (t:Nat): ∀(l:List (Nat×Nat×DV)) (tm:List (Nat×DV)),aT t (o9 L l tm)=(oF L l t).or (aT t tm)
 |[],tm=>by simp[o9,oF]
 |(i,d,x)::r,tm=>by
  show aT t (o9 L r _)=_
  rw[fy L t r]
  show _=((oF L r t).or _).or _
  rw[Option.or_assoc]
  congr 1
  cases h:L i with
  |false=>simp
  |true=>
   show aT t ((d,x)::tm)=_
   rw[bq]
   by_cases e:d=t<;>simp[e]
theorem r9 {L:Nat→Bool}{t:Nat}{x:DV}: ∀ {l:List (Nat×Nat×DV)},oF L l t=some x→ ∃i,(i,t,x)∈l∧L i=true
 |(i,d,y)::r,h=>by
  have h:(oF L r t).or (if d=t∧L i=true then some y else none)=some x:=h
  cases h1:oF L r t with
  |some zz=>
   rw[h1] at h
   injection h with h
   subst h
   obtain⟨j,g1,g2⟩:=r9 h1
   exact⟨j,List.mem_cons_of_mem _ g1,g2⟩
  |none=>
   rw[h1,Option.none_or] at h
   split at h
   ·next e=>injection h with h;subst h;exact⟨i,by rw[e.1];exact List.mem_cons_self,e.2⟩
   ·cases h
theorem Kp {L:Nat→Bool}{t i:Nat}{x:DV}: ∀ {l:List (Nat×Nat×DV)},(∀i j y,(i,t,x)∈l→(j,t,y)∈l→y=x)→(i,t,x)∈l→L i=true→oF L l t=some x
 |(j,d,y)::r,hu,hm,hi=>by
  show(oF L r t).or (if d=t∧L j=true then some y else none)=some x
  cases h1:oF L r t with
  |some zz=>
   obtain⟨k,g1,g2⟩:=r9 h1
   rw[hu i k zz hm (List.mem_cons_of_mem _ g1)];rfl
  |none=>
   rw[Option.none_or]
   rcases List.mem_cons.1 hm with e|hm
   ·injection e with e1 e2
    injection e2 with e2 e3
    subst e1 e2 e3
    rw[if_pos ⟨rfl,hi⟩]
   ·rw[Kp (fun i j y a b=>hu i j y (List.mem_cons_of_mem _ a) (List.mem_cons_of_mem _ b)) hm hi] at h1
    cases h1
theorem zD {L:Nat→Bool}{t:Nat}: ∀ {l:List (Nat×Nat×DV)},(∀i x,(i,t,x)∈l→L i=false)→oF L l t=none:=by
 intro l h
 cases h1:oF L l t with
 |none=>rfl
 |some x=>
  obtain⟨i,g1,g2⟩:=r9 h1
  rw[h i x g1] at g2;cases g2
theorem qa {L M:Nat→Bool}{t:Nat}: ∀ {l:List (Nat×Nat×DV)},(∀i x,(i,t,x)∈l→L i=M i)→oF L l t=oF M l t
 |[],_=>rfl
 |(i,d,x)::r,h=>by
  show(oF L r t).or _=(oF M r t).or _
  rw[qa (l:=r) fun j y hm=>h j y (List.mem_cons_of_mem _ hm)]
  congr 1
  by_cases e:d=t
  ·subst e;rw[h i x List.mem_cons_self]
  ·simp[e]
section
variable {P:Program}{ops:Array Oper}
def da (P:Program) (ops:Array Oper) (C:List Nat) (bx:List (Nat×TypeId×List CellD)):Nat→List Oper→List (Nat×DV)→(List (Nat×DV)→Prop)→Prop
 |_,[],tm,K=>K tm
 |i,o::os,tm,K=>bif C.any (Nat.beq i) then da P ops C bx (i+1) os tm K else ∃x d,o.dst=some d∧Sem P ops o (fun s=>aT s tm) (fun k=>aT k bx) (.r x)∧iB x=none∧da P ops C bx (i+1) os ((d,x)::tm) K
theorem xv {C:List Nat}{bx:List (Nat×TypeId×List CellD)}{i:Nat}{o:Oper}{os:List Oper}{tm:List (Nat×DV)}{K:List (Nat×DV)→Prop}(hc:C.any (Nat.beq i)=true) (h:da P ops C bx (i+1) os tm K):da P ops C bx i (o::os) tm K:=by
 unfold da;rw[hc];exact h
theorem fw {C:List Nat}{bx:List (Nat×TypeId×List CellD)}{i d:Nat}{op:Op}{os:List Oper}{tm:List (Nat×DV)}{K:List (Nat×DV)→Prop}{x:DV}
 (hc:C.any (Nat.beq i)=false) (hs:Sem P ops ⟨some d,op,ty,pos,af,g⟩ (fun s=>aT s tm) (fun k=>aT k bx) (.r x)) (hx:iB x=none) (h:da P ops C bx (i+1) os ((d,x)::tm) K):da P ops C bx i (⟨some d,op,ty,pos,af,g⟩::os) tm K:=by
 unfold da;rw[hc];exact⟨x,d,rfl,hs,hx,h⟩
theorem vo {C:List Nat}{bx:List (Nat×TypeId×List CellD)}{K:List (Nat×DV)→Prop}: ∀(os:List Oper) (i0:Nat) (tm:List (Nat×DV)),da P ops C bx i0 os tm K→ ∃opn:List (Nat×Nat×DV),
 (∀i d x,(i,d,x)∈opn→i0≤i∧C.any (Nat.beq i)=false∧iB x=none∧ ∃o,os[i-i0]? =some o∧o.dst=some d∧Sem P ops o (fun s=>aT s (o9 (fun j=>decide (j<i)) opn tm)) (fun k=>aT k bx) (.r x))∧
 (∀i o,os[i]? =some o→C.any (Nat.beq (i0+i))=false→ ∃d x,(i0+i,d,x)∈opn)∧(∀i d x d' x',(i,d,x)∈opn→(i,d',x')∈opn→d=d'∧x=x')∧K (o9 (fun _=>true) opn tm)
 |[],i0,tm,h=>⟨[],(fun _ _ _ h=>by cases h),(fun i o h=>by simp at h),(fun _ _ _ _ _ h=>by cases h),h⟩
 |o::os,i0,tm,h=>by
  unfold da at h
  cases hc:C.any (Nat.beq i0) with
  |true=>
   rw[hc] at h
   obtain⟨opn,h1,h2,h4,h3⟩:=vo os (i0+1) tm h
   refine⟨opn,fun i d x hm=>?_,fun i o' ho hn=>?_,h4,h3⟩
   ·obtain⟨g1,g2,g3,o',g4,g5⟩:=h1 i d x hm
    refine⟨by omega,g2,g3,o',?_,g5⟩
    rw[show i-i0=i-(i0+1)+1 by omega];simpa using g4
   ·cases i with
    |zero=>rw[Nat.add_zero,hc] at hn;cases hn
    |succ i=>rw[show i0+(i+1)=i0+1+i by omega] at hn⊢;exact h2 i o' (by simpa using ho) hn
  |false=>
   rw[hc] at h
   obtain⟨x,d,hd,hs,hx,h⟩:=h
   obtain⟨opn,h1,h2,h4,h3⟩:=vo os (i0+1) ((d,x)::tm) h
   refine⟨(i0,d,x)::opn,fun i d' x' hm=>?_,fun i o' ho hn=>?_,fun i d1 x1 d2 x2 g1 g2=>?_,h3⟩
   ·rcases List.mem_cons.1 hm with e|hm
    ·injection e with e1 e2
     injection e2 with e2 e3
     subst e1 e2 e3
     refine⟨Nat.le_refl _,hc,hx,o,by rw[Nat.sub_self];rfl,hd,?_⟩
     have e:(fun s=>aT s (o9 (fun j=>decide (j<i)) ((i,d',x')::opn) tm))=fun s=>aT s tm:=by
      funext s
      rw[fy,zD,Option.none_or]
      intro j y hj
      rcases List.mem_cons.1 hj with e|hj
      ·injection e with e1;subst e1;simp
      ·have:=(h1 j s y hj).1;simp;omega
     rw[e];exact hs
    ·obtain⟨g1,g2,g3,o',g4,g5,g6⟩:=h1 i d' x' hm
     refine⟨by omega,g2,g3,o',?_,g5,?_⟩
     ·rw[show i-i0=i-(i0+1)+1 by omega];simpa using g4
     ·show Sem P ops o' (fun s=>aT s (o9 _ opn (bif decide (i0<i) then(d,x)::tm else tm))) _ _
      rw[show decide (i0<i)=true from decide_eq_true (by omega)];exact g6
   ·cases i with
    |zero=>exact⟨d,x,List.mem_cons_self⟩
    |succ i=>
     rw[show i0+(i+1)=i0+1+i by omega] at hn⊢
     obtain⟨d',x',g⟩:=h2 i o' (by simpa using ho) hn
     exact⟨d',x',List.mem_cons_of_mem _ g⟩
   ·rcases List.mem_cons.1 g1 with e1|k1<;>rcases List.mem_cons.1 g2 with e2|k2
    ·rw[←e2] at e1;injection e1 with _ e1;injection e1 with e1 e3;exact⟨e1,e3⟩
    ·have h9:=(h1 _ _ _ k2).1;injection e1 with e1 _;omega
    ·have h9:=(h1 _ _ _ k1).1;injection e2 with e2 _;omega
    ·exact h4 _ _ _ _ _ k1 k2
theorem wO {N:Nat}{tm:List (Nat×DV)}{bx:List (Nat×TypeId×List CellD)}{t:Nat}{x y:Operand}{U e:TypeId}{q m by_:Nat}{us ys zs:List CellD}
 (hU:pc P U=some (e,m,by_,zs)) (hx:di (fun s=>aT s tm) x=some (.f 0 us)) (hy:di (fun s=>aT s tm) y=some (.v (.c (.s q ys)))) (hys:ys.length=q*m) (hq:0<q)
 (hbytes:q*by_≤140737488355328) (h63:q≤maxLen) (hd:aT t bx=none)
 (hg:gd ops ⟨some t,.call ⟨.builtin .append,#[x,y],#[U,U]⟩,ty,pos,af,g⟩ (fun s=>aT s tm)=some true):
 Dc P ops ⟨some t,.call ⟨.builtin .append,#[x,y],#[U,U]⟩,ty,pos,af,g⟩ ⟨N,tm,bx⟩ (fun σ'=> ∃c' rest,q≤c'∧c'≤maxLen∧rest.length=(c'-q)*m∧σ'=⟨N,(t,.o t q c')::tm,(t,e,ys++rest)::bx⟩):=by
 intro av w0 β a w hrel htn
 have hs:=Sees.of hrel.sees (L:=gy ops ⟨some t,.call ⟨.builtin .append,#[x,y],#[U,U]⟩,ty,pos,af,g⟩) (fun _ _=>trivial) (fun _ _ _ h=>h) (fun _ _ h=>h)
 refine⟨d8 hs hg,?_⟩
 obtain⟨⟨A,e1⟩,_⟩:(∃A,a.eval x=.slice A 0 0)∧_:=aS hs (x:=x) (by simp[Op.operands,Call.operands]) hx
 have h2:=aS hs (x:=y) (by simp[Op.operands,Call.operands]) hy
 obtain⟨news,hsrc,hrn⟩:=no hU h2 hys
 obtain⟨hu,i,z,hi,hz,hsz,hby,hzl,hzr⟩:=gI hU
 subst hsz
 have ht:t<N:=htn t rfl
 unfold Gives
 have hold:(Builtin.firstCells i.size 0 (.slice A 0 0)).run P w.drew=.ok ([]:List Value).toArray w.drew:=by
  cases A with
  |none=>rfl
  |some b=>
   have h9:=run_loadCells_list (P:=P) w.drew b ([]:List Value) (fun j u h=>by simp at h)
   rw[show([]:List Value).length=0*i.size by simp] at h9
   exact h9
 have hgrow:0<0+q:=by omega
 have hrun:=run_append_grow_src (P:=P) (w:=w) U U ty e i z hu hi hz A 0 0 _ hold (a.eval y) q news hsrc hgrow (by have:maxLen=9223372036854775807:=rfl;omega) (growslice_fits hgrow (by rw[hby,Nat.zero_add];exact hbytes))
 rw[Nat.zero_add] at hrun
 generalize hcap:grownCap w q 0 e=c' at hrun
 have hc1:q≤c':=by rw[←hcap];exact grownCap_ge _ _ _ _
 have hc2:c'≤maxLen:=by rw[←hcap];exact grownCap_le_maxLen _ _ _ _ h63
 have hexec:(execOp a.eval ⟨some t,.call ⟨.builtin .append,#[x,y],#[U,U]⟩,ty,pos,af,g⟩).run P w=.ok (.value (.slice (some ⟨w.heap.size,0,none⟩) q c'))
  (w.drew.alloc (.cells (([]++news).toArray++Builtin.zeroCells z.cells (c'-q)) e)):=by
  simp only[execOp,resolve,invoke,builtin,Sem.run_bind,Sem.run_pure,Result.andThen_ok,List.map_toArray,List.map_cons,List.map_nil,e1]
  rw[hrun]
  rfl
 rw[hexec]
 obtain⟨rest,hrl,hrz⟩:=Kh hzl hzr (c'-q)
 have hrd:RdCs (fun b=>av b∨ ∃k,aT k bx≠none∧β k=b) w.drew (([]++news).toArray++Builtin.zeroCells z.cells (c'-q)).toList (ys++rest):=by
  have h1:RdCs (fun b=>av b∨ ∃k,aT k bx≠none∧β k=b) w.drew (news++(Builtin.zeroCells z.cells (c'-q)).toList) (ys++rest):=RdCs.append (RdCs.keep (Keep.below (Below.refl _ w).drew) hrn) (hrz (fun b=>av b∨ ∃k,aT k bx≠none∧β k=b) w.drew)
  simpa using h1
 have hbox:=hrel.drew.box (d:=t) ht hd (U:=e) (sl:=some c') hrd
 refine⟨⟨N,(t,.o t q c')::tm,(t,e,ys++rest)::bx⟩,fun l=>if l=t then w.drew.heap.size else β l,⟨c',_,hc1,hc2,hrl,rfl⟩,rfl,?_⟩
 have hval:=hbox.value (d:=some t) (x:=.o t q c') (v:=.slice (some ⟨w.heap.size,0,none⟩) q c') (by intro s hs;injection hs with hs;subst hs;exact ht) (Below.refl _ _) (by show _=Value.slice (some ⟨if t=t then w.drew.heap.size else β t,0,none⟩) _ _;rw[if_pos rfl];rfl) (by intro l hl;injection hl with hl;subst hl;rw[if_pos rfl];simp)
 rw[uO] at hval
 refine hval.congr (fun s=>?_) (fun l=>?_)
 ·show aT s ((t,DV.o t q c')::tm)=(if some t=some s then _ else if some t=some s then _ else aT s tm)
  rw[bq]
  by_cases e:t=s
  ·rw[if_pos e,if_pos (by rw[e])]
  ·rw[if_neg e,if_neg (show ¬some t=some s by simpa using e),if_neg (show ¬some t=some s by simpa using e)]
 ·show aT l ((t,e,ys++rest)::bx)=(if some t=some l then _ else aT l bx)
  rw[bq]
  by_cases e:t=l
  ·rw[if_pos e,if_pos (by rw[e])]
  ·rw[if_neg e,if_neg (show ¬some t=some l by simpa using e)]
structure AppS where
 i:Nat
 t:Nat
 y:Operand
 q:Nat
 ys:List CellD
def nA:List AppS→Nat
 |[]=>0
 |a::r=>a.q+nA r
def uA:List AppS→List CellD
 |[]=>[]
 |a::r=>a.ys++uA r
theorem qz (a:AppS): ∀l:List AppS,nA (l++[a])=nA l+a.q
 |[]=>by simp[nA]
 |b::r=>by show b.q+nA (r++[a])=b.q+nA r+a.q;rw[qz a r];omega
theorem Ab (a:AppS): ∀l:List AppS,uA (l++[a])=uA l++a.ys
 |[]=>by simp[uA]
 |b::r=>by show b.ys++uA (r++[a])=b.ys++uA r++a.ys;rw[Ab a r,List.append_assoc]
def mu (ops:Array Oper) (C:List Nat) (m i:Nat) (y:Operand):Bool:=match y with
 | .tmp u=>(match ops[i]? with
   |none=>false
   |some o=>(List.range m).all fun j=>match ops[j]? with
    |none=>false
    |some p=> !(match p.dst with|none=>false|some d=>Nat.beq d u)||(!C.any (Nat.beq j)&&(dc o).any (Nat.beq j)))
 |_=>true
def Fw (x0:Operand) (l:List AppS):Operand:=match l.getLast? with
 |none=>x0
 |some a=>.tmp a.t
structure ChainA (P:Program) (ops:Array Oper) (C:List Nat) (m:Nat) (U e:TypeId) (sz by_:Nat) (zs:List CellD) (x0:Operand) (tm0 tm:List (Nat×DV)) (bx:List (Nat×TypeId×List CellD)) (ch:List AppS):Prop where
 hU:pc P U=some (e,sz,by_,zs)
 hm:0<sz
 base: ∃us,di (fun s=>aT s tm) x0=some (.f 0 us)
 hC:ch.map (·.i)=C
 op: ∀l a r,ch=l++a::r→ ∃ty pos af,ops[a.i]? =some ⟨some a.t,.call ⟨.builtin .append,#[Fw x0 l,a.y],#[U,U]⟩,ty,pos,af,none⟩
 lt: ∀a∈ch,a.i<m
 y: ∀a∈ch,di (fun s=>aT s tm) a.y=some (.v (.c (.s a.q a.ys)))∧a.ys.length=a.q*sz∧mu ops C m a.i a.y=true
 bx0: ∀a r,ch=a::r→mu ops C m a.i x0=true∧0<a.q
 nx: ∀l a b r,ch=l++a::b::r→ ∀o,ops[b.i]? =some o→a.i∈dc o
 new: ∀a∈ch,aT a.t tm0=none∧aT a.t bx=none
 big:nA ch*by_≤140737488355328∧nA ch≤maxLen
def tD (c:Nat) (l:List AppS):List (Nat×DV):=match l.getLast? with
 |none=>[]
 |some a=>[(a.t,.o a.t (nA l) c)]
def y9 (e:TypeId) (rest:List CellD) (l:List AppS):List (Nat×TypeId×List CellD):=match l.getLast? with
 |none=>[]
 |some a=>[(a.t,e,uA l++rest)]
theorem rn (c:Nat) (l:List AppS) (a:AppS):tD c (l++[a])=[(a.t,.o a.t (nA l+a.q) c)]:=by unfold tD;rw[List.getLast?_concat];show[(a.t,DV.o a.t (nA (l++[a])) c)]=_;rw[qz]
theorem pm (e:TypeId) (rest:List CellD) (l:List AppS) (a:AppS):y9 e rest (l++[a])=[(a.t,e,uA l++a.ys++rest)]:=by unfold y9;rw[List.getLast?_concat];show[(a.t,e,uA (l++[a])++rest)]=_;rw[Ab]
theorem Tx {l r:List AppS}:nA l≤nA (l++r):=by
 induction l with
 |nil=>exact Nat.zero_le _
 |cons a l ih=>show a.q+nA l≤a.q+nA (l++r);omega
end
theorem J4 {sz:Nat}: ∀ {l:List AppS},(∀a∈l,a.ys.length=a.q*sz)→(uA l).length=nA l*sz
 |[],_=>by simp[uA,nA]
 |a::r,h=>by
  show(a.ys++uA r).length=(a.q+nA r)*sz
  rw[List.length_append,h a List.mem_cons_self,J4 fun b hb=>h b (List.mem_cons_of_mem _ hb),Nat.add_mul]
theorem tu {α:Type}{b:α}: ∀(a:α) (r:List α),b∈r→ ∃l p r',a::r=l++p::b::r'
 |a,c::r,h=>by
  rcases List.mem_cons.1 h with e|h
  ·subst e;exact⟨[],a,r,rfl⟩
  ·obtain⟨l,p,r',e⟩:=tu c r h
   exact⟨a::l,p,r',by rw[e];rfl⟩
section
variable {P:Program}{ops:Array Oper}{Q:Exit→Act→World→Prop}{av:Nat→Prop}{w0:Ent}{m n:Nat}
set_option linter.unusedVariables false in
theorem Oj (hc:Chk ops m n) {C:List Nat}{U e:TypeId}{sz by_:Nat}{zs:List CellD}{x0:Operand}{tm0:List (Nat×DV)}{bx:List (Nat×TypeId×List CellD)}{ch:List AppS}{opn:List (Nat×Nat×DV)}
 (ho1: ∀i d x,(i,d,x)∈opn→C.any (Nat.beq i)=false∧iB x=none∧i<m∧ ∃o,ops[i]? =some o∧o.dst=some d∧Sem P ops o (fun s=>aT s (o9 (fun j=>decide (j<i)) opn tm0)) (fun k=>aT k bx) (.r x))
 (ho2: ∀i,i<m→C.any (Nat.beq i)=false→ ∃d x,(i,d,x)∈opn)
 (ho3: ∀i d x d' x',(i,d,x)∈opn→(i,d',x')∈opn→d=d'∧x=x')
 (hch:ChainA P ops C m U e sz by_ zs x0 tm0 (o9 (fun _=>true) opn tm0) bx ch)
 (hwf: ∀t x k,aT t tm0=some x→iB x=some k→aT k bx≠none)
 (hQ: ∀c rest β a w fuel,nA ch≤c→c≤maxLen→rest.length=(c-nA ch)*sz→ops.size-m≤fuel→
  Rel av w0 n (fun s=>aT s (tD c ch++o9 (fun _=>true) opn tm0)) (fun k=>aT k (y9 e rest ch++bx)) β a w→wpAny P .any ops Q fuel (dk ops.size m) a w):
 ∀(fuel:Nat) (listed:Array Bool) (β:Nat→Nat) (a:Act) (w:World) (dn td:List AppS) (c:Nat) (rest:List CellD),listed.size=ops.size→GI listed≤fuel→
  (∀i o j,listed.getD i false=true→ops[i]? =some o→j∈dc o→listed.getD j false=true)→(∀t,m≤t→listed.getD t false=false)→
  ch=dn++td→(∀b∈dn,listed.getD b.i false=true)→(∀b∈td,listed.getD b.i false=false)→nA dn≤c∧c≤maxLen∧rest.length=(c-nA dn)*sz→
  Rel av w0 n (fun s=>aT s (tD c dn++o9 (fun j=>listed.getD j false) opn tm0)) (fun k=>aT k (y9 e rest dn++bx)) β a w→wpAny P .any ops Q fuel listed a w:=by
 have hCm: ∀b∈ch,C.any (Nat.beq b.i)=true:=fun b hb=>iA.2 (by rw[←hch.hC];exact List.mem_map_of_mem hb)
 have hop: ∀b∈ch,∃o,ops[b.i]? =some o∧o.dst=some b.t:=fun b hb=>by
  obtain⟨l,r,e1⟩:=List.append_of_mem hb
  obtain⟨ty,pos,af,h⟩:=hch.op l b r e1
  exact⟨_,h,rfl⟩
 have huq: ∀ {i j d x y},(i,d,x)∈opn→(j,d,y)∈opn→i=j∧y=x:=by
  intro i j d x y h1 h2
  obtain⟨_,_,hi,oi,q1,q2,_⟩:=ho1 i d x h1
  obtain⟨_,_,hj,oj,q3,q4,_⟩:=ho1 j d y h2
  have:=hc.dist i j oi oj d hi hj q1 q3 q2 q4
  subst this
  exact⟨rfl,(ho3 i d y d x h2 h1).2⟩
 have hne: ∀b∈ch,∀i x,(i,b.t,x)∉opn:=by
  intro b hb i x hm
  obtain⟨q0,_,hi,oi,q1,q2,_⟩:=ho1 i b.t x hm
  obtain⟨o,g1,g2⟩:=hop b hb
  have:=hc.dist i b.i oi o b.t hi (hch.lt b hb) q1 g1 q2 g2
  subst this
  rw[hCm b hb] at q0;cases q0
 have hnl: ∀(L:Nat→Bool),∀b∈ch,aT b.t (o9 L opn tm0)=none:=by
  intro L b hb
  rw[fy,zD fun i x hm=>absurd hm (hne b hb i x),(hch.new b hb).1];rfl
 have hhd: ∀(c:Nat) (l r:List AppS) t,ch=l++r→(∀b∈ch,b.t≠t)→aT t (tD c l)=none:=by
  intro c l r t e1 h
  unfold tD
  cases hg:l.getLast? with
  |none=>rfl
  |some b=>
   have hb:b∈ch:=by rw[e1];exact List.mem_append_left _ (List.mem_of_getLast? hg)
   show aT t [(b.t,_)]=none
   rw[bq,if_neg (h b hb)];rfl
 have hhb: ∀(rest:List CellD) (l r:List AppS) k c,ch=l++r→aT k bx=some c→aT k (y9 e rest l)=none:=by
  intro rest l r k c e1 h
  unfold y9
  cases hg:l.getLast? with
  |none=>rfl
  |some b=>
   have hb:b∈ch:=by rw[e1];exact List.mem_append_left _ (List.mem_of_getLast? hg)
   show aT k [(b.t,_)]=none
   rw[bq,if_neg (fun h2=>by subst h2;rw[(hch.new b hb).2] at h;cases h)];rfl
 have htr: ∀ {L:Nat→Bool}{i:Nat}{o:Oper}{y:Operand}{v:DV}{c:Nat}{l r:List AppS},ch=l++r→ops[i]? =some o→(∀j,j∈dc o→L j=true)→mu ops C m i y=true→
  di (fun s=>aT s (o9 (fun _=>true) opn tm0)) y=some v→di (fun s=>aT s (tD c l++o9 L opn tm0)) y=some v:=by
  intro L i o y v c l r e1 ho hb hbt hv
  cases y with
  |tmp u=>
   have hv:aT u (o9 (fun _=>true) opn tm0)=some v:=hv
   show aT u (tD c l++o9 L opn tm0)=some v
   unfold mu at hbt
   rw[ho] at hbt
   dsimp only at hbt
   have hall: ∀j p,j<m→ops[j]? =some p→p.dst=some u→C.any (Nat.beq j)=false∧L j=true:=by
    intro j p hj hp hd
    have h1:=List.all_eq_true.1 hbt j (List.mem_range.2 hj)
    rw[hp] at h1
    dsimp only at h1
    rw[hd] at h1
    dsimp only at h1
    rw[Nat.beq_refl] at h1
    simp only[Bool.not_true,Bool.false_or,Bool.and_eq_true] at h1
    refine⟨by simpa using h1.1,hb j (iA.1 h1.2)⟩
   rw[cO,hhd c l r u e1 (fun b hb2 e2=>by
    obtain⟨o2,g1,g2⟩:=hop b hb2
    have:=(hall b.i o2 (hch.lt b hb2) g1 (by rw[g2,e2])).1
    rw[hCm b hb2] at this;cases this),Option.none_or,←hv,fy,fy]
   congr 1
   refine qa fun j x hm=>?_
   obtain⟨_,_,hj,oj,q1,q2,_⟩:=ho1 j u x hm
   exact(hall j oj hj q1 q2).2
  |const z9=>exact hv
  |func z9=>exact hv
  |global z9=>exact hv
 intro fuel
 have hfin: ∀(fuel:Nat) (listed:Array Bool) (β:Nat→Nat) (a:Act) (w:World) (dn td:List AppS) (c:Nat) (rest:List CellD),listed.size=ops.size→ops.size-m≤fuel→
  (∀t,m≤t→listed.getD t false=false)→ch=dn++td→(∀b∈td,listed.getD b.i false=false)→nA dn≤c∧c≤maxLen∧rest.length=(c-nA dn)*sz→(∀i,i<m→listed.getD i false=true)→
  Rel av w0 n (fun s=>aT s (tD c dn++o9 (fun j=>listed.getD j false) opn tm0)) (fun k=>aT k (y9 e rest dn++bx)) β a w→wpAny P .any ops Q fuel listed a w:=by
  intro fuel listed β a w dn td c rest hsz hfu hp hs htd hb hl hr
  have htd0:td=[]:=by
   cases td with
   |nil=>rfl
   |cons b r=>
    have h1:=htd b List.mem_cons_self
    rw[hl b.i (hch.lt b (by rw[hs];simp))] at h1;cases h1
  subst htd0
  rw[List.append_nil] at hs
  subst hs
  have e1:listed=dk ops.size m:=by
   apply Array.ext (by simp[dk,hsz])
   intro i h1 h2
   by_cases him:i<m
   ·have h3:=hl i him
    simp[Array.getD,h1] at h3
    rw[h3];simp[dk,him]
   ·have h3:=hp i (by omega)
    simp[Array.getD,h1] at h3
    rw[h3];simp[dk]
    cases hb:Nat.blt i m with
    |false=>rfl
    |true=>have:=eJ.1 hb;omega
  have e2:(fun s=>aT s (tD c ch++o9 (fun j=>listed.getD j false) opn tm0))=fun s=>aT s (tD c ch++o9 (fun _=>true) opn tm0):=by
   funext t
   rw[cO,cO,fy,fy]
   congr 2
   refine qa fun j x hm=>?_
   obtain⟨_,_,hj,_⟩:=ho1 j t x hm
   exact hl j hj
  rw[e2] at hr
  rw[e1]
  exact hQ c rest β a w fuel hb.1 hb.2.1 hb.2.2 hfu hr
 induction fuel with
 |zero=>
  intro listed β a w dn td c rest hsz hu hcl hp hs hdn htd hb hr
  have hm:m=ops.size:=by
   rcases Nat.lt_or_ge m ops.size with h|h
   ·have:=uS (listed:=listed) (i:=m) (by omega) (by rw[mU (by omega) true false];exact hp m (Nat.le_refl _));omega
   ·exact Nat.le_antisymm hc.le h
  exact hfin 0 listed β a w dn td c rest hsz (by omega) hp hs htd hb (fun i hi=>by
   cases h:listed.getD i false with
   |true=>rfl
   |false=>have:=uS (listed:=listed) (i:=i) (by omega) (by rw[mU (by omega) true false];exact h);omega) hr
 |succ fuel ih=>
  intro listed β a w dn td c rest hsz hu hcl hp hs hdn htd hb hr
  by_cases hl: ∀i,i<m→listed.getD i false=true
  ·have hun:ops.size-m≤GI listed:=by
    have e1:listed=dk ops.size m:=by
     apply Array.ext (by simp[dk,hsz])
     intro i h1 h2
     by_cases him:i<m
     ·have h3:=hl i him
      simp[Array.getD,h1] at h3
      rw[h3];simp[dk,him]
     ·have h3:=hp i (by omega)
      simp[Array.getD,h1] at h3
      rw[h3];simp[dk]
      cases hb:Nat.blt i m with
      |false=>rfl
      |true=>have:=eJ.1 hb;omega
    rw[e1]
    unfold GI dk
    have:(List.map (fun i=>Nat.blt i m) (List.range ops.size))=List.replicate m true++List.replicate (ops.size-m) false:=by
     apply List.ext_getElem (by simp;have:=hc.le;omega)
     intro i h1 h2
     simp at h1
     by_cases him:i<m
     ·rw[List.getElem_append_left (by simpa using him)];simp[him]
     ·rw[List.getElem_append_right (by simpa using him)]
      simp
      cases hb:Nat.blt i m with
      |false=>rfl
      |true=>have:=eJ.1 hb;omega
    simp[this,List.countP_append,List.countP_replicate]
   exact hfin (fuel+1) listed β a w dn td c rest hsz (by omega) hp hs htd hb hl hr
  ·refine⟨fun h0=>?_,fun i hi=>?_⟩
   ·exfalso
    have hex: ∃p,p<m∧listed.getD p false=false∧ ∀q,q<p→listed.getD q false=true:=by
     have key: ∀d p,p≤d→p<m→listed.getD p false=false→ ∃p,p<m∧listed.getD p false=false∧ ∀q,q<p→listed.getD q false=true:=by
      intro d
      induction d with
      |zero=>
       intro p hd hpm hpf
       exact⟨p,hpm,hpf,fun q hq=>by omega⟩
      |succ d ih2=>
       intro p hd hpm hpf
       by_cases hq: ∀q,q<p→listed.getD q false=true
       ·exact⟨p,hpm,hpf,hq⟩
       ·obtain⟨q,hq⟩:=Classical.not_forall.1 hq
        obtain⟨hqp,hq⟩:=Classical.not_imp.1 hq
        exact ih2 q (by omega) (by omega) (by simpa using hq)
     obtain⟨p,hp'⟩:=Classical.not_forall.1 hl
     obtain⟨hpm,hp'⟩:=Classical.not_imp.1 hp'
     exact key p p (Nat.le_refl _) hpm (by simpa using hp')
    obtain⟨p,hpm,hpf,hq⟩:=hex
    have hps:p<ops.size:=by have:=hc.le;omega
    have hin:p∈Region.ready .any ops listed:=mem_ready.2 ⟨by rw[mU (by omega) true false];exact hpf,ops[p],Array.getElem?_eq_getElem hps,fun e he hb=>
     hq e.on (hc.low p _ e.on (Array.getElem?_eq_getElem hps) (tL he hb))⟩
    rw[h0] at hin;cases hin
   ·obtain⟨hif,o,ho,hae0⟩:=mem_ready.1 hi
    have his:i<ops.size:=(Array.getElem?_eq_some_iff.1 ho).1
    have hif':listed.getD i false=false:=by rw[mU (by omega) false true];exact hif
    have hae: ∀j,j∈dc o→listed.getD j false=true:=fun j hj=>by
     obtain⟨e',he',hb',rfl⟩:=jz hj
     exact hae0 e' he' hb'
    have him:i<m:=by
     rcases Nat.lt_or_ge i m with h|h
     ·exact h
     ·exfalso
      rcases hc.tl i o h ho with⟨j,hj,hmj⟩|hcov
      ·have:=hae j hj
       rw[hp _ hmj] at this;cases this
      ·apply hl
       have key: ∀d p,m-p≤d→p<m→listed.getD p false=true:=by
        intro d
        induction d with
        |zero=>intro p hd hpm;omega
        |succ d ih2=>
         intro p hd hpm
         rcases hcov p hpm with hb|⟨q,oq,hpq,hqm,hoq,hb⟩
         ·exact hae p hb
         ·exact hcl q oq p (ih2 q (by omega) hqm) hoq hb
       exact fun p hpm=>key (m-p) p (Nat.le_refl _) hpm
    have hmi: ∀j,(listed.setIfInBounds i true).getD j false=if j=i then true else listed.getD j false:=by
     intro j
     by_cases hji:j=i
     ·subst hji;simp[Array.getD,hsz,his]
     ·rw[if_neg hji,getD_set_ne false (fun e=>hji e.symm)]
    have hcl': ∀i' o' j,(listed.setIfInBounds i true).getD i' false=true→ops[i']? =some o'→j∈dc o'→(listed.setIfInBounds i true).getD j false=true:=by
     intro i' o' j' h1 h2 h3
     rw[hmi] at h1⊢
     by_cases hji:j'=i
     ·rw[if_pos hji]
     ·rw[if_neg hji]
      by_cases hii:i'=i
      ·subst hii
       rw[ho] at h2
       injection h2 with h2
       subst h2
       exact hae j' h3
      ·rw[if_neg hii] at h1
       exact hcl i' o' j' h1 h2 h3
    have hp': ∀t,m≤t→(listed.setIfInBounds i true).getD t false=false:=fun t ht=>by
     rw[hmi,if_neg (by omega)]
     exact hp t ht
    have hu':GI (listed.setIfInBounds i true)≤fuel:=by have:=zK (listed:=listed) (i:=i) (by omega) hif;omega
    have hsz':(listed.setIfInBounds i true).size=ops.size:=by simpa using hsz
    unfold wpOp
    rw[ho]
    cases hiC:C.any (Nat.beq i) with
    |false=>
     obtain⟨d,x,hmem⟩:=ho2 i him hiC
     obtain⟨_,hrx,_,o',ho',hd',hsem⟩:=ho1 i d x hmem
     rw[ho] at ho'
     injection ho' with ho'
     subst ho'
     have hchi: ∀b∈ch,b.i≠i:=fun b hb e1=>by have:=hCm b hb;rw[e1,hiC] at this;cases this
     refine hr.step hsem (fun t ht=>hc.dn i o t ho ht) ?_ ?_ (fun U cs sl hE=>by cases hE) (fun β' a' w' hr'=>?_)
     ·intro t x' hlk hx
      have hx:aT t (o9 (fun j=>decide (j<i)) opn tm0)=some x':=hx
      show aT t (tD c dn++o9 (fun j=>listed.getD j false) opn tm0)=some x'
      have hnt: ∀b∈ch,b.t≠t:=fun b hb e1=>by rw[←e1,hnl _ b hb] at hx;cases hx
      rw[cO,hhd c dn td t hs hnt,Option.none_or,←hx,fy,fy]
      congr 1
      refine qa fun j y hm=>?_
      obtain⟨_,_,hjm,oj,hoj,hdj,_⟩:=ho1 j t y hm
      by_cases hji:j=i
      ·subst hji;rw[hif'];simp
      ·rcases hc.dep i j o oj t him hjm (fun e=>hji e.symm) ho hoj hdj hlk with hb2|hb2
       ·have hji2:=hc.low i o j ho hb2
        rw[hae j hb2];simpa using hji2
       ·have hji2:=hc.low j oj i hoj hb2
        have h1:listed.getD j false=false:=by
         cases hlj:listed.getD j false with
         |false=>rfl
         |true=>have:=hcl j oj i hlj hoj hb2;rw[hif'] at this;cases this
        rw[h1];simp;omega
     ·intro k cc hk
      have hk:aT k bx=some cc:=hk
      show aT k (y9 e rest dn++bx)=some cc
      rw[cO,hhb rest dn td k cc hs hk,Option.none_or];exact hk
     ·refine ih _ β' a' w' dn td c rest hsz' hu' hcl' hp' hs (fun b hb=>?_) (fun b hb=>?_) hb ?_
      ·rw[hmi];split
       ·rfl
       ·exact hdn b hb
      ·rw[hmi,if_neg (hchi b (by rw[hs];exact List.mem_append_right _ hb))];exact htd b hb
      ·refine hr'.congr (fun t=>?_) (fun k=>rfl)
       show _=if o.dst=some t then some x else _
       rw[cO,fy]
       by_cases hdt:d=t
       ·subst hdt
        rw[if_pos hd',hhd c dn td d hs (fun b hb e1=>hne b hb i x (by rw[e1];exact hmem)),Option.none_or,Kp (fun i j y h1 h2=>(huq h1 h2).2) hmem (by rw[hmi,if_pos rfl])]
        rfl
       ·rw[if_neg (by rw[hd'];simpa using hdt)]
        show _=aT t (tD c dn++o9 _ opn tm0)
        rw[cO,fy]
        congr 2
        refine qa fun j y hm=>?_
        rw[hmi,if_neg]
        intro e1
        subst e1
        exact hdt (ho3 _ _ _ _ _ hmem hm).1
    |true=>
     have hmemC:=iA.1 hiC
     rw[←hch.hC] at hmemC
     obtain⟨b,hbc,rfl⟩:=List.mem_map.1 hmemC
     have hbtd:b∈td:=by
      rw[hs] at hbc
      rcases List.mem_append.1 hbc with h|h
      ·have:=hdn b h;rw[hif'] at this;cases this
      ·exact h
     obtain⟨a9,r,htd9⟩: ∃a9 r,td=a9::r:=by
      cases td with
      |nil=>cases hbtd
      |cons a9 r=>exact⟨a9,r,rfl⟩
     subst htd9
     have hba:b=a9:=by
      rcases List.mem_cons.1 hbtd with h|h
      ·exact h
      ·exfalso
       obtain⟨l,p,r',e1⟩:=tu a9 r h
       have h1:=hch.nx (dn++l) p b r' (by rw[hs,e1,List.append_assoc]) o ho
       have h2:=hae _ h1
       rw[htd p (by rw[e1];simp)] at h2;cases h2
     subst hba
     obtain⟨ty,pos,af,hob⟩:=hch.op dn b r hs
     rw[ho] at hob
     injection hob with hob
     subst hob
     obtain⟨hy1,hy2,hy3⟩:=hch.y b hbc
     have hy:=htr (c:=c) hs ho hae hy3 hy1
     have hnAb:nA dn+b.q≤nA ch:=by
      have h1:nA (dn++[b])≤nA (dn++[b]++r):=Tx
      rw[qz,List.append_assoc] at h1
      rw[hs];exact h1
     have hbig1:(nA dn+b.q)*by_≤140737488355328:=Nat.le_trans (Nat.mul_le_mul_right _ hnAb) hch.big.1
     have hbig2:nA dn+b.q≤maxLen:=Nat.le_trans hnAb hch.big.2
     obtain⟨hnew0,hnewb⟩:=hch.new b hbc
     have hgo: ∀(β':Nat→Nat) (a':Act) (w':World) (σ':St) (c':Nat) (rest':List CellD),σ'.n=n→nA dn+b.q≤c'→c'≤maxLen→rest'.length=(c'-(nA dn+b.q))*sz→
      (∀t x,aT t (tD c' (dn++[b])++o9 (fun j=>listed.getD j false) opn tm0)=some x→aT t σ'.tm=some x)→(∀k cc,aT k (y9 e rest' (dn++[b])++bx)=some cc→aT k σ'.bx=some cc)→
      Rel av w0 σ'.n σ'.T σ'.B β' a' w'→wpAny P .any ops Q fuel (listed.setIfInBounds b.i true) a' w':=by
      intro β' a' w' σ' c' rest' hn' g1 g2 g3 htm hbx' hr'
      have hL:(fun s=>aT s (tD c' (dn++[b])++o9 (fun j=>(listed.setIfInBounds b.i true).getD j false) opn tm0))=fun s=>aT s (tD c' (dn++[b])++o9 (fun j=>listed.getD j false) opn tm0):=by
       funext t
       rw[cO,cO,fy,fy]
       congr 2
       refine qa fun j x hm=>?_
       rw[hmi,if_neg]
       intro e1
       have:=(ho1 j t x hm).1
       rw[e1,hiC] at this;cases this
      refine ih _ β' a' w' (dn++[b]) r c' rest' hsz' hu' hcl' hp' (by rw[hs,List.append_assoc];rfl) (fun b' hb'=>?_) (fun b' hb'=>?_) ⟨by rw[qz];exact g1,g2,by rw[qz];exact g3⟩ ?_
      ·rw[hmi];split
       ·rfl
       ·rename_i hne'
        rcases List.mem_append.1 hb' with h|h
        ·exact hdn b' h
        ·rw[List.mem_singleton] at h;exact absurd (by rw[h]) hne'
      ·rw[hmi,if_neg]
       ·exact htd b' (List.mem_cons_of_mem _ hb')
       ·intro e1
        obtain⟨l,p,r',e2⟩:=tu b r hb'
        have h0:=ho
        rw[←e1] at h0
        have h1:=hch.nx (dn++l) p b' r' (by rw[hs,e2,List.append_assoc]) _ h0
        have h2:=hae _ h1
        rw[htd p (by rw[e2];simp)] at h2;cases h2
      ·rw[hL]
       have hsub:Sub σ' ⟨n,tD c' (dn++[b])++o9 (fun j=>listed.getD j false) opn tm0,y9 e rest' (dn++[b])++bx⟩:=by
        refine⟨hn'.symm,htm,hbx',fun t x k hx hk=>?_⟩
        show aT k (y9 e rest' (dn++[b])++bx)≠none
        have hx:aT t (tD c' (dn++[b])++o9 (fun j=>listed.getD j false) opn tm0)=some x:=hx
        rw[rn] at hx
        rw[cO,pm]
        rw[cO,bq] at hx
        by_cases htb:b.t=t
        ·rw[if_pos htb] at hx
         injection hx with hx
         subst hx
         injection hk with hk
         subst hk
         rw[bq,if_pos rfl];simp
        ·rw[if_neg htb] at hx
         have hx:(aT t []:Option DV).or (aT t (o9 (fun j=>listed.getD j false) opn tm0))=some x:=hx
         rw[show(aT t []:Option DV)=none from rfl,Option.none_or,fy] at hx
         cases ho9:oF (fun j=>listed.getD j false) opn t with
         |some x9=>
          rw[ho9] at hx
          injection hx with hx
          subst hx
          obtain⟨j,g4,_⟩:=r9 ho9
          rw[(ho1 _ _ _ g4).2.1] at hk;cases hk
         |none=>
          rw[ho9,Option.none_or] at hx
          have h5:=hwf t x k hx hk
          cases h6:aT k bx with
          |none=>exact absurd h6 h5
          |some cc=>cases h7:aT k [(b.t,e,uA dn++b.ys++rest')]<;>simp
       exact hr'.sub hsub
     have hT9: ∀t x,aT t (o9 (fun j=>listed.getD j false) opn tm0)=some x→(∀b'∈ch,b'.t≠t)∧ ∀b'∈ch,iB x≠some b'.t:=by
      intro t x hx
      refine⟨fun b' hb' e1=>(by rw[←e1,hnl _ b' hb'] at hx;cases hx),fun b' hb' hk=>?_⟩
      rw[fy] at hx
      cases ho9:oF (fun j=>listed.getD j false) opn t with
      |some x9=>
       rw[ho9] at hx
       injection hx with hx
       subst hx
       obtain⟨j,g4,_⟩:=r9 ho9
       rw[(ho1 _ _ _ g4).2.1] at hk;cases hk
      |none=>
       rw[ho9,Option.none_or] at hx
       exact hwf t x _ hx hk (hch.new b' hb').2
     have hdlt:=hc.dn b.i _ b.t ho rfl
     rcases List.eq_nil_or_concat dn with hdn0|⟨l,p,hdn0⟩
     ·subst hdn0
      obtain⟨us0,hbase⟩:=hch.base
      obtain⟨hbt0,hq0⟩:=hch.bx0 b r hs
      have hx:=htr (c:=c) hs ho hae hbt0 hbase
      have hG:=wO (P:=P) (ops:=ops) (N:=n) (t:=b.t) (ty:=ty) (pos:=pos) (af:=af) (g:=none) hch.hU (x:=x0) hx hy hy2 hq0 (by simpa [nA] using hbig1) (by simpa [nA] using hbig2) (bx:=y9 e rest []++bx) hnewb rfl
      obtain⟨hw,hg⟩:=hG av w0 β a w hr (fun t ht=>by injection ht with ht;subst ht;exact hdlt)
      refine(if_pos hw).mpr (.inl (hg.wp fun v w' ⟨σ',β',⟨c',rest',q1,q2,q3,q4⟩,hn',hr'⟩=>?_))
      subst q4
      refine hgo β' _ w' ⟨n,(b.t,.o b.t b.q c')::(tD c []++o9 (fun j=>listed.getD j false) opn tm0),(b.t,e,b.ys++rest')::(y9 e rest []++bx)⟩ c' rest' rfl (by simpa [nA] using q1) q2 (by simpa [nA] using q3) (fun t x hx=>?_) (fun k cc hk=>?_) hr'
      ·rw[rn] at hx
       rw[cO,bq] at hx
       show aT t ((b.t,_)::(o9 _ opn tm0))=some x
       rw[bq]
       by_cases htb:b.t=t
       ·rw[if_pos htb] at hx⊢;simpa [nA] using hx
       ·rw[if_neg htb] at hx⊢;simpa [aT] using hx
      ·rw[pm] at hk
       rw[cO,bq] at hk
       show aT k ((b.t,_)::bx)=some cc
       rw[bq]
       by_cases htb:b.t=k
       ·rw[if_pos htb] at hk⊢;simpa [uA] using hk
       ·rw[if_neg htb] at hk⊢;simpa [aT] using hk
     ·rw[List.concat_eq_append] at hdn0
      subst hdn0
      have hpc:p∈ch:=by rw[hs];simp
      have hlast:Fw x0 (l++[p])=.tmp p.t:=by unfold Fw;rw[List.getLast?_concat]
      have hpt:p.t≠b.t:=by
       intro e1
       obtain⟨o1,g1,g2⟩:=hop p hpc
       obtain⟨o2,g3,g4⟩:=hop b hbc
       have h1:=hc.dist p.i b.i o1 o2 b.t (hch.lt p hpc) (hch.lt b hbc) g1 g3 (by rw[g2,e1]) g4
       have h2:=hdn p (by simp)
       rw[h1,hif'] at h2;cases h2
      have hx:di (fun s=>aT s (tD c (l++[p])++o9 (fun j=>listed.getD j false) opn tm0)) (Fw x0 (l++[p]))=some (.o p.t (nA (l++[p])) c):=by
       rw[hlast]
       show aT p.t _=_
       rw[rn,cO,bq,if_pos rfl,qz];rfl
      have hbx9:aT p.t (y9 e rest (l++[p])++bx)=some (e,uA (l++[p])++rest):=by
       rw[pm,cO,bq,if_pos rfl,Ab];rfl
      have hul:(uA (l++[p])).length=nA (l++[p])*sz:=J4 fun b' hb'=>(hch.y b' (by rw[hs];exact List.mem_append_left _ hb')).2.1
      have hG:=tE (P:=P) (ops:=ops) (N:=n) (t:=b.t) (ty:=ty) (pos:=pos) (af:=af) (g:=none) hch.hU hx hy hbx9 (by rw[List.length_append,hul,hb.2.2,←Nat.add_mul];congr 1;have:=hb.1;omega) hy2 hch.hm hb.1 hb.2.1 hbig1 hbig2 (pre:=uA (l++[p]))
       (by rw[←hul];simp) (.inr (by rw[pm,cO,bq,if_neg hpt];simpa [aT] using hnewb)) rfl
      obtain⟨hw,hg⟩:=hG av w0 β a w hr (fun t ht=>by injection ht with ht;subst ht;exact hdlt)
      refine(if_pos hw).mpr (.inl (hg.wp fun v w' ⟨σ',β',⟨c',rest',q1,q2,q3,q4⟩,hn',hr'⟩=>?_))
      subst q4
      refine hgo β' _ w' ⟨n,(b.t,.o b.t (nA (l++[p])+b.q) c')::jg p.t (tD c (l++[p])++o9 (fun j=>listed.getD j false) opn tm0),(b.t,e,uA (l++[p])++b.ys++rest')::iK p.t (y9 e rest (l++[p])++bx)⟩ c' rest' rfl q1 q2 q3 (fun t x hx=>?_) (fun k cc hk=>?_) hr'
      ·rw[rn] at hx
       rw[cO,bq] at hx
       show aT t ((b.t,_)::jg p.t _)=some x
       rw[bq]
       by_cases htb:b.t=t
       ·rw[if_pos htb] at hx⊢;simpa using hx
       ·rw[if_neg htb] at hx⊢
        have hx:aT t (o9 (fun j=>listed.getD j false) opn tm0)=some x:=by simpa [aT] using hx
        obtain⟨g1,g2⟩:=hT9 t x hx
        rw[jC,cO,hhd c (l++[p]) (b::r) t hs g1,Option.none_or,hx]
        dsimp only
        rw[if_neg (g2 p hpc)]
      ·rw[pm] at hk
       rw[cO,bq] at hk
       show aT k ((b.t,_)::iK p.t _)=some cc
       rw[bq]
       by_cases htb:b.t=k
       ·rw[if_pos htb] at hk⊢;simpa using hk
       ·rw[if_neg htb] at hk⊢
        have hk:aT k bx=some cc:=by simpa [aT] using hk
        rw[iE,if_neg (fun e1=>by rw[e1,(hch.new p hpc).2] at hk;cases hk),cO,hhb rest (l++[p]) (b::r) k cc hs hk,Option.none_or];exact hk
theorem yO {id:Nat}{l pre tail:List Oper}{tm0:List (Nat×DV)}{bx:List (Nat×TypeId×List CellD)}{Q:Exit→St→Prop}(m:Nat) (C:List Nat) (hm:P.follows .mixedOrders=true) (hc:Jj l.toArray m n=true) (hpre:l.take m=pre) (htail:l.drop m=tail)
 (h:da P l.toArray C bx 0 pre tm0 fun tm=> ∃(U e:TypeId) (sz by_:Nat) (zs:List CellD) (x0:Operand) (ch:List AppS),ChainA P l.toArray C m U e sz by_ zs x0 tm0 tm bx ch∧
  ∀c rest,nA ch≤c→c≤maxLen→rest.length=(c-nA ch)*sz→dl P l.toArray tail ⟨n,tD c ch++tm,y9 e rest ch++bx⟩ (Q .normal)):Dw P (.region id l.toArray true) ⟨n,tm0,bx⟩ Q:=fun av w0 β a w hr=>by
 have hC:=Chk.of hc
 subst hpre htail
 obtain⟨opn,h1,h2,h4,U,e,sz,by_,zs,x0,ch,hch,hdl⟩:=vo _ _ _ h
 have hml:m≤l.length:=by simpa using hC.le
 have hget: ∀ {i:Nat}{o:Oper},(l.take m)[i]? =some o→i<m∧l.toArray[i]? =some o:=by
  intro i o hi
  rw[List.getElem?_take] at hi
  split at hi
  ·rename_i him;exact⟨him,by simpa using hi⟩
  ·cases hi
 refine wp_region_any hm ?_
 refine Oj (av:=av) (w0:=w0) (Q:=fun e a' w'=> ∃σ' β',σ'.n=n∧Q e σ'∧Rel av w0 σ'.n σ'.T σ'.B β' a' w') hC (opn:=opn) ?_ ?_ h4 hch (fun t x k hx hk=>hr.wf t x k hx hk) ?_ l.toArray.size (Array.replicate l.toArray.size false) β a _ [] ch 0 [] (by simp) (by unfold GI;refine Nat.le_trans List.countP_le_length ?_;simp) ?_ ?_ rfl (fun b hb=>by cases hb) ?_ ?_ ?_
 ·intro i d x hmem
  obtain⟨_,g2,g3,o,g4,g5,g6⟩:=h1 i d x hmem
  obtain⟨g7,g8⟩:=hget g4
  exact⟨g2,g3,by simpa using g7,o,by simpa using g8,g5,g6⟩
 ·intro i him hiC
  have hil:i<l.length:=by omega
  have:=h2 i l[i] (by rw[List.getElem?_take,if_pos him];exact List.getElem?_eq_getElem hil) (by rw[Nat.zero_add];exact hiC)
  rw[Nat.zero_add] at this;exact this
 ·intro c rest β a w fuel g1 g2 g3 hf hr'
  refine sG hC (K:=Q .normal) (fun σ' β a w hn hq hr=>⟨σ',β,hn,hq,by rw[hn];exact hr⟩) (l.drop m) m ⟨n,tD c ch++o9 (fun _=>true) opn tm0,y9 e rest ch++bx⟩ fuel β a w (Nat.le_refl _) (fun j=>by simp) (by simp;omega) rfl (hdl c rest g1 g2 g3) hr' (by simpa using hf)
 ·intro i o j hi
  simp[Array.getD] at hi
 ·intro t _
  simp[Array.getD]
  try (split<;>rfl)
 ·intro b _
  simp[Array.getD]
  try (split<;>rfl)
 ·exact⟨Nat.le_refl _,Nat.zero_le _,by simp[nA]⟩
 ·refine hr.drew.congr (fun t=>?_) (fun k=>rfl)
  show aT t (tD 0 []++o9 _ opn tm0)=aT t tm0
  rw[cO]
  show(aT t []).or _=_
  rw[show(aT t []:Option DV)=none from rfl,Option.none_or,fy,zD,Option.none_or]
  intro i x _
  simp[Array.getD]
  try (split<;>rfl)
end
section
variable {P:Program}{ops:Array Oper}{T:TF}{B:BF}
theorem jx {U e:TypeId}{m by_:Nat}{zs:List CellD}
 (hU:pc P U=some (e,m,by_,zs)) (hg:gd ops ⟨dst,.buildSlice U 0 #[],ty,pos,af,g⟩ T=some true):Sem P ops ⟨dst,.buildSlice U 0 #[],ty,pos,af,g⟩ T B (.r (.f 0 [])):=by
 refine⟨mG rfl,fun V β a w hs=>⟨d8 hs hg,?_⟩⟩
 obtain⟨hu,i,z,hi,hz,hsz,hby,hzl,hzr⟩:=gI hU
 have hexec:(execOp a.eval ⟨dst,.buildSlice U 0 #[],ty,pos,af,g⟩).run P w=.ok (.value (.slice (some ⟨w.heap.size,0,none⟩) 0 0)) (w.alloc (.cells #[] e)):=by
  have hso: ∀w,(sizeOf e).run P w=.ok i.size w:=fun w=>by unfold sizeOf typeInfo;simp[program,Sem.run,hi]
  simp[execOp,Instr.buildSlice,run_underlying hu,hso,Instr.fill,newRow]
  rw[show Array.map (fun _=>(default:Value)) (Array.range 0)= #[] from by simp]
 unfold Gives
 rw[hexec]
 exact⟨⟨⟨_,rfl⟩,.s0 _ _ (by decide)⟩,(Below.refl _ w).alloc (Nat.le_refl _) _⟩
theorem nB {x y:Operand}{U e:TypeId}{m by_:Nat}{us ys zs:List CellD}
 (hU:pc P U=some (e,m,by_,zs)) (hx:di T x=some (.f 0 us)) (hy:di T y=some (.v (.c (.s 0 ys))))
 (hg:gd ops ⟨dst,.call ⟨.builtin .append,#[x,y],#[U,U]⟩,ty,pos,af,g⟩ T=some true):
 Sem P ops ⟨dst,.call ⟨.builtin .append,#[x,y],#[U,U]⟩,ty,pos,af,g⟩ T B (.r (.f 0 us)):=by
 refine⟨mG rfl,fun V β a w hs=>⟨d8 hs hg,?_⟩⟩
 obtain⟨⟨A,e1⟩,hxr⟩:(∃A,a.eval x=.slice A 0 0)∧RdV V w (a.eval x) (.c (.s 0 us)):=aS hs (x:=x) (by simp[Op.operands,Call.operands]) hx
 have h2:RdC V w (a.eval y) (.s 0 ys):=aS hs (x:=y) (by simp[Op.operands,Call.operands]) hy
 have hys:ys=[]:=by
  generalize a.eval y=vy at h2
  cases h2 with
  |s0=>rfl
  |s b off c sz n' xs' cv h0=>omega
 subst hys
 obtain⟨news,hsrc,_⟩:=no hU h2 (by simp)
 obtain⟨hu,i,z,hi,hz,hsz,hby,_,hzr⟩:=gI hU
 subst hsz
 have hn1:news=[]:=List.length_eq_zero_iff.1 (by rw[hsrc.newsLen,Nat.zero_mul])
 subst hn1
 rw[e1] at hxr
 have hrun:(Builtin.append_ #[U,U] ty #[.slice A 0 0,a.eval y]).run P w=.ok (.slice A 0 0) w:=by
  cases A with
  |none=>rcases hsrc.kind with⟨e',hk⟩|hk<;>simp[Builtin.append_,run_underlying hu,sizeOf,typeInfo,hi,hsrc.len,hsrc.cells]<;>rfl
  |some A=>
   rcases hsrc.kind with⟨e',hk⟩|hk<;>simp[Builtin.append_,run_underlying hu,sizeOf,typeInfo,hi,hsrc.len,hsrc.cells]<;>rfl
 have hexec:(execOp a.eval ⟨dst,.call ⟨.builtin .append,#[x,y],#[U,U]⟩,ty,pos,af,g⟩).run P w=.ok (.value (.slice A 0 0)) w:=by
  simp only[execOp,resolve,invoke,builtin,Sem.run_bind,Sem.run_pure,Result.andThen_ok,List.map_toArray,List.map_cons,List.map_nil,e1]
  rw[hrun]
  rfl
 unfold Gives
 rw[hexec]
 exact⟨⟨⟨A,rfl⟩,hxr⟩,Below.refl _ w⟩
theorem zk {x y:Operand}{U e:TypeId}{n q m by_:Nat}{us ys zs:List CellD}
 (hU:pc P U=some (e,m,by_,zs)) (hx:di T x=some (.f n us)) (hy:di T y=some (.v (.c (.s q ys)))) (hus:us.length=n*m) (hyl:ys.length=q*m) (hm:0<m) (hn0:0<n) (hbytes:(n+q)*by_≤140737488355328) (h63:n+q≤maxLen)
 (hg:gd ops ⟨dst,.call ⟨.builtin .append,#[x,y],#[U,U]⟩,ty,pos,af,g⟩ T=some true):
 Sem P ops ⟨dst,.call ⟨.builtin .append,#[x,y],#[U,U]⟩,ty,pos,af,g⟩ T B (.r (.v (.c (.s (n+q) (us++ys))))):=
 o4 hU hx (fun V β a w hs=>no hU (aS hs (x:=y) (by simp[Op.operands,Call.operands]) hy) hyl) hus hyl hm hn0 hbytes h63 hg
theorem mP {x h:Operand}{U:TypeId}{n m n':Nat}{ki:IntKind}{j:Int}{xs us:List CellD}
 (hU:qP P U=some m) (hx:di T x=some (.v (.c (.s n xs)))) (hh:di T h=some (.v (.c (.i ki j)))) (hj:0≤j∧j≤n) (hl:xs.length=n*m) (hn':n-j.toNat=n') (hu:xs.drop (j.toNat*m)=us) (hg:gd ops ⟨dst,.slice U x (some h) none none,ty,pos,af,g⟩ T=some true):
 Sem P ops ⟨dst,.slice U x (some h) none none,ty,pos,af,g⟩ T B (.r (.v (.c (.s n' us)))):=
 bO hg (mG rfl) (fun V β a w hs=>by
  subst hn'
  have h1:=aS hs (x:=x) (by simp[Op.operands]) hx
  have h2:=RdC.int_eq (aS hs (x:=h) (by simp[Op.operands]) hh)
  generalize hv:a.eval x=v at h1
  have h1:RdC V w v (.s n xs):=h1
  unfold qP at hU
  split at hU
  case h_2=>cases hU
  rename_i el hul
  cases hinf:P.info? el with
  |none=>rw[hinf] at hU;cases hU
  |some inf=>
   rw[hinf] at hU
   simp at hU
   have hso: ∀w,(sizeOf el).run P w=.ok m w:=fun w=>by unfold sizeOf typeInfo;simp[program,Sem.run,hinf,hU]
   have hgen: ∀(A:Option Addr) (c:Nat),a.eval x=.slice A n c→n≤c→(execOp a.eval ⟨dst,.slice U x (some h) none none,ty,pos,af,g⟩).run P w=.ok (.value (.slice (if c=j.toNat then A else A.map (·.add (j.toNat*m))) (n-j.toNat) (c-j.toNat))) w:=by
    intro A c e hnc
    have hjc:j≤c:=by omega
    have hjn:=hj.2
    simp[execOp,Instr.sliceAt,Instr.slice,run_underlying hul,e,h2,Instr.sliceBounds,Instr.sliceBound,asIntOf,hj.1,hjn,hso]
   cases h1 with
   |s0 A c hc=>
    have hj0:j.toNat=0:=by omega
    refine⟨_,hgen A c hv (by omega),?_⟩
    rw[←hu,hj0]
    simp
    exact .s0 _ c hc
   |s b off c sz _ _ cv h0 hnc hcm hlen hb hav hc hr=>
    have hsz:sz=m:=by
     rw[hl] at hlen
     exact(Nat.eq_of_mul_eq_mul_left h0 hlen).symm
    subst hsz
    refine⟨_,hgen _ c hv hnc,?_⟩
    rcases Nat.lt_or_ge j.toNat n with hjn|hjn
    ·rw[if_neg (by omega),show((some ⟨b,off,none⟩:Option Addr).map (·.add (j.toNat*sz)))=some ⟨b,off+j.toNat*sz,none⟩ from by simp[Addr.add]]
     have hmul:j.toNat*sz+(n-j.toNat)*sz=n*sz:=by rw[←Nat.add_mul];congr 1;omega
     refine .s b (off+j.toNat*sz) (c-j.toNat) sz (n-j.toNat) us (fun q=>cv (j.toNat*sz+q)) (by omega) (by omega) (by omega) ?_ hb hav (fun q hq=>?_) (fun q u hq=>?_)
     ·rw[←hu,List.length_drop,hlen];omega
     ·have:=hc (j.toNat*sz+q) (by omega)
      rw[show off+j.toNat*sz+q=off+(j.toNat*sz+q) by omega];exact this
     ·rw[←hu,List.getElem?_drop] at hq
      exact hr _ u hq
    ·have e9:n-j.toNat=0:=by omega
     rw[e9,←hu,List.drop_eq_nil_of_le (by rw[hlen];exact Nat.mul_le_mul_right _ hjn)]
     exact .s0 _ _ (by omega))
end
theorem oX {P:Program}{ops:Array Oper}{o:Oper}{T:TF}{B:BF}{n n':Nat}{us us':List CellD}(h:Sem P ops o T B (.r (.v (.c (.s n us))))) (e1:n=n') (e2:us=us'):Sem P ops o T B (.r (.v (.c (.s n' us')))):=by subst e1 e2;exact h
def SY (ops:Array Oper) (i j:Nat):Bool:=match ops[j]? with
 |none=>false
 |some o=>(dc o).any (Nat.beq i)
theorem Dk {ops:Array Oper}{i j:Nat}(h:SY ops i j=true) {o:Oper}(ho:ops[j]? =some o):i∈dc o:=by
 unfold SY at h;rw[ho] at h;exact iA.1 h
section
variable {P:Program}{ops:Array Oper}{tail:List Oper}{K:St→Prop}{m n:Nat}{tm0 tm:List (Nat×DV)}{bx:List (Nat×TypeId×List CellD)}
theorem Cl {U e:TypeId}{sz by_ i1 i2 i3 t1 t2 t3 q1 q2 q3 N' ty1 Sc qB:Nat}{p1 p2 p3:String}{f1 f2 f3:Array Edge}{zs us ys1 ys2 ys3 zs':List CellD}{x0 y1 y2 y3:Operand}
 (hU:pc P U=some (e,sz,by_,zs)) (hm:0<sz) (hb:di (fun s=>aT s tm) x0=some (.f 0 us))
 (o1:ops[i1]? =some ⟨some t1,.call ⟨.builtin .append,#[x0,y1],#[U,U]⟩,ty1,p1,f1,none⟩) (o2:ops[i2]? =some ⟨some t2,.call ⟨.builtin .append,#[.tmp t1,y2],#[U,U]⟩,Sc,p2,f2,none⟩) (o3:ops[i3]? =some ⟨some t3,.call ⟨.builtin .append,#[.tmp t2,y3],#[U,U]⟩,qB,p3,f3,none⟩)
 (lt:(Nat.blt i1 m&&Nat.blt i2 m&&Nat.blt i3 m)=true) (d1:di (fun s=>aT s tm) y1=some (.v (.c (.s q1 ys1)))) (d2:di (fun s=>aT s tm) y2=some (.v (.c (.s q2 ys2)))) (d3:di (fun s=>aT s tm) y3=some (.v (.c (.s q3 ys3))))
 (l1:ys1.length=q1*sz) (l2:ys2.length=q2*sz) (l3:ys3.length=q3*sz) (b0:(mu ops [i1,i2,i3] m i1 x0&&mu ops [i1,i2,i3] m i1 y1&&mu ops [i1,i2,i3] m i2 y2&&mu ops [i1,i2,i3] m i3 y3)=true)
 (nx:(SY ops i1 i2&&SY ops i2 i3)=true) (hq:0<q1) (w1:aT t1 tm0=none) (w2:aT t2 tm0=none) (w3:aT t3 tm0=none) (v1:aT t1 bx=none) (v2:aT t2 bx=none) (v3:aT t3 bx=none)
 (hN:q1+q2+q3=N') (hz:ys1++ys2++ys3=zs') (hbytes:N'*by_≤140737488355328) (h63:N'≤maxLen)
 (hk: ∀c rest,N'≤c→c≤maxLen→rest.length=(c-N')*sz→dl P ops tail ⟨n,(t3,.o t3 N' c)::tm,(t3,e,zs'++rest)::bx⟩ K):
 ∃(U e:TypeId) (sz by_:Nat) (zs:List CellD) (x0:Operand) (ch:List AppS),ChainA P ops [i1,i2,i3] m U e sz by_ zs x0 tm0 tm bx ch∧
  ∀c rest,nA ch≤c→c≤maxLen→rest.length=(c-nA ch)*sz→dl P ops tail ⟨n,tD c ch++tm,y9 e rest ch++bx⟩ K:=by
 simp only[Bool.and_eq_true] at lt b0 nx
 obtain⟨⟨lt1,lt2⟩,lt3⟩:=lt
 obtain⟨⟨⟨b0,b1⟩,b2⟩,b3⟩:=b0
 have hN2:nA [⟨i1,t1,y1,q1,ys1⟩,⟨i2,t2,y2,q2,ys2⟩,⟨i3,t3,y3,q3,ys3⟩]=N':=by show q1+(q2+(q3+0))=N';omega
 have hz2:uA [⟨i1,t1,y1,q1,ys1⟩,⟨i2,t2,y2,q2,ys2⟩,⟨i3,t3,y3,q3,ys3⟩]=zs':=by show ys1++(ys2++(ys3++[]))=zs';rw[←hz];simp
 refine⟨U,e,sz,by_,zs,x0,[⟨i1,t1,y1,q1,ys1⟩,⟨i2,t2,y2,q2,ys2⟩,⟨i3,t3,y3,q3,ys3⟩],⟨hU,hm,⟨us,hb⟩,rfl,?_,?_,?_,?_,?_,?_,by rw[hN2];exact⟨hbytes,h63⟩⟩,fun c rest g1 g2 g3=>?_⟩
 ·intro l a r h
  match l,h with
  |[],h=>injection h with h _;subst h;exact⟨_,_,_,o1⟩
  |[x],h=>injection h with h h';injection h' with h' _;subst h h';exact⟨_,_,_,o2⟩
  |[x,y],h=>injection h with h h';injection h' with h' h'';injection h'' with h'' _;subst h h' h'';exact⟨_,_,_,o3⟩
  |x::y::z'::l,h=>have:=congrArg List.length h;simp at this<;>omega
 ·intro a ha
  simp only[List.mem_cons,List.not_mem_nil,or_false] at ha
  rcases ha with ha|ha|ha<;>subst ha
  ·exact eJ.1 lt1
  ·exact eJ.1 lt2
  ·exact eJ.1 lt3
 ·intro a ha
  simp only[List.mem_cons,List.not_mem_nil,or_false] at ha
  rcases ha with ha|ha|ha<;>subst ha
  ·exact⟨d1,l1,b1⟩
  ·exact⟨d2,l2,b2⟩
  ·exact⟨d3,l3,b3⟩
 ·intro a r h
  injection h with h _
  subst h
  exact⟨b0,hq⟩
 ·intro l a b r h o ho
  match l,h with
  |[],h=>injection h with h h';injection h' with h' _;subst h h';exact Dk nx.1 ho
  |[x],h=>injection h with h h';injection h' with h' h'';injection h'' with h'' _;subst h h' h'';exact Dk nx.2 ho
  |x::y::l,h=>have:=congrArg List.length h;simp at this<;>omega
 ·intro a ha
  simp only[List.mem_cons,List.not_mem_nil,or_false] at ha
  rcases ha with ha|ha|ha<;>subst ha
  ·exact⟨w1,v1⟩
  ·exact⟨w2,v2⟩
  ·exact⟨w3,v3⟩
 ·rw[hN2] at g1 g3
  have:=hk c rest g1 g2 g3
  show dl P ops tail ⟨n,[(t3,.o t3 (nA _) c)]++tm,[(t3,e,uA _++rest)]++bx⟩ K
  rw[hN2,hz2];exact this
theorem B5 {U e:TypeId}{sz by_ i1 i2 t1 t2 q1 q2 N' ty1 Sc:Nat}{p1 p2:String}{f1 f2:Array Edge}{zs us ys1 ys2 zs':List CellD}{x0 y1 y2:Operand}
 (hU:pc P U=some (e,sz,by_,zs)) (hm:0<sz) (hb:di (fun s=>aT s tm) x0=some (.f 0 us))
 (o1:ops[i1]? =some ⟨some t1,.call ⟨.builtin .append,#[x0,y1],#[U,U]⟩,ty1,p1,f1,none⟩) (o2:ops[i2]? =some ⟨some t2,.call ⟨.builtin .append,#[.tmp t1,y2],#[U,U]⟩,Sc,p2,f2,none⟩)
 (lt:(Nat.blt i1 m&&Nat.blt i2 m)=true) (d1:di (fun s=>aT s tm) y1=some (.v (.c (.s q1 ys1)))) (d2:di (fun s=>aT s tm) y2=some (.v (.c (.s q2 ys2))))
 (l1:ys1.length=q1*sz) (l2:ys2.length=q2*sz) (b0:(mu ops [i1,i2] m i1 x0&&mu ops [i1,i2] m i1 y1&&mu ops [i1,i2] m i2 y2)=true)
 (nx:SY ops i1 i2=true) (hq:0<q1) (w1:aT t1 tm0=none) (w2:aT t2 tm0=none) (v1:aT t1 bx=none) (v2:aT t2 bx=none)
 (hN:q1+q2=N') (hz:ys1++ys2=zs') (hbytes:N'*by_≤140737488355328) (h63:N'≤maxLen)
 (hk: ∀c rest,N'≤c→c≤maxLen→rest.length=(c-N')*sz→dl P ops tail ⟨n,(t2,.o t2 N' c)::tm,(t2,e,zs'++rest)::bx⟩ K):
 ∃(U e:TypeId) (sz by_:Nat) (zs:List CellD) (x0:Operand) (ch:List AppS),ChainA P ops [i1,i2] m U e sz by_ zs x0 tm0 tm bx ch∧
  ∀c rest,nA ch≤c→c≤maxLen→rest.length=(c-nA ch)*sz→dl P ops tail ⟨n,tD c ch++tm,y9 e rest ch++bx⟩ K:=by
 simp only[Bool.and_eq_true] at lt b0
 obtain⟨lt1,lt2⟩:=lt
 obtain⟨⟨b0,b1⟩,b2⟩:=b0
 have hN2:nA [⟨i1,t1,y1,q1,ys1⟩,⟨i2,t2,y2,q2,ys2⟩]=N':=by show q1+(q2+0)=N';omega
 have hz2:uA [⟨i1,t1,y1,q1,ys1⟩,⟨i2,t2,y2,q2,ys2⟩]=zs':=by show ys1++(ys2++[])=zs';rw[←hz];simp
 refine⟨U,e,sz,by_,zs,x0,[⟨i1,t1,y1,q1,ys1⟩,⟨i2,t2,y2,q2,ys2⟩],⟨hU,hm,⟨us,hb⟩,rfl,?_,?_,?_,?_,?_,?_,by rw[hN2];exact⟨hbytes,h63⟩⟩,fun c rest g1 g2 g3=>?_⟩
 ·intro l a r h
  match l,h with
  |[],h=>injection h with h _;subst h;exact⟨_,_,_,o1⟩
  |[x],h=>injection h with h h';injection h' with h' _;subst h h';exact⟨_,_,_,o2⟩
  |x::y::l,h=>have:=congrArg List.length h;simp at this<;>omega
 ·intro a ha
  simp only[List.mem_cons,List.not_mem_nil,or_false] at ha
  rcases ha with ha|ha<;>subst ha
  ·exact eJ.1 lt1
  ·exact eJ.1 lt2
 ·intro a ha
  simp only[List.mem_cons,List.not_mem_nil,or_false] at ha
  rcases ha with ha|ha<;>subst ha
  ·exact⟨d1,l1,b1⟩
  ·exact⟨d2,l2,b2⟩
 ·intro a r h
  injection h with h _
  subst h
  exact⟨b0,hq⟩
 ·intro l a b r h o ho
  match l,h with
  |[],h=>injection h with h h';injection h' with h' _;subst h h';exact Dk nx ho
  |x::l,h=>have:=congrArg List.length h;simp at this<;>omega
 ·intro a ha
  simp only[List.mem_cons,List.not_mem_nil,or_false] at ha
  rcases ha with ha|ha<;>subst ha
  ·exact⟨w1,v1⟩
  ·exact⟨w2,v2⟩
 ·rw[hN2] at g1 g3
  have:=hk c rest g1 g2 g3
  show dl P ops tail ⟨n,[(t2,.o t2 (nA _) c)]++tm,[(t2,e,uA _++rest)]++bx⟩ K
  rw[hN2,hz2];exact this
end
theorem TB (a b c d:Pt):au a++au b++au c++au d=aI au [a,b,c,d]:=by simp[aI]
section
variable {c d:Cv}
theorem Lw (h:fV c d=true):a8 c d=[c.p,c.q,d.p,d.q]:=by unfold a8;rw[if_pos h]
theorem K3 (h:fV c d=false):a8 c d=ms c d:=by unfold a8;rw[if_neg (by rw[h];decide)]
theorem KC {α:Type}{B:α→Bool}{M:List α}{n:Nat}{x:α}(h:n<M.length) (hb:B (M.getD n x)=true):(M.take (n+1)).filter B=(M.take n).filter B++[M.getD n x]:=by
 rw[jN (d:=x) h,List.filter_append]
 congr 1
 rw[List.filter_cons,if_pos hb];rfl
theorem zL {α:Type}{B:α→Bool}{M:List α}{n:Nat}{x:α}(h:n<M.length) (hb:B (M.getD n x)=false):(M.take (n+1)).filter B=(M.take n).filter B:=by
 rw[jN (d:=x) h,List.filter_append,List.filter_cons,if_neg (by rw[hb];decide)]
 simp
theorem Ip {p:Pt}(h:c.on p=true) (g:d.on p=true):dC c d p=true:=by unfold dC;rw[h,g];rfl
theorem Ff {p:Pt}(h:c.on p=false):dC c d p=false:=by unfold dC;rw[h];rfl
theorem FY {p:Pt}(g:d.on p=false):dC c d p=false:=by unfold dC;rw[g,Bool.and_false]
theorem Tm {l:List Pt}{r:Nat}(h:FT d l r=true):FT d l (r+1)=true:=by show(FT d l r||_)=true;rw[h];rfl
theorem Sg {l:List Pt}{r:Nat}(h:FT d l r=false):FT d l (r+1)=decide (d.ord (l.getD r dPt) (l.getD (r+1) dPt)<0):=by show(FT d l r||_)=_;rw[h];rfl
theorem Ox (h:fV c d=false):wu c d=false:=by unfold wu;rw[if_neg (by rw[h];decide)]
theorem NZ {r:Nat}(h:fV c d=true) (hr:(cT c d).length-1=r):wu c d=FT (fU c d) (cT c d) r:=by unfold wu;rw[if_pos h,hr]
theorem Du (hd:d.good):(fU c d).good:=by
 unfold fU
 split
 ·exact wn hd
 ·exact hd
end
theorem iZ {x y m n:Int}(h1: -m≤x∧x≤m) (h2: -n≤y∧y≤n): -(m*n)≤x*y∧x*y≤m*n:=by
 have hm:(x.natAbs:Int)≤m:=by omega
 have hn:(y.natAbs:Int)≤n:=by omega
 have h:(x*y).natAbs=x.natAbs*y.natAbs:=Int.natAbs_mul x y
 have h3:((x.natAbs*y.natAbs:Nat):Int)≤m*n:=by
  rw[Int.natCast_mul]
  exact Int.mul_le_mul hm hn (by omega) (by omega)
 omega
def qD (A u:Int):Rat:=Rat.divInt A u
theorem ce {A u:Int}(h: -128≤A∧A≤127) (hu:1≤u∧u≤4):Rz 1 (qD A u):=Rz.of (lm (by omega) (by omega)) (lm (by omega) (by omega)) (by omega)
def My (a b c d:Rat):Ln:=⟨b-d,c-a,(b-d)*a+(c-a)*b⟩
def rP (a b:Rat):Pt:=⟨a,0,b,0,0⟩
theorem Md {a b c d:Rat}(ha:Rz 1 a) (hb:Rz 1 b) (hc:Rz 1 c) (hd:Rz 1 d) (h: ¬(b-d=0∧c-a=0)):GL (My a b c d):=
 ⟨(hb.sub hd).mono (by decide),(hc.sub ha).mono (by decide),(((hb.sub hd).mul ha).add ((hc.sub ha).mul hb)).mono (by decide),fun e=>h (Fe e)⟩
theorem xV {a b:Rat}(ha:Rz 1 a) (hb:Rz 1 b):GP (rP a b):=GP.rat (ha.mono (by decide)) (hb.mono (by decide))
theorem BA (a c:Rat):rH a 0 0 c 0 0=aV (a-c) 0:=by
 have e:zc (0:Rat) 0=0:=by unfold zc;rw[if_pos rfl]
 have e2:aV (0:Rat) 0=0:=eG 0
 have e3: ∀x y:Rat,cm x 0 y=aV x 0:=fun x y=>by unfold cm ll;rw[e2,Int.zero_mul,if_pos (.inl rfl)]
 unfold rH iX
 rw[e,if_neg (by intro h;rcases h with h|h<;>exact absurd h (by decide)),e3,e3,e2,Int.mul_zero]
 unfold ll
 rw[if_pos (.inl rfl)]
theorem zM {a b c d:Rat}(h:cP (rP a b) (rP c d)=0):a=c∧b=d:=by
 have h:jZ a 0 b 0 0 c 0 d 0 0=0:=h
 unfold jZ at h
 rw[BA,BA] at h
 split at h
 ·rename_i g;exact absurd h g
 ·rename_i g
  have h1:=fu.1 (Classical.byContradiction g)
  have h2:=fu.1 h
  exact⟨by grind,by grind⟩
def lj (a b c d e f:Rat):Rat:=(c-a)*(f-b)-(d-b)*(e-a)
def uy (a b c d e f:Rat):Rat:=(((c-a)*(c-a)+(d-b)*(d-b))*(f-b)-((e-a)*(e-a)+(f-b)*(f-b))*(d-b))/(lj a b c d e f+lj a b c d e f)
def uM (a b c d e f:Rat):Rat:=(((e-a)*(e-a)+(f-b)*(f-b))*(c-a)-((c-a)*(c-a)+(d-b)*(d-b))*(e-a))/(lj a b c d e f+lj a b c d e f)
def RS (a b c d e f:Rat):Ci:=⟨a+uy a b c d e f,b+uM a b c d e f,uy a b c d e f*uy a b c d e f+uM a b c d e f*uM a b c d e f⟩
theorem Dt {N D:Int}{x:Rat}(hD:D≠0) (h:x*(D:Rat)=(N:Rat)):x=Rat.divInt N D:=by
 have hd:(D:Rat)≠0:=by simpa using hD
 rw[Rat.divInt_eq_div,←h,Rat.mul_div_cancel hd]
theorem RR {A B C D E F u:Int}(hA: -128≤A∧A≤127) (hB: -128≤B∧B≤127) (hC: -128≤C∧C≤127) (hD: -128≤D∧D≤127) (hE: -128≤E∧E≤127) (hF: -128≤F∧F≤127) (hu:1≤u∧u≤4)
 (hn:lj (qD A u) (qD B u) (qD C u) (qD D u) (qD E u) (qD F u)≠0):GK (RS (qD A u) (qD B u) (qD C u) (qD D u) (qD E u) (qD F u)):=by
 have hu0:(u:Rat)≠0:=by have:u≠0:=by omega
                        simpa using this
 have q: ∀X:Int,qD X u*(u:Rat)=(X:Rat):=fun X=>by unfold qD;rw[Rat.divInt_eq_div,Rat.div_mul_cancel hu0]
 obtain⟨px,hpx⟩: ∃px,px=C-A:=⟨_,rfl⟩
 obtain⟨py,hpy⟩: ∃py,py=D-B:=⟨_,rfl⟩
 obtain⟨qx,hqx⟩: ∃qx,qx=E-A:=⟨_,rfl⟩
 obtain⟨qy,hqy⟩: ∃qy,qy=F-B:=⟨_,rfl⟩
 obtain⟨I,hI⟩: ∃I,I=px*qy-py*qx:=⟨_,rfl⟩
 obtain⟨NX,hNX⟩: ∃NX,NX=(px*px+py*py)*qy-(qx*qx+qy*qy)*py:=⟨_,rfl⟩
 obtain⟨NY,hNY⟩: ∃NY,NY=(qx*qx+qy*qy)*px-(px*px+py*py)*qx:=⟨_,rfl⟩
 have b1: -255≤px∧px≤255:=by omega
 have b2: -255≤py∧py≤255:=by omega
 have b3: -255≤qx∧qx≤255:=by omega
 have b4: -255≤qy∧qy≤255:=by omega
 have m1:=iZ b1 b4
 have m2:=iZ b2 b3
 have m3:=iZ b1 b1
 have m4:=iZ b2 b2
 have m5:=iZ b3 b3
 have m6:=iZ b4 b4
 have bI: -130050≤I∧I≤130050:=by omega
 have n1:=iZ (x:=px*px+py*py) (m:=130050) (by omega) b4
 have n2:=iZ (x:=qx*qx+qy*qy) (m:=130050) (by omega) b2
 have n3:=iZ (x:=qx*qx+qy*qy) (m:=130050) (by omega) b1
 have n4:=iZ (x:=px*px+py*py) (m:=130050) (by omega) b3
 have bX: -66325500≤NX∧NX≤66325500:=by omega
 have bY: -66325500≤NY∧NY≤66325500:=by omega
 have bA:=iZ (x:=A) (m:=128) (by omega) bI
 have bB:=iZ (x:=B) (m:=128) (by omega) bI
 have bu:=iZ (x:=u) (m:=4) (by omega) bI
 have sX:=iZ bX bX
 have sY:=iZ bY bY
 have r1:=q A;have r2:=q B;have r3:=q C;have r4:=q D;have r5:=q E;have r6:=q F
 generalize qD A u=a at*
 generalize qD B u=b at*
 generalize qD C u=c at*
 generalize qD D u=d at*
 generalize qD E u=e at*
 generalize qD F u=f at*
 have cpx:(c-a)*(u:Rat)=(px:Rat):=by rw[hpx,Rat.intCast_sub,←r3,←r1];grind
 have cpy:(d-b)*(u:Rat)=(py:Rat):=by rw[hpy,Rat.intCast_sub,←r4,←r2];grind
 have cqx:(e-a)*(u:Rat)=(qx:Rat):=by rw[hqx,Rat.intCast_sub,←r5,←r1];grind
 have cqy:(f-b)*(u:Rat)=(qy:Rat):=by rw[hqy,Rat.intCast_sub,←r6,←r2];grind
 have cI:lj a b c d e f*((u:Rat)*(u:Rat))=(I:Rat):=by
  rw[hI,Rat.intCast_sub,Rat.intCast_mul,Rat.intCast_mul,←cpx,←cpy,←cqx,←cqy];unfold lj;grind
 have hI0:I≠0:=by
  intro e0
  rw[e0] at cI
  have h1:lj a b c d e f*((u:Rat)*(u:Rat))=0:=by rw[cI];rfl
  rcases Rat.mul_eq_zero.1 h1 with h2|h2
  ·exact hn h2
  ·rcases Rat.mul_eq_zero.1 h2 with h3|h3<;>exact hu0 h3
 have h2D:lj a b c d e f+lj a b c d e f≠0:=fun h=>hn (by grind)
 have cX:uy a b c d e f*((2*u*I:Int):Rat)=(NX:Rat):=by
  have h1:uy a b c d e f*(lj a b c d e f+lj a b c d e f)=((c-a)*(c-a)+(d-b)*(d-b))*(f-b)-((e-a)*(e-a)+(f-b)*(f-b))*(d-b):=by unfold uy;exact Rat.div_mul_cancel h2D
  have h2:((2*u*I:Int):Rat)=(lj a b c d e f+lj a b c d e f)*((u:Rat)*(u:Rat)*(u:Rat)):=by
   rw[Rat.intCast_mul,Rat.intCast_mul,←cI]
   show(2:Rat)*_*_=_
   grind
  rw[h2,←Rat.mul_assoc,h1,hNX]
  simp only[Rat.intCast_sub,Rat.intCast_mul,Rat.intCast_add]
  rw[←cpx,←cpy,←cqx,←cqy]
  grind
 have cY:uM a b c d e f*((2*u*I:Int):Rat)=(NY:Rat):=by
  have h1:uM a b c d e f*(lj a b c d e f+lj a b c d e f)=((e-a)*(e-a)+(f-b)*(f-b))*(c-a)-((c-a)*(c-a)+(d-b)*(d-b))*(e-a):=by unfold uM;exact Rat.div_mul_cancel h2D
  have h2:((2*u*I:Int):Rat)=(lj a b c d e f+lj a b c d e f)*((u:Rat)*(u:Rat)*(u:Rat)):=by
   rw[Rat.intCast_mul,Rat.intCast_mul,←cI]
   show(2:Rat)*_*_=_
   grind
  rw[h2,←Rat.mul_assoc,h1,hNY]
  simp only[Rat.intCast_sub,Rat.intCast_mul,Rat.intCast_add]
  rw[←cpx,←cpy,←cqx,←cqy]
  grind
 have hM0:2*u*I≠0:=by
  rw[Int.mul_assoc]
  intro h
  rcases Int.mul_eq_zero.1 h with h|h
  ·omega
  ·rcases Int.mul_eq_zero.1 h with h|h
   ·omega
   ·exact hI0 h
 have eM:2*u*I=2*(u*I):=by rw[Int.mul_assoc]
 have bM: -1040400≤2*u*I∧2*u*I≤1040400:=by rw[eM];omega
 obtain⟨M,hM⟩: ∃M,M=2*u*I:=⟨_,rfl⟩
 rw[←hM] at cX cY hM0 bM
 have cA:a*(M:Rat)=((2*(A*I):Int):Rat):=by
  rw[hM,Rat.intCast_mul,Rat.intCast_mul,Rat.intCast_mul,Rat.intCast_mul,←r1]
  show a*((2:Rat)*_*_)=(2:Rat)*_
  grind
 have cB:b*(M:Rat)=((2*(B*I):Int):Rat):=by
  rw[hM,Rat.intCast_mul,Rat.intCast_mul,Rat.intCast_mul,Rat.intCast_mul,←r2]
  show b*((2:Rat)*_*_)=(2:Rat)*_
  grind
 have e1:a+uy a b c d e f=Rat.divInt (2*(A*I)+NX) M:=Dt hM0 (by rw[Rat.intCast_add,←cA,←cX];grind)
 have e2:b+uM a b c d e f=Rat.divInt (2*(B*I)+NY) M:=Dt hM0 (by rw[Rat.intCast_add,←cB,←cY];grind)
 have e3:uy a b c d e f*uy a b c d e f+uM a b c d e f*uM a b c d e f=Rat.divInt (NX*NX+NY*NY) (M*M):=
  Dt (fun h=>by rcases Int.mul_eq_zero.1 h with h|h<;>exact hM0 h) (by rw[Rat.intCast_add,Rat.intCast_mul,Rat.intCast_mul,Rat.intCast_mul,←cX,←cY];grind)
 have bMM:=iZ bM bM
 have p2:pw 2=1000000000000000000:=by decide+kernel
 have s2: ∀x:Int,-1000000000000000000<x→x<1000000000000000000→Sz 2 x:=fun x h h'=>⟨by omega,by omega⟩
 refine⟨?_,?_,?_⟩
 ·show Rz 1 (a+uy a b c d e f)
  rw[e1]
  exact Rz.of (lm (by omega) (by omega)) (lm (by omega) (by omega)) hM0
 ·show Rz 1 (b+uM a b c d e f)
  rw[e2]
  exact Rz.of (lm (by omega) (by omega)) (lm (by omega) (by omega)) hM0
 ·show Rz 2 (uy a b c d e f*uy a b c d e f+uM a b c d e f*uM a b c d e f)
  rw[e3]
  exact Rz.of (s2 _ (by omega) (by omega)) (s2 _ (by omega) (by omega)) (fun h=>by rcases Int.mul_eq_zero.1 h with h|h<;>exact hM0 h)
def jt (k:Ci):Pt:=fv k.x (-1) k.y 0 k.q
def i9 (k:Ci):Pt:=fv k.x 1 k.y 0 k.q
theorem iy:Rz 1 (1:Rat):=⟨by rw[show(1:Rat).num=1 from rfl];exact lm (by decide) (by decide),by rw[show((1:Rat).den:Int)=1 from rfl];exact Sz.one (by decide)⟩
theorem qY {k:Ci}(hk:GK k) (h0:0<k.q):GP (jt k):=si (hk.x.mono (by decide)) (iy.neg.mono (by decide)) (hk.y.mono (by decide)) (Rz.zero (by decide)) (hk.q.mono (by decide)) h0 (fun e=>absurd e.1 (by decide))
theorem q6 {k:Ci}(hk:GK k) (h0:0<k.q):GP (i9 k):=si (hk.x.mono (by decide)) (iy.mono (by decide)) (hk.y.mono (by decide)) (Rz.zero (by decide)) (hk.q.mono (by decide)) h0 (fun e=>absurd e.1 (by decide))
def ob:List CellD:=ua++ua++ua++ua++ua
theorem df (c:Cv) (r:List CellD):(aB c++r).take 66=aB c:=by rw[←ak c];exact List.take_left
theorem O6 {q:Rat}(h0:0<q) (hs:go q=true):rt q≠0:=by
 intro h
 have hs2:=hs
 unfold go xe at hs2
 simp only[Bool.and_eq_true,beq_iff_eq] at hs2
 have hd:bP (q.den:Int)≠0:=by have:=sB (den_pos q);omega
 have hdq:((bP (q.den:Int):Int):Rat)≠0:=by simpa using hd
 have h1:((bP q.num:Int):Rat)=0:=by
  have h2:rt q*((bP (q.den:Int):Int):Rat)=((bP q.num:Int):Rat):=by unfold rt;rw[Rat.divInt_eq_div,Rat.div_mul_cancel hdq]
  rw[←h2,h];grind
 have h3:bP q.num=0:=by simpa using h1
 have h4:=hs2.1
 rw[h3,Int.mul_zero] at h4
 have h5:q=0:=Rat.num_eq_zero.1 h4.symm
 rw[h5] at h0;exact absurd h0 (by decide)
theorem Nc {k:Ci}(h0:0<k.q):cP (jt k) (i9 k)≠0∧cP (i9 k) (jt k)≠0:=by
 have hq:0≤k.q:=by grind
 cases hs:go k.q with
 |true=>
  have e1:jt k=rP (k.x+ -1*rt k.q) (k.y+0*rt k.q):=by unfold jt fv;rw[hs];rfl
  have e2:i9 k=rP (k.x+1*rt k.q) (k.y+0*rt k.q):=by unfold i9 fv;rw[hs];rfl
  have hr:=O6 h0 hs
  rw[e1,e2]
  exact⟨fun h=>hr (by have:=(zM h).1;grind),fun h=>hr (by have:=(zM h).1;grind)⟩
 |false=>
  have e1:jt k=⟨k.x,-1,k.y,0,k.q⟩:=by unfold jt fv;rw[hs];rfl
  have e2:i9 k=⟨k.x,1,k.y,0,k.q⟩:=by unfold i9 fv;rw[hs];rfl
  have z1:zc (-1:Rat) k.q=k.q:=by unfold zc;rw[if_neg (by decide)]
  have z2:zc (1:Rat) k.q=k.q:=by unfold zc;rw[if_neg (by decide)]
  have hrr:bR (Re.rt k.q)≠0:=by
   intro h
   have h1:=my (ry hq)
   rw[cj,h,dN] at h1
   exact absurd (fu.1 h1.symm) (by grind)
  have key: ∀s:Rat,s≠0→zc s k.q=k.q→zc (-s) k.q=k.q→rH k.x (-s) k.q k.x s k.q≠0:=by
   intro s hs0 hz1 hz2
   rw[mn hq hq]
   unfold qu dX
   rw[hz1,hz2]
   have e:(Re.of k.x+Re.of (-s)*Re.rt k.q)-(Re.of k.x+Re.of s*Re.rt k.q)=Re.of (-2*s)*Re.rt k.q:=Re.ext fun n=>by simp only[bt,bp,bK,cJ];grind
   rw[e,cj,dN]
   intro h
   rcases Int.mul_eq_zero.1 h with h|h
   ·have:=fu.1 h;grind
   ·exact hrr h
  have key2: ∀ {p q:Pt},cx p q≠0→cP p q≠0:=by
   intro p q h
   show jZ _ _ _ _ _ _ _ _ _ _≠0
   unfold jZ
   rw[if_pos (show rH p.a1 p.b1 p.c q.a1 q.b1 q.c≠0 from h)];exact h
  rw[e1,e2]
  exact⟨key2 (key 1 (by decide) z2 z1),key2 (by have:=key (-1) (by decide) z1 (by rw[Rat.neg_neg];exact z2);rw[Rat.neg_neg] at this;exact this)⟩
def uD (U:Int):Int:=U%4+1
def tG (k:Ci):List Cv:=[.arc k false (jt k) (i9 k),.arc k false (i9 k) (jt k)]
def Dm (a b c d e f:Rat):Cv:=.arc (RS a b c d e f) (decide (aV ((c-a)*(f-b)) ((d-b)*(e-a))<0)) (rP a b) (rP e f)
def LN (a b c d:Rat):Cv:=.seg (My a b c d) (rP a b) (rP c d)
def pA (K U A B C D E F:Int):List Cv:=
 if K%3=2 then(if 0<qD C (uD U) then tG ⟨qD A (uD U),qD B (uD U),qD C (uD U)⟩ else[])
 else if K%3=1 then(if lj (qD A (uD U)) (qD B (uD U)) (qD C (uD U)) (qD D (uD U)) (qD E (uD U)) (qD F (uD U))=0 then[] else[Dm (qD A (uD U)) (qD B (uD U)) (qD C (uD U)) (qD D (uD U)) (qD E (uD U)) (qD F (uD U))])
 else(if qD B (uD U)-qD D (uD U)=0∧qD C (uD U)-qD A (uD U)=0 then[] else[LN (qD A (uD U)) (qD B (uD U)) (qD C (uD U)) (qD D (uD U))])
structure CvG (c:Cv):Prop where
 g:c.good
 ne:cP c.p c.q≠0
theorem I9 {a b c d e f:Rat}:aV ((c-a)*(f-b)) ((d-b)*(e-a))=0↔lj a b c d e f=0:=by
 rw[show aV ((c-a)*(f-b)) ((d-b)*(e-a))=aV (lj a b c d e f) 0 from(mw _ _).symm,fu]
theorem Mq {a b c d e f:Rat}(h:lj a b c d e f≠0):cP (rP a b) (rP e f)≠0:=by
 intro h1
 obtain⟨rfl,rfl⟩:=zM h1
 exact h (by unfold lj;grind)
theorem Bz {U:Int}(_h:0≤U):1≤uD U∧uD U≤4:=by unfold uD;omega
section
variable {K U A B C D E F:Int}(hU:0≤U) (hA: -128≤A∧A≤127) (hB: -128≤B∧B≤127) (hC: -128≤C∧C≤127) (hD: -128≤D∧D≤127) (hE: -128≤E∧E≤127) (hF: -128≤F∧F≤127)
include hU hA hB hC hD hE hF
theorem vh: ∀c∈pA K U A B C D E F,CvG c:=by
 intro c hc
 have hu:=Bz hU
 unfold pA at hc
 split at hc
 ·split at hc
  ·rename_i h0
   have gk:GK ⟨qD A (uD U),qD B (uD U),qD C (uD U)⟩:=⟨ce hA hu,ce hB hu,(ce hC hu).mono (by decide)⟩
   have g1:=qY gk h0
   have g2:=q6 gk h0
   have g3:=Nc (k:=⟨qD A (uD U),qD B (uD U),qD C (uD U)⟩) h0
   unfold tG at hc
   rcases List.mem_cons.1 hc with e|e
   ·subst e;exact⟨⟨gk,g1,g2⟩,g3.1⟩
   ·rw[List.mem_singleton] at e;subst e;exact⟨⟨gk,g2,g1⟩,g3.2⟩
  ·cases hc
 ·split at hc
  ·split at hc
   ·cases hc
   ·rename_i h0
    rw[List.mem_singleton] at hc;subst hc
    exact⟨⟨RR hA hB hC hD hE hF hu h0,xV (ce hA hu) (ce hB hu),xV (ce hE hu) (ce hF hu)⟩,Mq h0⟩
  ·split at hc
   ·cases hc
   ·rename_i h0
    rw[List.mem_singleton] at hc;subst hc
    refine⟨⟨Md (ce hA hu) (ce hB hu) (ce hC hu) (ce hD hu) h0,xV (ce hA hu) (ce hB hu),xV (ce hC hu) (ce hD hu)⟩,fun h=>h0 ?_⟩
    obtain⟨e1,e2⟩:=zM h
    exact⟨by grind,by grind⟩
omit hU hA hB hC hD hE hF in
theorem NN:(pA K U A B C D E F).length≤2:=by
 unfold pA tG
 repeat' split
 all_goals simp
end
def eH (c:Cv) (l:List Cv):List Pt:=l.flatMap (cT c)
theorem jR {c:Cv}{l:List Cv}{n:Nat}(h:n<l.length):eH c (l.take (n+1))=eH c (l.take n)++cT c (l.getD n bn):=by
 unfold eH
 rw[jN (d:=bn) h,List.flatMap_append]
 congr 1
 simp
theorem ue {c:Cv}(hc:c.good): ∀ {l:List Cv},(∀d∈l,d.good)→ ∀p∈eH c l,GP p∧c.on p=true
 |[],_,p,hp=>by cases hp
 |d::l,h,p,hp=>by
  unfold eH at hp
  rw[List.flatMap_cons] at hp
  rcases List.mem_append.1 hp with hp|hp
  ·refine⟨nM hc (h d List.mem_cons_self) p hp,?_⟩
   have h1:=(List.mem_filter.1 (j7 hp)).2
   unfold dC at h1
   exact(Bool.and_eq_true _ _▸h1).1
  ·exact ue hc (fun d hd=>h d (List.mem_cons_of_mem _ hd)) p hp
theorem vE {c:Cv}: ∀ {l:List Cv},(eH c l).length≤4*l.length
 |[]=>Nat.le_refl _
 |d::l=>by
  have h1:=vE (c:=c) (l:=l)
  have h2:=jI (a:=c) (c:=d)
  unfold eH at*
  rw[List.flatMap_cons,List.length_append]
  show _≤4*(l.length+1)
  omega
theorem KP {c:Cv}{p q:Pt}(h:cP p q≠0):(gp c (gp c [] p) q).length=2:=by
 have e:gp c [] p=[p]:=rfl
 rw[e]
 unfold gp
 rw[if_neg]
 ·rw[List.length_append,List.length_cons,List.length_take,List.length_drop]
  have:=EP (c:=c) (x:=q) [p]
  simp only[List.length_cons,List.length_nil] at*
  omega
 ·rintro⟨h1,h2⟩
  have h3:jd c q [p]=0:=by simp only[List.length_cons,List.length_nil] at h1;omega
  rw[h3] at h2
  exact h h2
theorem iq {c:Cv}{p q:Pt}{l:List Pt}(h:cP p q≠0):2≤(cr c ([p,q]++l)).length:=by
 have h1:=(vw (c:=c) l (gp c (gp c [] p) q)).1
 rw[KP h] at h1
 exact h1
def t6 (A0 Bl:List Cv):List Cv:=eE (A0.getD 0 bn) (eH (A0.getD 0 bn) Bl)
theorem BP {A0 Bl:List Cv}(h:cP (A0.getD 0 bn).p (A0.getD 0 bn).q≠0):0<(t6 A0 Bl).length:=by
 unfold t6 eE
 rw[fZ]
 have:=iq (c:=A0.getD 0 bn) (l:=eH (A0.getD 0 bn) Bl) h
 omega
theorem xg {P:Program}{ops:Array Oper}{T:TF}{B:BF}{x y:Operand}{U e:TypeId}{q m by_:Nat}{ys zs:List CellD}
 (hU:pc P U=some (e,m,by_,zs)) (hx:di T x=some .z) (hy:di T y=some (.v (.c (.s q ys)))) (hq:q=0)
 (hg:gd ops ⟨dst,.call ⟨.builtin .append,#[x,y],#[U,U]⟩,ty,pos,af,g⟩ T=some true):
 Sem P ops ⟨dst,.call ⟨.builtin .append,#[x,y],#[U,U]⟩,ty,pos,af,g⟩ T B (.r .z):=by
 subst hq
 refine⟨mG rfl,fun V β a w hs=>⟨d8 hs hg,?_⟩⟩
 have e1:a.eval x=.slice none 0 0:=aS hs (x:=x) (by simp[Op.operands,Call.operands]) hx
 have h2:RdC V w (a.eval y) (.s 0 ys):=aS hs (x:=y) (by simp[Op.operands,Call.operands]) hy
 have hys:ys=[]:=by
  generalize a.eval y=vy at h2
  cases h2 with
  |s0=>rfl
  |s b off c sz n' xs' cv h0=>omega
 subst hys
 obtain⟨news,hsrc,_⟩:=no hU h2 (by simp)
 obtain⟨hu,i,z,hi,hz,hsz,hby,_,hzr⟩:=gI hU
 subst hsz
 have hn1:news=[]:=List.length_eq_zero_iff.1 (by rw[hsrc.newsLen,Nat.zero_mul])
 subst hn1
 have hrun:(Builtin.append_ #[U,U] ty #[.slice none 0 0,a.eval y]).run P w=.ok (.slice none 0 0) w:=by
  rcases hsrc.kind with⟨e',hk⟩|hk<;>simp[Builtin.append_,run_underlying hu,sizeOf,typeInfo,hi,hsrc.len,hsrc.cells]<;>rfl
 have hexec:(execOp a.eval ⟨dst,.call ⟨.builtin .append,#[x,y],#[U,U]⟩,ty,pos,af,g⟩).run P w=.ok (.value (.slice none 0 0)) w:=by
  simp only[execOp,resolve,invoke,builtin,Sem.run_bind,Sem.run_pure,Result.andThen_ok,List.map_toArray,List.map_cons,List.map_nil,e1]
  rw[hrun]
  rfl
 unfold Gives
 rw[hexec]
 exact⟨rfl,Below.refl _ w⟩
end Go.Proofs.YtkmdgigkbhmilaaGreat
namespace Go.Proofs.YtkmdgigkbhmilaaGreat
def uK (k:Fin 4):Bool:=k==0||k==1
def uF (k:Fin 4):Bool:=k==2||k==1
def Cp (u v:Bool) (n:Int):Int:=if u !=v then(if v then-1 else 1) else if u then-n else n
def GA (u v:Bool) (n:Int):Int:=if u !=v then(if u then-1 else 1) else if u then-n else n
def Di (a1 a2 a3:Int):Int:=if decide (a1<0) !=decide (a2<0) then(if decide (a2<0) then-1 else 1) else a3
def G9 (b:Int):Int:=if b=0 then 0 else if b>0 then 1 else 2
def P5 (n:Int):Int:=min 1 (max (-1) n)
def vJ (b1 b2 b3:Int):Int:=if G9 b1≠G9 b2 then P5 (G9 b1-G9 b2) else P5 b3
def i3 (i:Fin 3):Int:=(i.val:Int)-1
def C3 (n1 n2 n3:Int):Bool:=(n2 !=0||n3==n1)&&(n1 !=0||n3== -n2)&&(n1 != -n2||n3==n1)
def o5 (k l:Fin 4) (n:Int):Bool:=
 if k=0 then n==(if l=0 then 0 else 1) else if k=2 then n==(if l=2 then 0 else-1)
 else if l=0 then n== -1 else if l=2 then n==1 else true
def VY (kf kp kt:Fin 4) (n1 n2 n3:Int):Bool:=
 decide (Di (Cp (uF kf) (uF kf) 0) (Cp (uF kp) (uF kf) (-n1)) (Cp (uF kf) (uF kp) n1)≤0)&&
 decide (Di (Cp (uF kp) (uF kf) (-n1)) (Cp (uF kt) (uF kf) (-n2)) (Cp (uF kp) (uF kt) (-n3))≤0)
def VZ (kf kp kt:Fin 4) (n1 n2 n3:Int):Bool:=
 decide (vJ (GA (uK kp) (uK kt) n3) (GA (uK kf) (uK kt) (-n2)) (GA (uK kp) (uK kf) n1)≤0)
set_option maxRecDepth 100000 in
theorem N3: ∀(kf kp kt:Fin 4) (i j l:Fin 3),C3 (i3 i) (i3 j) (i3 l)=true→o5 kp kf (i3 i)=true→o5 kt kf (i3 j)=true→o5 kp kt (i3 l)=true→
 VY kf kp kt (i3 i) (i3 j) (i3 l)=VZ kf kp kt (i3 i) (i3 j) (i3 l):=by decide+kernel
def Ug (uf up ut:Bool) (n1 n2 n3:Int):Bool:=
 decide (Di (Cp uf uf 0) (Cp up uf n1) (Cp uf up (-n1))≤0)&&decide (Di (Cp up uf n1) (Cp ut uf n2) (Cp up ut n3)≤0)
def Tz (uf up ut:Bool) (n1 n2 n3:Int):Bool:=decide (vJ (GA up uf n1) (GA ut uf n2) (GA up ut n3)≤0)
set_option maxRecDepth 100000 in
theorem HR: ∀(uf up ut:Bool) (i j l:Fin 3),C3 (i3 i) (i3 j) (i3 l)=true→Ug uf up ut (i3 i) (i3 j) (i3 l)=Tz uf up ut (i3 i) (i3 j) (i3 l):=by decide+kernel
end Go.Proofs.YtkmdgigkbhmilaaGreat
