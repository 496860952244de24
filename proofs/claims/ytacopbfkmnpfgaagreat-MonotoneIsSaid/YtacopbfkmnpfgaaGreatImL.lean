/-Data:slices that grow:the room behind a slice is not known. -/
import Derived.Test.YtacopbfkmnpfgaaGreatImK
namespace Go.Proofs.YtacopbfkmnpfgaaGreat
open Go Go.RowKit
section
variable {P:Program}{ops:Array Oper}{T:TF}{B:BF}{av:Nat→Prop}{w0:Ent}{w:World}{N:Nat}{β:Nat→Nat}{a:Act}
theorem Rel.ren (h:Rel av w0 N T B β a w) {k d:Nat}(hdN:d<N) (hk:B k≠none) (hd:d=k∨B d=none):
 Rel av w0 N (j5 k T) (fun l=>if l=d then B k else if l=k then none else B l) (fun l=>if l=d then β k else β l) a w:=by
 have hB: ∀l,(if l=d then B k else if l=k then none else B l)≠none→(l=d∨(l≠d∧l≠k∧B l≠none)):=by
  intro l hl
  by_cases e:l=d
  ·exact .inl e
  ·rw[if_neg e] at hl
   by_cases e2:l=k
   ·rw[if_pos e2] at hl;exact absurd rfl hl
   ·rw[if_neg e2] at hl;exact .inr ⟨e,e2,hl⟩
 have hne: ∀l,B l≠none→l≠k→l≠d:=by
  intro l hl e e2
  rcases hd with hd|hd
  ·exact e (e2.trans hd)
  ·rw[←e2] at hd;exact hl hd
 have hV:(fun b=>av b∨ ∃l,(if l=d then B k else if l=k then none else B l)≠none∧(if l=d then β k else β l)=b)=(fun b=>av b∨ ∃l,B l≠none∧β l=b):=by
  funext b
  refine propext ⟨?_,?_⟩
  ·rintro(hb|⟨l,hl,hb⟩)
   ·exact .inl hb
   ·rcases hB l hl with e|⟨e1,e2,e3⟩
    ·rw[if_pos e] at hb;exact .inr ⟨k,hk,hb⟩
    ·rw[if_neg e1] at hb;exact .inr ⟨l,e3,hb⟩
  ·rintro(hb|⟨l,hl,hb⟩)
   ·exact .inl hb
   ·by_cases e:l=k
    ·exact .inr ⟨d,by rw[if_pos rfl];exact hk,by rw[if_pos rfl,←e];exact hb⟩
    ·have:=hne l hl e
     exact .inr ⟨l,by rw[if_neg this,if_neg e];exact hl,by rw[if_neg this];exact hb⟩
 have hT: ∀t x,j5 k T t=some x→x=.n∨(T t=some x∧ga x≠some k):=by
  intro t x ht
  unfold j5 at ht
  split at ht
  ·rename_i y hy
   split at ht
   ·injection ht with ht;exact .inl ht.symm
   ·rename_i hr;injection ht with ht;subst ht;exact .inr ⟨hy,hr⟩
  ·cases ht
 refine⟨h.dfr,h.siz,h.bel,h.avl,h.avE,h.big,fun b hb hK=>?_,?_,?_,?_,?_⟩
 ·have hKd:w0.K≠d:=by have:=h.big;omega
  have hK0:=hK
  rcases hB _ hK with e|⟨_,_,e⟩
  ·exact absurd e hKd
  ·rw[if_neg hKd];exact h.fix b hb e
 ·intro l m hl hm e
  rcases hB l hl with e1|⟨e1,e2,e3⟩<;>rcases hB m hm with f1|⟨f1,f2,f3⟩
  ·rw[e1,f1]
  ·rw[if_pos e1,if_neg f1] at e
   exact absurd (h.inj k m hk f3 e).symm f2
  ·rw[if_neg e1,if_pos f1] at e
   exact absurd (h.inj l k e3 hk e) e2
  ·rw[if_neg e1,if_neg f1] at e
   exact h.inj l m e3 f3 e
 ·intro l hl
  rcases hB l hl with e1|⟨e1,e2,e3⟩
  ·rw[if_pos e1];exact h.own k hk
  ·rw[if_neg e1];exact h.own l e3
 ·intro t x l ht hx
  rcases hT t x ht with rfl|⟨h1,h2⟩
  ·cases hx
  ·have h3:=h.wf t x l h1 hx
   have h4:l≠k:=fun e=>h2 (by rw[hx,e])
   rw[if_neg (hne l h3 h4),if_neg h4];exact h3
 ·rw[hV]
  refine⟨h.sees.av,?_,?_⟩
  ·intro l U cs hl
   have hl0:(if l=d then B k else if l=k then none else B l)=some (U,cs):=hl
   by_cases e:l=d
   ·rw[if_pos e] at hl0
    show Ta _ _ (if l=d then β k else β l) _ _
    rw[if_pos e];exact h.sees.box k U cs hl0
   ·rw[if_neg e] at hl0
    show Ta _ _ (if l=d then β k else β l) _ _
    rw[if_neg e]
    by_cases e2:l=k
    ·rw[if_pos e2] at hl0;cases hl0
    ·rw[if_neg e2] at hl0;exact h.sees.box l U cs hl0
  ·intro t x hL ht
   rcases hT t x ht with rfl|⟨h1,h2⟩
   ·unfold j5 at ht
    split at ht
    ·rename_i y hy
     obtain⟨v,e,_⟩:=h.sees.tmp t y hL hy
     exact⟨v,e,trivial⟩
    ·cases ht
   ·obtain⟨v,e,hr⟩:=h.sees.tmp t x hL h1
    refine⟨v,e,?_⟩
    cases x with
    |p l off=>
     have h3:=h.wf t _ l h1 rfl
     have h4:l≠k:=fun e=>h2 (by rw[e];rfl)
     show v=.pointer (some ⟨if l=d then β k else β l,off,none⟩)
     rw[if_neg (hne l h3 h4)];exact hr
    |o l n c=>
     have h3:=h.wf t _ l h1 rfl
     have h4:l≠k:=fun e=>h2 (by rw[e];rfl)
     show v=.slice (some ⟨if l=d then β k else β l,0,none⟩) n c
     rw[if_neg (hne l h3 h4)];exact hr
    |w l off n c=>
     have h3:=h.wf t _ l h1 rfl
     have h4:l≠k:=fun e=>h2 (by rw[e];rfl)
     show v=.slice (some ⟨if l=d then β k else β l,off,none⟩) n c
     rw[if_neg (hne l h3 h4)];exact hr
    |v d=>exact hr
    |t ds=>exact hr
    |q us=>exact hr
    |u=>exact hr
    |n=>trivial
    |z=>exact hr
    |f n us=>exact hr
theorem wd (a:Act) (d:Nat) (v v':Value):(a.put (some d) v).put (some d) v'=a.put (some d) v':=by simp[Act.put]
theorem GV {k t:Nat}{x:DV}{tm:List (Nat×DV)}{bx:List (Nat×TypeId×List CellD)}:(⟨N,(t,x)::ij k tm,bx⟩:St).T=fun s=>if some t=some s then some x else j5 k (fun s=>look s tm) s:=by
 funext s
 show look s ((t,x)::ij k tm)=_
 rw[bj,iN]
 by_cases e:t=s
 ·rw[if_pos e,if_pos (by rw[e])]
 ·rw[if_neg e,if_neg (by simpa using e)];rfl
theorem IJ {k t:Nat}{x:TypeId×List CellD}{tm:List (Nat×DV)}{bx:List (Nat×TypeId×List CellD)}:(⟨N,tm,(t,x)::gp k bx⟩:St).B=fun l=>if some t=some l then some x else if l=k then none else look l bx:=by
 funext s
 show look s ((t,x)::gp k bx)=(if some t=some s then some x else if s=k then none else look s bx)
 rw[bj,gQ]
 by_cases e:t=s
 ·rw[if_pos e,if_pos (by rw[e])]
 ·rw[if_neg e,if_neg (show ¬some t=some s by simpa using e)]
theorem FP {z:Value}{zs:List CellD}{m:Nat}(hzl:zs.length=m) (hzr: ∀(V:Nat→Prop) (w:World),RdCs V w z.cells.toList zs) (r:Nat):
 ∃rest:List CellD,rest.length=r*m∧ ∀(V:Nat→Prop) (w:World),RdCs V w (Builtin.zeroCells z.cells r).toList rest:=by
 have hzs:z.cells.size=m:=by have:=(hzr (fun _=>False) default).1;rw[hzl] at this;simpa using this
 have key: ∀(r:Nat) (V:Nat→Prop) (w:World),RdCs V w ((List.range (r*m)).map (fun j=>z.cells[j%z.cells.size]!)) (List.replicate r zs).flatten:=by
  intro r V w
  induction r with
  |zero=>simp;exact RdCs.nil
  |succ r ih=>
   rw[Nat.succ_mul,List.range_add,List.map_append,List.replicate_succ',List.flatten_append]
   refine RdCs.append ih ?_
   have e2:(List.map (fun x=>r*m+x) (List.range m)).map (fun j=>z.cells[j%z.cells.size]!)=z.cells.toList:=by
    apply List.ext_getElem (by simp[hzs])
    intro j h1 h2
    simp at h1
    simp only[List.getElem_map,List.getElem_range,hzs]
    rw[Nat.mul_comm r,Nat.mul_add_mod,Nat.mod_eq_of_lt (by omega),getElem!_pos z.cells j (by omega)]
    simp
   rw[e2]
   simpa using hzr V w
 refine⟨(List.replicate r zs).flatten,?_,fun V w=>?_⟩
 ·have:=(key r (fun _=>False) default).1
  simpa using this.symm
 ·have:=key r V w
  unfold Builtin.zeroCells
  rw[hzs]
  simpa [hzs] using this
variable {tm:List (Nat×DV)}{bx:List (Nat×TypeId×List CellD)}
theorem wY {t:Nat}{x y:Operand}{U e:TypeId}{ty:TypeId}{pos:String}{af:Array Edge}{g:Option (Nat×Bool)}{n c q m by_ k:Nat}{cs ys zs pre:List CellD}
 (hU:oB P U=some (e,m,by_,zs)) (hx:cU (fun s=>look s tm) x=some (.o k n c)) (hsc: ∀V β a w,Sees V (dE ops ⟨some t,.call ⟨.builtin .append,#[x,y],#[U,U]⟩,ty,pos,af,g⟩) (fun s=>look s tm) (fun l=>look l bx) β a w→ ∃V',RdC V' w (a.eval y) (.s q ys)∧ ∀news,RdCs V' w news ys→RdCs V w news ys) (hb:look k bx=some (e,cs)) (hcs:cs.length=c*m) (hys:ys.length=q*m) (hm:0<m)
 (hnc:n≤c) (hcm:c≤maxLen) (hbytes:(n+q)*by_≤140737488355328) (h63:n+q≤maxLen) (hpre:cs.take (n*m)=pre) (hd:t=k∨look t bx=none)
 (hg:gd ops ⟨some t,.call ⟨.builtin .append,#[x,y],#[U,U]⟩,ty,pos,af,g⟩ (fun s=>look s tm)=some true):
 IS P ops ⟨some t,.call ⟨.builtin .append,#[x,y],#[U,U]⟩,ty,pos,af,g⟩ ⟨N,tm,bx⟩ (fun σ'=> ∃c' rest,n+q≤c'∧c'≤maxLen∧rest.length=(c'-(n+q))*m∧σ'=⟨N,(t,.o t (n+q) c')::ij k tm,(t,e,pre++ys++rest)::gp k bx⟩):=by
 intro av w0 β a w hrel htn
 have hs:=Sees.of hrel.sees (L:=dE ops ⟨some t,.call ⟨.builtin .append,#[x,y],#[U,U]⟩,ty,pos,af,g⟩) (fun _ _=>trivial) (fun _ _ _ h=>h) (fun _ _ h=>h)
 refine⟨eA hs hg,?_⟩
 have e1:a.eval x=.slice (some ⟨β k,0,none⟩) n c:=aJ hs (x:=x) (by simp[Op.operands,Call.operands]) hx
 obtain⟨V',h2,hconv⟩:=hsc _ _ _ _ hs
 obtain⟨news,hsrc,hrn'⟩:=mU hU h2 hys
 have hrn:=hconv _ hrn'
 obtain⟨hu,i,z,hi,hz,hsz,hby,hzl,hzr⟩:=fL hU
 obtain⟨hvk,vs,ev,hr⟩:=hs.box k e cs hb
 subst hsz
 have hkn:(look k bx)≠none:=by rw[hb];simp
 have hle:n*i.size≤cs.length:=by rw[hcs];exact Nat.mul_le_mul_right _ hnc
 have hvl:vs.size=c*i.size:=by have:=hr.1;rw[hcs] at this;simpa using this
 have hr2:=hr.take (n*i.size)
 rw[hpre] at hr2
 have hlen:(vs.toList.take (n*i.size)).length=n*i.size:=by
  rw[List.length_take,Array.length_toList,hvl]
  exact Nat.min_eq_left (Nat.mul_le_mul_right _ hnc)
 have ht:t<N:=htn t rfl
 have hnl:news.length=q*i.size:=hsrc.newsLen
 unfold Gives
 by_cases hroom:n+q≤c
 ·--in place
  have hfit:0+n*i.size+0+news.length≤vs.size:=by
   rw[hvl,hnl]
   have:=Nat.mul_le_mul_right i.size hroom
   rw[Nat.add_mul] at this;omega
  have hst:=run_storeCells_at P (β k) (0+n*i.size) e news 0 vs w ev hfit hsrc.one
  simp only[Nat.zero_add,Nat.add_zero] at hst
  have hrun:(Builtin.append_ #[U,U] ty #[.slice (some ⟨β k,0,none⟩) n c,a.eval y]).run P w=.ok (.slice (some ⟨β k,0,none⟩) (n+q) c) (w.setRow (β k) (vs.toList.take (n*i.size)++news++vs.toList.drop (n*i.size+news.length)).toArray):=by
   rcases hsrc.kind with⟨e',hk⟩|hk<;>simp[Builtin.append_,run_underlying hu,sizeOf,typeInfo,hi,hsrc.len,hroom,hsrc.cells,Addr.add_lit,hst]
  have hexec:(execOp a.eval ⟨some t,.call ⟨.builtin .append,#[x,y],#[U,U]⟩,ty,pos,af,g⟩).run P w=.ok (.value (.slice (some ⟨β k,0,none⟩) (n+q) c)) (w.setRow (β k) (vs.toList.take (n*i.size)++news++vs.toList.drop (n*i.size+news.length)).toArray):=by
   simp only[execOp,resolve,invoke,builtin,Sem.run_bind,Sem.run_pure,Result.andThen_ok,List.map_toArray,List.map_cons,List.map_nil,e1]
   rw[hrun]
   rfl
  rw[hexec]
  have hrest:((cs.drop (n*i.size+news.length))).length=(c-(n+q))*i.size:=by
   rw[List.length_drop,hcs,hnl,←Nat.add_mul,←Nat.sub_mul]
  refine⟨⟨N,(t,.o t (n+q) c)::ij k tm,(t,e,pre++ys++cs.drop (n*i.size+news.length))::gp k bx⟩,fun l=>if l=t then β k else β l,⟨c,_,hroom,hcm,hrest,rfl⟩,rfl,?_⟩
  have hren:=hrel.ren (k:=k) (d:=t) (htn t rfl) hkn hd
  have hstore:=hren.store (k:=t) (U:=e) (cs0:=cs) (cs:=pre++ys++cs.drop (n*i.size+news.length)) (vs:=(vs.toList.take (n*i.size)++news++vs.toList.drop (n*i.size+news.length)).toArray)
   (w':=w.setRow (β k) (vs.toList.take (n*i.size)++news++vs.toList.drop (n*i.size+news.length)).toArray) (by rw[if_pos rfl];exact hb) (by rw[if_pos rfl];exact eZ ev) rfl rfl rfl ?_
  ·have hval:=hstore.value (d:=some t) (x:=.o t (n+q) c) (v:=.slice (some ⟨β k,0,none⟩) (n+q) c) (by intro s hs;injection hs with hs;subst hs;exact ht) (Below.refl _ _) (by show _=Value.slice (some ⟨if t=t then β k else β t,0,none⟩) _ _;rw[if_pos rfl]) (by intro l hl;injection hl with hl;subst hl;rw[if_pos rfl];simp)
   refine hval.congr (fun s=>?_) (fun l=>?_)
   ·rw[GV];rfl
   ·rw[IJ]
    show(if some t=some l then _ else _)=(if t=l then _ else if l=t then _ else _)
    by_cases e:t=l
    ·rw[if_pos (by rw[e]),if_pos e]
    ·rw[if_neg (show ¬some t=some l by simpa using e),if_neg e,if_neg (Ne.symm e)];rfl
  ·have hrd:RdCs (fun b=>av b∨ ∃k,look k bx≠none∧β k=b) w (vs.toList.take (n*i.size)++news++vs.toList.drop (n*i.size+news.length)) (pre++ys++cs.drop (n*i.size+news.length)):=(hr2.append hrn).append (hr.drop _)
   refine RdCs.keep (av:=fun b=>av b∨ ∃k,look k bx≠none∧β k=b) ⟨Nat.le_refl _,fun _ _ _=>rfl,?_⟩ hrd
   rintro b _ (hb'|⟨l,hl,hb'⟩)
   ·exact .inl hb'
   ·try dsimp only at hl hb'
    by_cases e:l=t
    ·rw[if_pos e] at hb';exact .inr ⟨k,hkn,hb'⟩
    ·rw[if_neg e] at hl hb'
     by_cases e2:l=k
     ·rw[if_pos e2] at hl;exact absurd rfl hl
     ·rw[if_neg e2] at hl;exact .inr ⟨l,hl,hb'⟩
 ·--new memory
  have hgrow:c<n+q:=by omega
  have hold:(Builtin.firstCells i.size n (.slice (some ⟨β k,0,none⟩) n c)).run P w.drew=.ok (vs.toList.take (n*i.size)).toArray w.drew:=by
   have:=run_loadCells_list (P:=P) w.drew ⟨β k,0,none⟩ (vs.toList.take (n*i.size)) (fun j u hj=>by
    rw[er,Nat.zero_add]
    show w.cell? _=_
    rw[List.getElem?_take] at hj
    split at hj
    ·rw[bq ev,←hj];simp
    ·cases hj)
   rw[hlen] at this
   exact this
  have hrun:=run_append_grow_src (P:=P) (w:=w) U U ty e i z hu hi hz (some ⟨β k,0,none⟩) n c _ hold (a.eval y) q news hsrc hgrow (by have:maxLen=9223372036854775807:=rfl;omega) (growslice_fits hgrow (by rw[hby];exact hbytes))
  generalize hcap:grownCap w (n+q) c e=c' at hrun
  have hc1:n+q≤c':=by rw[←hcap];exact grownCap_ge _ _ _ _
  have hc2:c'≤maxLen:=by rw[←hcap];exact grownCap_le_maxLen _ _ _ _ h63
  have hexec:(execOp a.eval ⟨some t,.call ⟨.builtin .append,#[x,y],#[U,U]⟩,ty,pos,af,g⟩).run P w=.ok (.value (.slice (some ⟨w.heap.size,0,none⟩) (n+q) c'))
   (w.drew.alloc (.cells ((vs.toList.take (n*i.size)++news).toArray++Builtin.zeroCells z.cells (c'-(n+q))) e)):=by
   simp only[execOp,resolve,invoke,builtin,Sem.run_bind,Sem.run_pure,Result.andThen_ok,List.map_toArray,List.map_cons,List.map_nil,e1]
   rw[hrun]
   rfl
  rw[hexec]
  have hdr:=(hrel.drop k).drew
  obtain⟨rest,hrl,hrz⟩:=FP hzl hzr (c'-(n+q))
  have hrd:RdCs (fun b=>av b∨ ∃l,(if l=k then none else look l bx)≠none∧β l=b) w.drew ((vs.toList.take (n*i.size)++news).toArray++Builtin.zeroCells z.cells (c'-(n+q))).toList (pre++ys++rest):=by
   have h0:RdCs (fun b=>av b∨ ∃k,look k bx≠none∧β k=b) w (vs.toList.take (n*i.size)++news) (pre++ys):=hr2.append hrn
   have h1:=RdCs.append (RdCs.keep (av:=fun b=>av b∨ ∃k,look k bx≠none∧β k=b) (w:=w) (av':=fun b=>av b∨ ∃l,(if l=k then none else look l bx)≠none∧β l=b) (w':=w.drew) ⟨Nat.le_refl _,fun _ _ _=>rfl,fun b _ hb'=>hb'.imp id fun⟨l,hl,e⟩=>⟨l,fun h0=>by rw[h0] at hl;exact hl (by split<;>rfl),e⟩⟩ h0) (hrz (fun b=>av b∨ ∃l,(if l=k then none else look l bx)≠none∧β l=b) w.drew)
   simpa using h1
  have hbox:=hdr.box (d:=t) ht (by
   show(if t=k then none else look t bx)=none
   rcases hd with hd|hd
   ·rw[if_pos hd]
   ·rw[hd];split<;>rfl) (U:=e) (sl:=some c') hrd
  refine⟨⟨N,(t,.o t (n+q) c')::ij k tm,(t,e,pre++ys++rest)::gp k bx⟩,fun l=>if l=t then w.drew.heap.size else β l,⟨c',_,hc1,hc2,hrl,rfl⟩,rfl,?_⟩
  have hval:=hbox.value (d:=some t) (x:=.o t (n+q) c') (v:=.slice (some ⟨w.heap.size,0,none⟩) (n+q) c') (by intro s hs;injection hs with hs;subst hs;exact ht) (Below.refl _ _) (by show _=Value.slice (some ⟨if t=t then w.drew.heap.size else β t,0,none⟩) _ _;rw[if_pos rfl];rfl) (by intro l hl;injection hl with hl;subst hl;rw[if_pos rfl];simp)
  rw[wd] at hval
  refine hval.congr (fun s=>?_) (fun l=>?_)
  ·rw[GV]
   show(if some t=some s then _ else _)=(if some t=some s then _ else if some t=some s then _ else j5 k _ s)
   by_cases e:some t=some s
   ·rw[if_pos e,if_pos e]
   ·rw[if_neg e,if_neg e,if_neg e];rfl
  ·rw[IJ];rfl
theorem ri {t:Nat}{x y:Operand}{U e:TypeId}{ty:TypeId}{pos:String}{af:Array Edge}{g:Option (Nat×Bool)}{n c q m by_ k:Nat}{cs ys zs pre:List CellD}
 (hU:oB P U=some (e,m,by_,zs)) (hx:cU (fun s=>look s tm) x=some (.o k n c)) (hy:cU (fun s=>look s tm) y=some (.v (.c (.s q ys)))) (hb:look k bx=some (e,cs)) (hcs:cs.length=c*m) (hys:ys.length=q*m) (hm:0<m)
 (hnc:n≤c) (hcm:c≤maxLen) (hbytes:(n+q)*by_≤140737488355328) (h63:n+q≤maxLen) (hpre:cs.take (n*m)=pre) (hd:t=k∨look t bx=none)
 (hg:gd ops ⟨some t,.call ⟨.builtin .append,#[x,y],#[U,U]⟩,ty,pos,af,g⟩ (fun s=>look s tm)=some true):
 IS P ops ⟨some t,.call ⟨.builtin .append,#[x,y],#[U,U]⟩,ty,pos,af,g⟩ ⟨N,tm,bx⟩ (fun σ'=> ∃c' rest,n+q≤c'∧c'≤maxLen∧rest.length=(c'-(n+q))*m∧σ'=⟨N,(t,.o t (n+q) c')::ij k tm,(t,e,pre++ys++rest)::gp k bx⟩):=by
 exact wY hU hx (fun V β a w hs=>⟨V,aJ hs (x:=y) (by simp[Op.operands,Call.operands]) hy,fun _ h=>h⟩) hb hcs hys hm hnc hcm hbytes h63 hpre hd hg
theorem xd {t:Nat}{x y:Operand}{U e:TypeId}{ty:TypeId}{pos:String}{af:Array Edge}{g:Option (Nat×Bool)}{q m by_:Nat}{ys zs:List CellD}
 (hU:oB P U=some (e,m,by_,zs)) (hx:cU (fun s=>look s tm) x=some .z) (hy:cU (fun s=>look s tm) y=some (.v (.c (.s q ys)))) (hys:ys.length=q*m) (hq:0<q)
 (hbytes:q*by_≤140737488355328) (h63:q≤maxLen) (hd:look t bx=none)
 (hg:gd ops ⟨some t,.call ⟨.builtin .append,#[x,y],#[U,U]⟩,ty,pos,af,g⟩ (fun s=>look s tm)=some true):
 IS P ops ⟨some t,.call ⟨.builtin .append,#[x,y],#[U,U]⟩,ty,pos,af,g⟩ ⟨N,tm,bx⟩ (fun σ'=> ∃c' rest,q≤c'∧c'≤maxLen∧rest.length=(c'-q)*m∧σ'=⟨N,(t,.o t q c')::tm,(t,e,ys++rest)::bx⟩):=by
 intro av w0 β a w hrel htn
 have hs:=Sees.of hrel.sees (L:=dE ops ⟨some t,.call ⟨.builtin .append,#[x,y],#[U,U]⟩,ty,pos,af,g⟩) (fun _ _=>trivial) (fun _ _ _ h=>h) (fun _ _ h=>h)
 refine⟨eA hs hg,?_⟩
 have e1:a.eval x=.slice none 0 0:=aJ hs (x:=x) (by simp[Op.operands,Call.operands]) hx
 have h2:=aJ hs (x:=y) (by simp[Op.operands,Call.operands]) hy
 obtain⟨news,hsrc,hrn⟩:=mU hU h2 hys
 obtain⟨hu,i,z,hi,hz,hsz,hby,hzl,hzr⟩:=fL hU
 subst hsz
 have ht:t<N:=htn t rfl
 unfold Gives
 have hold:(Builtin.firstCells i.size 0 (.slice none 0 0)).run P w.drew=.ok ([]:List Value).toArray w.drew:=rfl
 have hgrow:0<0+q:=by omega
 have hrun:=run_append_grow_src (P:=P) (w:=w) U U ty e i z hu hi hz none 0 0 _ hold (a.eval y) q news hsrc hgrow (by have:maxLen=9223372036854775807:=rfl;omega) (growslice_fits hgrow (by rw[hby,Nat.zero_add];exact hbytes))
 rw[Nat.zero_add] at hrun
 generalize hcap:grownCap w q 0 e=c' at hrun
 have hc1:q≤c':=by rw[←hcap];exact grownCap_ge _ _ _ _
 have hc2:c'≤maxLen:=by rw[←hcap];exact grownCap_le_maxLen _ _ _ _ h63
 have hexec:(execOp a.eval ⟨some t,.call ⟨.builtin .append,#[x,y],#[U,U]⟩,ty,pos,af,g⟩).run P w=.ok (.value (.slice (some ⟨w.heap.size,0,none⟩) q c'))
  (w.drew.alloc (.cells (([]++news).toArray++Builtin.zeroCells z.cells (c'-q)) e)):=by
  simp only[execOp,resolve,invoke,builtin,Sem.run_bind,Sem.run_pure,Result.andThen_ok,List.map_toArray,List.map_cons,List.map_nil,e1]
  rw[hrun]
  rfl
 rw[hexec]
 obtain⟨rest,hrl,hrz⟩:=FP hzl hzr (c'-q)
 have hrd:RdCs (fun b=>av b∨ ∃k,look k bx≠none∧β k=b) w.drew (([]++news).toArray++Builtin.zeroCells z.cells (c'-q)).toList (ys++rest):=by
  have h1:RdCs (fun b=>av b∨ ∃k,look k bx≠none∧β k=b) w.drew (news++(Builtin.zeroCells z.cells (c'-q)).toList) (ys++rest):=RdCs.append (RdCs.keep (Keep.below (Below.refl _ w).drew) hrn) (hrz (fun b=>av b∨ ∃k,look k bx≠none∧β k=b) w.drew)
  simpa using h1
 have hbox:=hrel.drew.box (d:=t) ht hd (U:=e) (sl:=some c') hrd
 refine⟨⟨N,(t,.o t q c')::tm,(t,e,ys++rest)::bx⟩,fun l=>if l=t then w.drew.heap.size else β l,⟨c',_,hc1,hc2,hrl,rfl⟩,rfl,?_⟩
 have hval:=hbox.value (d:=some t) (x:=.o t q c') (v:=.slice (some ⟨w.heap.size,0,none⟩) q c') (by intro s hs;injection hs with hs;subst hs;exact ht) (Below.refl _ _) (by show _=Value.slice (some ⟨if t=t then w.drew.heap.size else β t,0,none⟩) _ _;rw[if_pos rfl];rfl) (by intro l hl;injection hl with hl;subst hl;rw[if_pos rfl];simp)
 rw[wd] at hval
 refine hval.congr (fun s=>?_) (fun l=>?_)
 ·show look s ((t,DV.o t q c')::tm)=(if some t=some s then _ else if some t=some s then _ else look s tm)
  rw[bj]
  by_cases e:t=s
  ·rw[if_pos e,if_pos (by rw[e])]
  ·rw[if_neg e,if_neg (show ¬some t=some s by simpa using e),if_neg (show ¬some t=some s by simpa using e)]
 ·show look l ((t,e,ys++rest)::bx)=(if some t=some l then _ else look l bx)
  rw[bj]
  by_cases e:t=l
  ·rw[if_pos e,if_pos (by rw[e])]
  ·rw[if_neg e,if_neg (show ¬some t=some l by simpa using e)]
variable {os:List Oper}{K:St→Prop}
theorem wQ {t:Nat}{x y:Operand}{U e:TypeId}{ty:TypeId}{pos:String}{af:Array Edge}{g:Option (Nat×Bool)}{n c q m by_ k:Nat}{us rest ys zs:List CellD}
 (hU:oB P U=some (e,m,by_,zs)) (hx:cU (fun s=>look s tm) x=some (.o k n c)) (hy:cU (fun s=>look s tm) y=some (.v (.c (.s q ys)))) (hb:look k bx=some (e,us++rest)) (hus:us.length=n*m) (hr:rest.length=(c-n)*m)
 (hys:ys.length=q*m) (hm:0<m) (hnc:n≤c) (hcm:c≤maxLen) (hbytes:(n+q)*by_≤140737488355328) (h63:n+q≤maxLen) (hd:t=k∨look t bx=none)
 (hg:gd ops ⟨some t,.call ⟨.builtin .append,#[x,y],#[U,U]⟩,ty,pos,af,g⟩ (fun s=>look s tm)=some true)
 (hk: ∀c' rest',n+q≤c'→c'≤maxLen→rest'.length=(c'-(n+q))*m→dl P ops os ⟨N,(t,.o t (n+q) c')::ij k tm,(t,e,us++ys++rest')::gp k bx⟩ K):
 dl P ops (⟨some t,.call ⟨.builtin .append,#[x,y],#[U,U]⟩,ty,pos,af,g⟩::os) ⟨N,tm,bx⟩ K:=
 .inr ⟨_,ri (pre:=us) hU hx hy hb (by rw[List.length_append,hus,hr,←Nat.add_mul];congr 1;omega) hys hm hnc hcm hbytes h63 (by rw[←hus];simp) hd hg,fun σ' ⟨c',rest',h1,h2,h3,e⟩=>by subst e;exact hk c' rest' h1 h2 h3⟩
theorem t5 {t:Nat}{x y:Operand}{U e:TypeId}{ty:TypeId}{pos:String}{af:Array Edge}{g:Option (Nat×Bool)}{q m by_:Nat}{ys zs:List CellD}
 (hU:oB P U=some (e,m,by_,zs)) (hx:cU (fun s=>look s tm) x=some .z) (hy:cU (fun s=>look s tm) y=some (.v (.c (.s q ys)))) (hys:ys.length=q*m) (hq:0<q)
 (hbytes:q*by_≤140737488355328) (h63:q≤maxLen) (hd:look t bx=none)
 (hg:gd ops ⟨some t,.call ⟨.builtin .append,#[x,y],#[U,U]⟩,ty,pos,af,g⟩ (fun s=>look s tm)=some true)
 (hk: ∀c' rest',q≤c'→c'≤maxLen→rest'.length=(c'-q)*m→dl P ops os ⟨N,(t,.o t q c')::tm,(t,e,ys++rest')::bx⟩ K):
 dl P ops (⟨some t,.call ⟨.builtin .append,#[x,y],#[U,U]⟩,ty,pos,af,g⟩::os) ⟨N,tm,bx⟩ K:=
 .inr ⟨_,xd hU hx hy hys hq hbytes h63 hd hg,fun σ' ⟨c',rest',h1,h2,h3,e⟩=>by subst e;exact hk c' rest' h1 h2 h3⟩
theorem mm {T:TF}{B:BF}{dst:Option Nat}{ty:TypeId}{pos:String}{af:Array Edge}{g:Option (Nat×Bool)}
 (hg:gd ops ⟨dst,.assign (.const (.slice none 0 0)),ty,pos,af,g⟩ T=some true):Sem P ops ⟨dst,.assign (.const (.slice none 0 0)),ty,pos,af,g⟩ T B (.r .z):=
 bP hg (fun k e=>by cases e) (fun V β a w hs=>⟨.slice none 0 0,rfl,rfl⟩)
theorem Jc {c:Code}{Q:Exit→St→Prop}{t:Nat}(ht:look t tm=some .z) (h:Dw P c ⟨N,(t,.v (.c (.s 0 [])))::tm,bx⟩ Q):Dw P c ⟨N,tm,bx⟩ Q:=fun av w0 β a w hr=>by
 obtain⟨v,hv,hx⟩:=hr.sees.tmp t _ trivial ht
 have hx:v=.slice none 0 0:=hx
 subst hx
 have h2:=hr.upd (t:=t) (x:=.v (.c (.s 0 []))) hv (.s0 _ _ (by decide)) rfl
 refine h av w0 β a w (h2.congr (fun s=>?_) (fun _=>rfl))
 show look s ((t,.v (.c (.s 0 [])))::tm)=_
 rw[bj];rfl
theorem GM {ι:Type}{c:Code}{σ:St}{Q:Exit→St→Prop}(I:ι→St) (μ:ι→Nat) (M:Nat)
 (first:Dw P c σ (zG (fun σ'=> ∃j,Sub σ' (I j)∧μ j<M) Q)) (round: ∀i,Dw P c (I i) (zG (fun σ'=> ∃j,Sub σ' (I j)∧μ j<μ i) Q)):Dw P (.loop c) σ Q:=fun av w0 β a w hr=>by
 refine cZ (ι:=Option ι) (fun i=>match i with|none=>σ|some i=>I i) (fun i=>match i with|none=>M|some i=>μ i) none ⟨rfl,fun _ _ h=>h,fun _ _ h=>h,hr.wf⟩ (fun i=>?_) av w0 β a w hr
 cases i with
 |none=>
  refine first.mono fun e σ' h=>?_
  cases e with
  |normal=>obtain⟨j,h1,h2⟩:=h;exact⟨some j,h1,h2⟩
  |_=>exact h
 |some i=>
  refine(round i).mono fun e σ' h=>?_
  cases e with
  |normal=>obtain⟨j,h1,h2⟩:=h;exact⟨some j,h1,h2⟩
  |_=>exact h
theorem sU {us rest:List CellD}{n c m:Nat}(h:us.length=n*m) (hr:rest.length=(c-n)*m) (hn:n≤c):(us++rest).length=c*m:=by
 rw[List.length_append,h,hr,←Nat.add_mul];congr 1;omega
theorem oQ {us rest:List CellD}{n m:Nat}(h:us.length=n*m):(us++rest).take (n*m)=us:=by rw[←h];simp
theorem pq {n:Nat}(h:n≤1000000):n≤maxLen:=Nat.le_trans h (by decide)
end
structure Pt where
 a1:Rat
 b1:Rat
 a2:Rat
 b2:Rat
 c:Rat
structure Ln where
 a:Rat
 b:Rat
 c:Rat
structure Ci where
 x:Rat
 y:Rat
 q:Rat
inductive Cv where
 |seg (l:Ln) (p q:Pt)
 |arc (k:Ci) (w:Bool) (p q:Pt)
def Jw:List CellD:=[.b false,.s 0 [],.b false,.s 0 []]
def dN:List CellD:=Jw++Jw++Jw
def ay (p:Pt):List CellD:=cR p.a1++cR p.b1++cR p.a2++cR p.b2++cR p.c
def eQ (l:Ln):List CellD:=cR l.a++cR l.b++cR l.c
def ci (k:Ci):List CellD:=cR k.x++cR k.y++cR k.q
def bc:Cv→List CellD
 | .seg l p q=>[.b false]++eQ l++dN++[.b false]++ay p++ay q
 | .arc k w p q=>[.b true]++dN++ci k++[.b w]++ay p++ay q
theorem aN (p:Pt):(ay p).length=20:=rfl
theorem aE (c:Cv):(bc c).length=66:=by cases c<;>rfl
section
variable {α:Type}
def bg (enc:α→List CellD):List α→List CellD
 |[]=>[]
 |x::l=>enc x++bg enc l
variable {enc:α→List CellD}{m:Nat}
theorem aY (h: ∀x,(enc x).length=m): ∀l:List α,(bg enc l).length=l.length*m
 |[]=>by simp[bg]
 |x::l=>by
  show(enc x++bg enc l).length=(l.length+1)*m
  rw[List.length_append,h,aY h l,Nat.add_mul];omega
theorem i7: ∀l r:List α,bg enc (l++r)=bg enc l++bg enc r
 |[],r=>rfl
 |x::l,r=>by
  show enc x++bg enc (l++r)=enc x++bg enc l++bg enc r
  rw[i7 l r,List.append_assoc]
theorem qa (x:α):bg enc [x]=enc x:=List.append_nil _
theorem lD (h: ∀x,(enc x).length=m) (l:List α) (j:Nat):(bg enc l).drop (j*m)=bg enc (l.drop j):=by
 by_cases hj:j≤l.length
 ·have e:bg enc l=bg enc (l.take j)++bg enc (l.drop j):=by rw[←i7,List.take_append_drop]
  have hl:(bg enc (l.take j)).length=j*m:=by rw[aY h,List.length_take,Nat.min_eq_left hj]
  rw[e,←hl,List.drop_left]
 ·rw[List.drop_eq_nil_of_le (by rw[aY h];exact Nat.mul_le_mul_right _ (by omega)),List.drop_eq_nil_of_le (by omega)];rfl
theorem nW (h: ∀x,(enc x).length=m) (l:List α) (j:Nat):(bg enc l).take (j*m)=bg enc (l.take j):=by
 by_cases hj:j≤l.length
 ·have e:bg enc l=bg enc (l.take j)++bg enc (l.drop j):=by rw[←i7,List.take_append_drop]
  have hl:(bg enc (l.take j)).length=j*m:=by rw[aY h,List.length_take,Nat.min_eq_left hj]
  rw[e,←hl,List.take_left]
 ·rw[List.take_of_length_le (by rw[aY h];exact Nat.mul_le_mul_right _ (by omega)),List.take_of_length_le (by omega)]
theorem cD (h: ∀x,(enc x).length=m) {l:List α}{j:Nat}{x:α}(hj:l[j]? =some x):(bg enc l).drop (j*m)=enc x++bg enc (l.drop (j+1)):=by
 obtain⟨h1,h2⟩:=List.getElem?_eq_some_iff.1 hj
 rw[lD h,List.drop_eq_getElem_cons h1,h2];rfl
theorem b8 {l:List α}{j:Nat}{d:α}(h:j<l.length):l[j]? =some (l.getD j d):=by
 rw[List.getD,List.getElem?_eq_getElem h];rfl
theorem pF {l:List α}{j:Nat}{d:α}(h:j<l.length):l.take (j+1)=l.take j++[l.getD j d]:=by
 rw[List.take_add_one,List.getD,List.getElem?_eq_getElem h];rfl
theorem jP {l:List α}{j:Nat}{d:α}(h:j<l.length):l.getD j d∈l:=by
 rw[List.getD,List.getElem?_eq_getElem h];exact List.getElem_mem h
end
def dPt:Pt:=⟨0,0,0,0,0⟩
def fP:Cv:=.seg ⟨0,0,0⟩ dPt dPt
def Cv.p:Cv→Pt
 | .seg _ p _=>p
 | .arc _ _ p _=>p
def Cv.q:Cv→Pt
 | .seg _ _ q=>q
 | .arc _ _ _ q=>q
def Cv.isArc:Cv→Bool
 | .seg ..=>false
 | .arc ..=>true
def Cv.cw:Cv→Bool
 | .seg ..=>false
 | .arc _ w _ _=>w
def Cv.ends:Cv→Pt→Pt→Cv
 | .seg l _ _,p,q=>.seg l p q
 | .arc k w _ _,p,q=>.arc k w p q
def Cv.rev:Cv→Cv
 | .seg l p q=>.seg l q p
 | .arc k w p q=>.arc k (!w) q p
def vA (l:Ln) (p:Pt):Rat:=l.a*p.a1+l.b*p.a2-l.c
def vB (l:Ln) (p:Pt):Rat:=l.a*p.b1+l.b*p.b2
def sB (l:Ln) (p:Pt):Int:=s3 (vA l p) (rB (vB l p) p.c) (rC (vB l p) p.c)
def Ep (k:Ci) (p:Pt):Rat:=Dk (p.a1-k.x) (p.a2-k.y) p.b1 p.b2 p.c+ -k.q
def wS (k:Ci) (p:Pt):Rat:=DE (p.a1-k.x) (p.a2-k.y) p.b1 p.b2
def mS (k:Ci) (p:Pt):Int:= -s3 (Ep k p) (wS k p) (zc (wS k p) p.c)
def Cv.supp:Cv→Pt→Bool
 | .seg l _ _,p=>sB l p==0
 | .arc k _ _ _,p=>mS k p==0
def rF (p:Pt) (v:Rat):Int:=cg (p.a1-v) p.b1 (zc p.b1 p.c)
def lp (p:Pt) (v:Rat):Int:=cg (p.a2-v) p.b2 (zc p.b2 p.c)
def jf (k:Ci) (p:Pt):Bool:=decide (lp p k.y>0)||(lp p k.y==0&&decide (rF p k.x>0))
def cx (p q:Pt):Int:=pA p.a1 p.b1 p.c q.a1 q.b1 q.c
def cy (p q:Pt):Int:=pA p.a2 p.b2 p.c q.a2 q.b2 q.c
def cP (p q:Pt):Int:=jj p.a1 p.b1 p.a2 p.b2 p.c q.a1 q.b1 q.a2 q.b2 q.c
def eC (k:Ci) (p q:Pt):Int:=if jf k p !=jf k q then(if jf k q then-1 else 1) else if jf k p then-cx p q else cx p q
def vX (k:Ci) (f p q:Pt):Int:=if decide (eC k p f<0) !=decide (eC k q f<0) then(if decide (eC k q f<0) then-1 else 1) else eC k p q
def Pt.flip (p:Pt):Pt:=⟨-p.a1,-p.b1,p.a2,p.b2,p.c⟩
def Ci.mir (k:Ci):Ci:=⟨-k.x,k.y,k.q⟩
def Cv.ord:Cv→Pt→Pt→Int
 | .seg _ f t,p,q=>if decide (cP f t>0) then-cP p q else cP p q
 | .arc k w f _,p,q=>if !w then vX k f p q else vX k.mir f.flip p.flip q.flip
def Cv.on (c:Cv) (p:Pt):Bool:=c.supp p&&decide (c.ord c.p p≤0)&&decide (c.ord p c.q≤0)
def gy (c:Cv) (x:Pt):List Pt→Nat
 |[]=>0
 |o::l=>if c.ord o x<0 then gy c x l+1 else 0
def gn (c:Cv) (out:List Pt) (x:Pt):List Pt:=
 if gy c x out<out.length∧cP (out.getD (gy c x out) dPt) x=0 then out else out.take (gy c x out)++x::out.drop (gy c x out)
def bL (c:Cv) (l:List Pt):List Pt:=l.foldl (gn c) []
def ja (c:Cv):List Pt→List Cv
 |p::q::l=>c.ends p q::ja c (q::l)
 |_=>[]
def oY (c:Cv) (l:List Pt):List Cv:=ja c (bL c ([c.p,c.q]++l))
def tu (x y:Rat):Bool:=a7 x y==0
def fy:Cv→Cv→Bool
 | .seg l _ _,.seg m _ _=>tu (l.a*m.b) (l.b*m.a)&&tu (l.a*m.c) (l.c*m.a)&&tu (l.b*m.c) (l.c*m.b)
 | .arc k _ _ _,.arc d _ _ _=>tu k.x d.x&&tu k.y d.y&&tu k.q d.q
 |_,_=>false
def gX (a1 b1 a2 b2 c:Rat):Pt:=if iD c then⟨a1+b1*rt c,0,a2+b2*rt c,0,0⟩ else⟨a1,b1,a2,b2,c⟩
def mv (l m:Ln):Rat:=l.a*m.b-m.a*l.b
def L7 (l m:Ln):Rat:=l.c*m.b-m.c*l.b
def Kn (l m:Ln):Rat:=l.a*m.c-m.a*l.c
def gO (l m:Ln):List Pt:=if a7 (mv l m) 0≠0 then[⟨L7 l m/mv l m,0,Kn l m/mv l m,0,0⟩] else[]
def kP (l m:Ln):Int:=if a7 (mv l m) 0≠0 then 0 else if a7 (L7 l m) 0=0∧a7 (Kn l m) 0=0 then 10 else 0
def gD (l:Ln):Rat:=l.a*l.a+l.b*l.b
def mF (l:Ln) (x y:Rat):Rat:=l.a*x+l.b*y-l.c
def mn (l:Ln) (k:Ci):Rat:=gD l*k.q-mF l k.x k.y*mF l k.x k.y
def Aa (l:Ln) (k:Ci):Rat:=k.x-mF l k.x k.y/gD l*l.a
def yT (l:Ln) (k:Ci):Rat:=k.y-mF l k.x k.y/gD l*l.b
def Jr (l:Ln) (k:Ci):Pt:=gX (Aa l k) (-(l.b/gD l)) (yT l k) (-(-l.a/gD l)) (mn l k)
def Jv (l:Ln) (k:Ci):Pt:=gX (Aa l k) (l.b/gD l) (yT l k) (-l.a/gD l) (mn l k)
def fU (l:Ln) (k:Ci):List Pt:=
 if a7 (mn l k) 0<0 then[] else if a7 (mn l k) 0=0 then[⟨Aa l k,0,yT l k,0,0⟩]
 else if cP (Jr l k) (Jv l k)>0 then[Jv l k,Jr l k] else[Jr l k,Jv l k]
def q6 (k d:Ci):Bool:=tu k.x d.x&&tu k.y d.y
def E2 (k:Ci):Rat:=k.x*k.x+k.y*k.y-k.q
def Kx (k d:Ci):Ln:=⟨2*(d.x-k.x),2*(d.y-k.y),E2 d-E2 k⟩
def lC (k d:Ci):List Pt:=if q6 k d then[] else fU (Kx k d) k
def rf (k d:Ci):Int:=if q6 k d then(if a7 k.q d.q=0 then 10 else 0) else 0
def jK:Cv→Cv→List Pt
 | .arc k _ _ _,.arc d _ _ _=>lC k d
 | .arc k _ _ _,.seg l _ _=>fU l k
 | .seg l _ _,.arc k _ _ _=>fU l k
 | .seg l _ _,.seg m _ _=>gO l m
def zH:Cv→Cv→Int
 | .arc k _ _ _,.arc d _ _ _=>rf k d
 | .seg l _ _,.seg m _ _=>kP l m
 |_,_=>0
theorem nD (c:Cv):(bc c)[0]? =some (.b c.isArc):=by cases c<;>rfl
theorem C4 (c:Cv):(bc c)[25]? =some (.b c.cw):=by cases c<;>rfl
theorem t4 (c:Cv):((bc c).drop 26).take 20=ay c.p:=by cases c<;>rfl
theorem s9 (c:Cv):((bc c).drop 46).take 20=ay c.q:=by cases c<;>rfl
theorem cW (c:Cv):List.take 66 (List.drop 0 (bc c))=bc c:=by rw[List.drop_zero,←aE c];exact List.take_length
theorem MH {m:Nat}{zs xs:List CellD}(hz:zs.length=m) (hx:xs.length=m):mC (fun i=>some (i*m,m)) (List.replicate 1 zs).flatten [(0,.a xs)]=some xs:=by
 subst hz
 simp[mC,D0.cells,hx]
theorem P0 {m:Nat}{zs xs ys:List CellD}(hz:zs.length=m) (hx:xs.length=m) (hy:ys.length=m):mC (fun i=>some (i*m,m)) (List.replicate 2 zs).flatten [(0,.a xs),(1,.a ys)]=some (xs++ys):=by
 subst hz
 have e:(List.replicate 2 zs).flatten=zs++zs:=by simp[List.replicate]
 rw[e]
 simp[mC,D0.cells,hx,hy]
theorem KU {m:Nat}{xs ys:List CellD}(hx:xs.length=m):(xs++ys).drop (1*m)=ys++[]:=by rw[Nat.one_mul,←hx,List.drop_left,List.append_nil]
theorem pO {m:Nat}{xs:List CellD}(hx:xs.length=m):xs.length=1*m:=by omega
theorem tC {m:Nat}{xs ys:List CellD}(hx:xs.length=m) (hy:ys.length=m):(xs++ys).length=2*m:=by rw[List.length_append];omega
def Cv.setp:Cv→Pt→Cv
 | .seg l _ q,p=>.seg l p q
 | .arc k w _ q,p=>.arc k w p q
theorem vE (c:Cv) (p:Pt):(bc c).take 26++ay p++(bc c).drop 46=bc (c.setp p):=by cases c<;>rfl
theorem vC (c:Cv) (p q:Pt):(bc (c.setp p)).take 46++ay q++(bc (c.setp p)).drop 66=bc (c.ends p q):=by cases c<;>rfl
def cV (c d:Cv) (p:Pt):Bool:=c.on p&&d.on p
def aQ (c d:Cv):List Pt:=if fy c d then[c.p,c.q,d.p,d.q] else jK c d
def cT (c d:Cv):List Pt:=bL c ((aQ c d).filter (cV c d))
def eS (c d:Cv):Cv:=if (c.isArc&&d.isArc&&(c.cw !=d.cw))||(!c.isArc&&(cP c.p c.q !=cP d.p d.q)) then d.rev else d
def Du (d:Cv) (l:List Pt):Nat→Bool
 |0=>false
 |i+1=>Du d l i||decide (d.ord (l.getD i dPt) (l.getD (i+1) dPt)<0)
def tQ (c d:Cv):Bool:=if fy c d then Du (eS c d) (cT c d) ((cT c d).length-1) else false
section
variable {c d:Cv}
theorem SM (h:c.isArc=false) (g:(cP c.p c.q !=cP d.p d.q)=true):eS c d=d.rev:=by unfold eS;rw[h,g];rfl
theorem TJ (h:c.isArc=false) (g:(cP c.p c.q !=cP d.p d.q)=false):eS c d=d:=by unfold eS;rw[h,g];rfl
theorem S8 (h:c.isArc=true) (g:d.isArc=false):eS c d=d:=by unfold eS;rw[h,g];rfl
theorem SI (h:c.isArc=true) (g:d.isArc=true) (e:(!(c.cw==d.cw))=true):eS c d=d.rev:=by unfold eS;rw[h,g,show(c.cw !=d.cw)=true from e];rfl
theorem SV (h:c.isArc=true) (g:d.isArc=true) (e:(!(c.cw==d.cw))=false):eS c d=d:=by unfold eS;rw[h,g,show(c.cw !=d.cw)=false from e];rfl
end
structure GP (p:Pt):Prop where
 a1:Rz 113 p.a1
 b1:Rz 21 p.b1
 a2:Rz 113 p.a2
 b2:Rz 21 p.b2
 c:Rz 78 p.c
 ir:p.c≠0→Rz 52 p.a1∧Rz 52 p.a2
 v:xy p.b1 p.b2 p.c=true
structure GL (l:Ln):Prop where
 a:Rz 4 l.a
 b:Rz 4 l.b
 c:Rz 17 l.c
 n:gD l≠0
structure GK (k:Ci):Prop where
 x:Rz 1 k.x
 y:Rz 1 k.y
 q:Rz 2 k.q
def Cv.good:Cv→Prop
 | .seg l p q=>GL l∧GP p∧GP q
 | .arc k _ p q=>GK k∧GP p∧GP q
theorem Kf {b1 b2 c:Rat}(h:xy b1 b2 c=true):xy (-b1) b2 c=true:=by
 unfold xy at*
 by_cases h1:b1=0
 ·rw[show-b1=b1 by grind];exact h
 ·rw[if_neg (by grind)] at h;rw[if_neg (by grind)];exact h
theorem GP.flip {p:Pt}(h:GP p):GP p.flip:=⟨h.a1.neg,h.b1.neg,h.a2,h.b2,h.c,fun e=>⟨(h.ir e).1.neg,(h.ir e).2⟩,Kf h.v⟩
theorem GK.mir {k:Ci}(h:GK k):GK k.mir:=⟨h.x.neg,h.y,h.q⟩
theorem GP.rat {v w:Rat}(h:Rz 113 v) (g:Rz 113 w):GP ⟨v,0,w,0,0⟩:=⟨h,Rz.zero (by decide),g,Rz.zero (by decide),Rz.zero (by decide),fun e=>absurd rfl e,by unfold xy;rw[if_pos ⟨rfl,rfl⟩];exact decide_eq_true rfl⟩
theorem GP.dPt:GP dPt:=GP.rat (Rz.zero (by decide)) (Rz.zero (by decide))
theorem GP.getD {l:List Pt}(h: ∀p∈l,GP p) (j:Nat):GP (l.getD j Go.Proofs.YtacopbfkmnpfgaaGreat.dPt):=by
 by_cases hj:j<l.length
 ·exact h _ (jP hj)
 ·rw[List.getD,List.getElem?_eq_none (by omega)];exact GP.dPt
section
variable {c:Cv}{x:Pt}
theorem Cf: ∀l:List Pt,gy c x l≤l.length
 |[]=>Nat.le_refl _
 |o::l=>by
  show(if c.ord o x<0 then gy c x l+1 else 0)≤l.length+1
  have:=Cf l
  split<;>omega
theorem vT: ∀ {l:List Pt}{k:Nat},k≤l.length→(∀j,j<k→c.ord (l.getD j dPt) x<0)→(k=l.length∨ ¬c.ord (l.getD k dPt) x<0)→gy c x l=k
 |[],k,h,_,_=>by
  have:k=0:=by simpa using h
  subst this;rfl
 |o::l,k,h,h1,h2=>by
  show(if c.ord o x<0 then gy c x l+1 else 0)=k
  match k with
  |0=>
   rcases h2 with h2|h2
   ·simp at h2
   ·exact if_neg (show ¬c.ord o x<0 from h2)
  |k+1=>
   rw[if_pos (show c.ord o x<0 from h1 0 (by omega)),vT (l:=l) (k:=k) (by simpa using h) (fun j hj=>h1 (j+1) (by omega)) (h2.imp (fun e=>by simpa using e) id)]
theorem zE {out:List Pt}{y:Pt}(h:y∈gn c out x):y∈out∨y=x:=by
 unfold gn at h
 split at h
 ·exact .inl h
 ·rcases List.mem_append.1 h with h|h
  ·exact .inl (List.mem_of_mem_take h)
  ·rcases List.mem_cons.1 h with h|h
   ·exact .inr h
   ·exact .inl (List.mem_of_mem_drop h)
theorem HE {out:List Pt}:out.length≤(gn c out x).length∧(gn c out x).length≤out.length+1:=by
 unfold gn
 split
 ·omega
 ·rw[List.length_append,List.length_cons,List.length_take,List.length_drop]
  omega
end
theorem xL {c:Cv}: ∀(l out:List Pt) {y:Pt},y∈l.foldl (gn c) out→y∈out∨y∈l
 |[],out,y,h=>.inl h
 |x::l,out,y,h=>by
  rcases xL l (gn c out x) h with h|h
  ·exact(zE h).imp id fun e=>by rw[e];exact List.mem_cons_self
  ·exact .inr (List.mem_cons_of_mem _ h)
theorem lq {c:Cv}{l:List Pt}{y:Pt}(h:y∈bL c l):y∈l:=(xL l [] h).elim (fun e=>by cases e) id
theorem tU {c:Cv}: ∀(l out:List Pt),out.length≤(l.foldl (gn c) out).length∧(l.foldl (gn c) out).length≤out.length+l.length
 |[],out=>⟨Nat.le_refl _,Nat.le_refl _⟩
 |x::l,out=>by
  have h1:=HE (c:=c) (x:=x) (out:=out)
  have h2:=tU (c:=c) l (gn c out x)
  show out.length≤(l.foldl (gn c) (gn c out x)).length∧(l.foldl (gn c) (gn c out x)).length≤out.length+(l.length+1)
  omega
theorem qM {c:Cv}{l:List Pt}:(bL c l).length≤l.length:=by
 have:=(tU (c:=c) l []).2
 rw[List.length_nil,Nat.zero_add] at this
 exact this
theorem kS {c:Cv}{l:List Pt}{i:Nat}(h:i<l.length):bL c (l.take (i+1))=gn c (bL c (l.take i)) (l.getD i dPt):=by
 unfold bL
 rw[pF (d:=dPt) h,List.foldl_append];rfl
theorem El {c:Cv}{l:List Pt}{i:Nat}(h:l.length≤i):bL c (l.take i)=bL c l:=by rw[List.take_of_length_le h]
theorem Kw {c:Cv}{out:List Pt}{x:Pt}{k:Nat}(hs:gy c x out=k) (h:k<out.length) (he:cP (out.getD k dPt) x=0):gn c out x=out:=by
 unfold gn;rw[hs,if_pos ⟨h,he⟩]
theorem pJ {c:Cv}{out:List Pt}{x:Pt}{k:Nat}(hs:gy c x out=k) (h: ¬(k<out.length∧cP (out.getD k dPt) x=0)):gn c out x=out.take k++x::out.drop k:=by
 unfold gn;rw[hs,if_neg h]
theorem pP {out:List Pt}{x:Pt}{k:Nat}:bg ay (out.take k++x::out.drop k)=bg ay (out.take k)++ay x++bg ay (out.drop k):=by
 rw[i7]
 show _++(ay x++bg ay (out.drop k))=_
 rw[List.append_assoc]
theorem gM {out:List Pt}{x:Pt}{k:Nat}(h:k≤out.length):(out.take k++x::out.drop k).length=out.length+1:=by
 rw[List.length_append,List.length_cons,List.length_take,List.length_drop];omega
theorem jx (c:Cv): ∀l:List Pt,(ja c l).length=l.length-1
 |[]=>rfl
 |[_]=>rfl
 |p::q::l=>by
  show(ja c (q::l)).length+1=l.length+1+1-1
  rw[jx c (q::l)]
  show l.length+1-1+1=_
  omega
theorem qY (c:Cv): ∀ {l:List Pt}{i:Nat},i+1<l.length→ja c (l.take (i+2))=ja c (l.take (i+1))++[c.ends (l.getD i dPt) (l.getD (i+1) dPt)]
 |p::q::l,0,_=>rfl
 |p::q::l,i+1,h=>by
  show c.ends p q::ja c ((q::l).take (i+2))=c.ends p q::ja c ((q::l).take (i+1))++_
  rw[qY c (l:=q::l) (i:=i) (by simpa using h)];rfl
 |[_],i,h=>by simp at h
 |[],i,h=>by simp at h
theorem DM (c:Cv) {l:List Pt}:ja c (l.take 1)=[]:=by
 match l with
 |[]=>rfl
 |p::l=>rfl
theorem mR {c:Cv}(h:c.good):GP c.p:=by cases c<;>exact h.2.1
theorem oS {c:Cv}(h:c.good):GP c.q:=by cases c<;>exact h.2.2
theorem En {c:Cv}(h:c.good) {p q:Pt}(hp:GP p) (hq:GP q):(c.ends p q).good:=by cases c<;>exact⟨h.1,hp,hq⟩
theorem tE {c:Cv}(h:c.good):c.rev.good:=by cases c<;>exact⟨h.1,h.2.2,h.2.1⟩
theorem ss (A B C D M N:Rat): -1≤iH A B C D M N∧iH A B C D M N≤1:=by
 unfold iH
 split
 ·decide
 ·exact Ck (fO _ _ _) (gj (fO _ _ _) (dK _ _)) (fO _ _ _)
theorem L8 (a b c:Rat): -1≤s3 a b c∧s3 a b c≤1:=by
 unfold s3
 have h1:=dK a 0
 have h2:=dK b 0
 split
 ·exact h1
 ·split
  ·exact h2
  ·split
   ·exact h1
   ·exact h2
theorem rn (p q:Pt): -1≤cx p q∧cx p q≤1:=ss _ _ _ _ _ _
theorem RM (p q:Pt): -1≤cP p q∧cP p q≤1:=by
 unfold cP jj
 split
 ·exact ss _ _ _ _ _ _
 ·exact ss _ _ _ _ _ _
theorem Rv {k:Nat}{b c:Rat}(h:Rz k b) (hk:1≤k):Rz k (rB b c):=by
 unfold rB
 split
 ·exact Rz.zero hk
 ·exact h
theorem P9 {k:Nat}{b c:Rat}(h:Rz k c) (hk:1≤k):Rz k (rC b c):=by
 unfold rC
 split
 ·exact Rz.zero hk
 ·exact h
theorem kz {x:Int}(h: -1000000000<x) (h':x<1000000000):Sz 1 x:=by
 have e:pw 1=1000000000:=by decide+kernel
 exact⟨by omega,by omega⟩
theorem yB {n:Int}(h: -1≤n∧n≤1):IntKind.i64.wrap (0-n)= -n:=by rw[Int.zero_sub];exact lU (by omega) (by omega)
theorem Tw {p q:Pt}(h:(cx p q !=0)=true):cP p q=cx p q:=Kk h
theorem TK {p q:Pt}(h:(cx p q !=0)=false):cP p q=cy p q:=JE h
theorem Nz {k:Ci}{p:Pt}(h:decide (lp p k.y>0)=true):jf k p=true:=by unfold jf;rw[h];rfl
theorem H4 {k:Ci}{p:Pt}(h:decide (lp p k.y>0)=false) (g:(lp p k.y==0)=false):jf k p=false:=by unfold jf;rw[h,g];rfl
theorem Bv {k:Ci}{p:Pt}(h:decide (lp p k.y>0)=false) (g:(lp p k.y==0)=true):jf k p=decide (rF p k.x>0):=by unfold jf;rw[h,g];rfl
theorem Kz {k:Ci}{p q:Pt}(h:(!(jf k p==jf k q))=true) (g:jf k q=true):eC k p q= -1:=by
 unfold eC;rw[show(jf k p !=jf k q)=true from h,if_pos rfl,g,if_pos rfl]
theorem Gt {k:Ci}{p q:Pt}(h:(!(jf k p==jf k q))=true) (g:jf k q=false):eC k p q=1:=by
 unfold eC;rw[show(jf k p !=jf k q)=true from h,if_pos rfl,g];rfl
theorem G7 {k:Ci}{p q:Pt}(h:(!(jf k p==jf k q))=false) (g:jf k p=true):eC k p q= -cx p q:=by
 unfold eC;rw[show(jf k p !=jf k q)=false from h,if_neg (by decide),g,if_pos rfl]
theorem FF {k:Ci}{p q:Pt}(h:(!(jf k p==jf k q))=false) (g:jf k p=false):eC k p q=cx p q:=by
 unfold eC;rw[show(jf k p !=jf k q)=false from h,if_neg (by decide),g];rfl
theorem RQ {k:Ci}{f p q:Pt}(h:(!(decide (eC k p f<0)==decide (eC k q f<0)))=true) (g:decide (eC k q f<0)=true):vX k f p q= -1:=by
 unfold vX;rw[show(decide (eC k p f<0) !=decide (eC k q f<0))=true from h,if_pos rfl,g,if_pos rfl]
theorem PA {k:Ci}{f p q:Pt}(h:(!(decide (eC k p f<0)==decide (eC k q f<0)))=true) (g:decide (eC k q f<0)=false):vX k f p q=1:=by
 unfold vX;rw[show(decide (eC k p f<0) !=decide (eC k q f<0))=true from h,if_pos rfl,g];rfl
theorem PS {k:Ci}{f p q:Pt}(h:(!(decide (eC k p f<0)==decide (eC k q f<0)))=false):vX k f p q=eC k p q:=by
 unfold vX;rw[show(decide (eC k p f<0) !=decide (eC k q f<0))=false from h];rfl
theorem NO {l:Ln}{f t p q:Pt}(h:decide (cP f t>0)=true):(Cv.seg l f t).ord p q= -cP p q:=by
 show(if _ then _ else _)=_
 rw[if_pos h]
theorem NI {l:Ln}{f t p q:Pt}(h:decide (cP f t>0)=false):(Cv.seg l f t).ord p q=cP p q:=by
 show(if _ then _ else _)=_
 rw[if_neg (by rw[h];decide)]
theorem NW {k:Ci}{w:Bool}{f t p q:Pt}(h:(!w)=true):(Cv.arc k w f t).ord p q=vX k f p q:=by
 show(if _ then _ else _)=_
 rw[if_pos h]
theorem Pb {k:Ci}{w:Bool}{f t p q:Pt}(h:(!w)=false):(Cv.arc k w f t).ord p q=vX k.mir f.flip p.flip q.flip:=by
 show(if _ then _ else _)=_
 rw[if_neg (by rw[h];decide)]
theorem N3 {c:Cv}{p:Pt}(h:c.supp p=false):c.on p=false:=by unfold Cv.on;rw[h];rfl
theorem Nh {c:Cv}{p:Pt}(h:c.supp p=true) (g:decide (c.ord c.p p≤0)=false):c.on p=false:=by unfold Cv.on;rw[h,g];rfl
theorem Mv {c:Cv}{p:Pt}(h:c.supp p=true) (g:decide (c.ord c.p p≤0)=true):c.on p=decide (c.ord p c.q≤0):=by unfold Cv.on;rw[h,g];rfl
theorem OO {p:Pt}(h:xy p.b1 p.b2 p.c=true) (hs:iD p.c=true):p.b1=0∧p.b2=0∧p.c=0:=by
 unfold xy at h
 split at h
 ·next e=>exact⟨e.1,e.2,of_decide_eq_true h⟩
 ·rw[hs] at h;simp at h
theorem Oq {l:Ln}{p:Pt}(h:xy p.b1 p.b2 p.c=true) (hs:iD p.c=true):vA l p+vB l p*rt p.c=vA l p∧0=rB (vB l p) p.c∧0=rC (vB l p) p.c:=by
 obtain⟨h1,h2,h3⟩:=OO h hs
 have hb:vB l p=0:=by unfold vB;rw[h1,h2];grind
 rw[hb]
 exact⟨by grind,(J6 (.inl rfl)).symm,(K7 (.inl rfl)).symm⟩
theorem FY {l:Ln}{p:Pt}(hl:GL l) (hp:GP p):Rz 1000 (vA l p):=(((hl.a.mul hp.a1).add (hl.b.mul hp.a2)).sub hl.c).mono (by decide)
theorem H8 {l:Ln}{p:Pt}(hl:GL l) (hp:GP p):Rz 1000 (vB l p):=((hl.a.mul hp.b1).add (hl.b.mul hp.b2)).mono (by decide)
theorem Jl {k:Ci}{p:Pt}(hk:GK k) (hp:GP p):Rz 453 (p.a1-k.x)∧Rz 453 (p.a2-k.y):=⟨(hp.a1.sub hk.x).mono (by decide),(hp.a2.sub hk.y).mono (by decide)⟩
theorem Fh {k:Ci}{p:Pt}(hk:GK k) (hp:GP p):Rz 4500 (Dk (p.a1-k.x) (p.a2-k.y) p.b1 p.b2 p.c):=by
 obtain⟨h1,h2⟩:=Jl hk hp
 exact((((h1.mul h1).add (h2.mul h2)).add (((hp.b1.mul hp.b1).add (hp.b2.mul hp.b2)).mul hp.c))).mono (by decide)
theorem HU {k:Ci}{p:Pt}(hk:GK k) (hp:GP p):Rz 5000 (Ep k p):=((Fh hk hp).add hk.q.neg).mono (by decide)
theorem Iq {k:Ci}{p:Pt}(hk:GK k) (hp:GP p):Rz 4000 (wS k p):=by
 obtain⟨h1,h2⟩:=Jl hk hp
 exact(((h1.mul hp.b1).add (h2.mul hp.b2)).add ((h1.mul hp.b1).add (h2.mul hp.b2))).mono (by decide)
theorem JP (x:Rat):0≤x*x:=by
 rcases Rat.le_total (a:=0) (b:=x) with h|h
 ·exact Rat.mul_nonneg h h
 ·have:=Rat.mul_nonneg (a:= -x) (b:= -x) (by grind) (by grind);grind
theorem MZ {x:Rat}(h:x*x=0):x=0:=by
 by_cases e:x=0
 ·exact e
 ·exact absurd (Rat.mul_eq_zero.1 h) (by simp[e])
theorem Dm {x y:Rat}(h:x*x+y*y=0):x=0∧y=0:=by
 have h1:=JP x
 have h2:=JP y
 exact⟨MZ (by grind),MZ (by grind)⟩
theorem f8 {x:Rat}:a7 x 0=0↔x=0:=by
 unfold a7
 constructor
 ·intro h;split at h
  ·cases h
  ·split at h
   ·cases h
   ·grind
 ·intro h;subst h;rw[if_neg (by decide),if_neg (by decide)]
theorem uy (x:Rat):a7 x x=0:=by unfold a7;rw[if_neg (by grind),if_neg (by grind)]
theorem Ip {x:Rat}(h: ¬a7 x 0<0):0≤x:=by
 unfold a7 at h
 split at h
 ·exact absurd (by decide:(-1:Int)<0) h
 ·grind
theorem tG {x:Rat}(h: ¬a7 x 0<0) (g: ¬a7 x 0=0):0<x:=by
 have h1:=Ip h
 have h2:x≠0:=fun e=>g (f8.2 e)
 grind
theorem B4 {k:Nat}{x:Int}(h:Sz (k+k) x):Sz k (bD x):=by
 have h0:=eE x
 rcases Int.lt_or_le x 0 with hx|hx
 ·rw[nB hx]
  have:=dd k
  exact⟨by omega,by omega⟩
 ·have h1:=nQ hx
  have h2:pw (k+k)=pw k*pw k:=oW k k
  have h3:=h.lt
  have h4:=dd k
  refine⟨?_,by omega⟩
  rcases Int.lt_or_le (bD x) (pw k) with g|g
  ·exact g
  ·have h5:pw k*pw k≤bD x*bD x:=Int.mul_le_mul g g (by omega) h0
   omega
theorem IZ {k:Nat}{c:Rat}(h:Rz (k+k) c):Rz k (rt c):=Rz.of (B4 h.n) (B4 h.d) (by have:=qm (den_pos c);omega)
theorem rX {a1 b1 a2 b2 c:Rat}(h1:Rz 52 a1) (h2:Rz 21 b1) (h3:Rz 52 a2) (h4:Rz 21 b2) (h5:Rz 78 c) (h0:0<c) (hb: ¬(b1=0∧b2=0)):GP (gX a1 b1 a2 b2 c):=by
 unfold gX
 cases hs:iD c with
 |true=>
  rw[if_pos rfl]
  exact GP.rat ((h1.add (h2.mul (IZ (k:=39) h5))).mono (by decide)) ((h3.add (h4.mul (IZ (k:=39) h5))).mono (by decide))
 |false=>
  rw[if_neg (by decide)]
  refine⟨h1.mono (by decide),h2.mono (by decide),h3.mono (by decide),h4.mono (by decide),h5.mono (by decide),fun _=>⟨h1,h3⟩,?_⟩
  show xy b1 b2 c=true
  unfold xy
  rw[if_neg hb,hs,decide_eq_true h0];rfl
section
variable {l m:Ln}{k d:Ci}
theorem lZ (hl:GL l) (hk:GK k):Rz 29 (mF l k.x k.y):=(((hl.a.mul hk.x).add (hl.b.mul hk.y)).sub hl.c).mono (by decide)
theorem lG (hl:GL l):Rz 17 (gD l):=((hl.a.mul hl.a).add (hl.b.mul hl.b)).mono (by decide)
theorem zS (hl:GL l) (hk:GK k):Rz 46 (mF l k.x k.y/gD l):=(lZ hl hk).div (lG hl) hl.n
theorem ns (hl:GL l) (hk:GK k):Rz 52 (Aa l k):=(hk.x.sub ((zS hl hk).mul hl.a)).mono (by decide)
theorem mN (hl:GL l) (hk:GK k):Rz 52 (yT l k):=(hk.y.sub ((zS hl hk).mul hl.b)).mono (by decide)
theorem r9 (hl:GL l) (hk:GK k):Rz 78 (mn l k):=(((lG hl).mul hk.q).sub ((lZ hl hk).mul (lZ hl hk))).mono (by decide)
theorem yD (hl:GL l):Rz 21 (l.b/gD l):=(hl.b.div (lG hl) hl.n).mono (by decide)
theorem yv (hl:GL l):Rz 21 (-l.a/gD l):=(hl.a.neg.div (lG hl) hl.n).mono (by decide)
theorem Mf (hl:GL l): ¬(l.b/gD l=0∧ -l.a/gD l=0):=by
 rintro⟨h1,h2⟩
 have hn:=hl.n
 have e1:l.b=0:=by
  have:l.b/gD l*gD l=l.b:=Rat.div_mul_cancel hn
  rw[h1] at this;grind
 have e2: -l.a=0:=by
  have: -l.a/gD l*gD l= -l.a:=Rat.div_mul_cancel hn
  rw[h2] at this;grind
 refine hn ?_
 unfold gD
 rw[show l.a=0 by grind,e1];grind
theorem AW (hl:GL l) (hk:GK k) (h: ¬a7 (mn l k) 0<0) (g: ¬a7 (mn l k) 0=0):GP (Jv l k):=
 rX (ns hl hk) (yD hl) (mN hl hk) (yv hl) (r9 hl hk) (tG h g) (Mf hl)
theorem At (hl:GL l) (hk:GK k) (h: ¬a7 (mn l k) 0<0) (g: ¬a7 (mn l k) 0=0):GP (Jr l k):=
 rX (ns hl hk) (yD hl).neg (mN hl hk) (yv hl).neg (r9 hl hk) (tG h g) (fun e=>Mf hl ⟨by grind,by grind⟩)
theorem qS (hl:GL l) (hk:GK k): ∀p∈fU l k,GP p:=by
 intro p hp
 unfold fU at hp
 split at hp
 ·cases hp
 ·rename_i h
  split at hp
  ·rw[List.mem_singleton] at hp;subst hp
   exact GP.rat ((ns hl hk).mono (by decide)) ((mN hl hk).mono (by decide))
  ·rename_i g
   split at hp
   ·rcases List.mem_cons.1 hp with e|e
    ·rw[e];exact AW hl hk h g
    ·rw[List.mem_singleton] at e;rw[e];exact At hl hk h g
   ·rcases List.mem_cons.1 hp with e|e
    ·rw[e];exact At hl hk h g
    ·rw[List.mem_singleton] at e;rw[e];exact AW hl hk h g
theorem wU (hl:GL l) (hm:GL m):Rz 17 (mv l m):=((hl.a.mul hm.b).sub (hm.a.mul hl.b)).mono (by decide)
theorem Gf (hl:GL l) (hm:GL m):Rz 43 (L7 l m):=((hl.c.mul hm.b).sub (hm.c.mul hl.b)).mono (by decide)
theorem Fz (hl:GL l) (hm:GL m):Rz 43 (Kn l m):=((hl.a.mul hm.c).sub (hm.a.mul hl.c)).mono (by decide)
theorem Ei (hl:GL l) (hm:GL m): ∀p∈gO l m,GP p:=by
 intro p hp
 unfold gO at hp
 split at hp
 ·rename_i h
  have h0:mv l m≠0:=fun e=>h (f8.2 e)
  rw[List.mem_singleton] at hp;subst hp
  exact GP.rat (((Gf hl hm).div (wU hl hm) h0).mono (by decide)) (((Fz hl hm).div (wU hl hm) h0).mono (by decide))
 ·cases hp
theorem rS (hk:GK k):Rz 8 (E2 k):=(((hk.x.mul hk.x).add (hk.y.mul hk.y)).sub hk.q).mono (by decide)
theorem A7:Rz 1 (2:Rat):=⟨by rw[show(2:Rat).num=2 from rfl];exact kz (by decide) (by decide),by rw[show((2:Rat).den:Int)=1 from rfl];exact Sz.one (by decide)⟩
theorem Ct (hk:GK k) (hd:GK d) (h:q6 k d=false):GL (Kx k d):=by
 refine⟨(A7.mul (hd.x.sub hk.x)).mono (by decide),(A7.mul (hd.y.sub hk.y)).mono (by decide),((rS hd).sub (rS hk)).mono (by decide),fun e=>?_⟩
 have e1:=Dm (show(2*(d.x-k.x))*(2*(d.x-k.x))+(2*(d.y-k.y))*(2*(d.y-k.y))=0 from e)
 have hx:k.x=d.x:=by grind
 have hy:k.y=d.y:=by grind
 unfold q6 tu at h
 rw[hx,hy] at h
 simp[uy] at h
theorem Je (hk:GK k) (hd:GK d): ∀p∈lC k d,GP p:=by
 intro p hp
 unfold lC at hp
 split at hp
 ·cases hp
 ·rename_i h
  exact qS (Ct hk hd (by simpa using h)) hk p hp
theorem IM {a c:Cv}(ha:a.good) (hc:c.good): ∀p∈jK a c,GP p:=by
 intro p hp
 cases a<;>cases c
 ·exact Ei ha.1 hc.1 p hp
 ·exact qS ha.1 hc.1 p hp
 ·exact qS hc.1 ha.1 p hp
 ·exact Je ha.1 hc.1 p hp
theorem vh {a c:Cv}(ha:a.good) (hc:c.good): ∀p∈aQ a c,GP p:=by
 intro p hp
 unfold aQ at hp
 split at hp
 ·simp only[List.mem_cons,List.not_mem_nil,or_false] at hp
  rcases hp with e|e|e|e
  ·rw[e];exact mR ha
  ·rw[e];exact oS ha
  ·rw[e];exact mR hc
  ·rw[e];exact oS hc
 ·exact IM ha hc p hp
theorem yq {a c:Cv}(ha:a.good) (hc:c.good): ∀p∈cT a c,GP p:=fun p hp=>vh ha hc p (List.mem_filter.1 (lq hp)).1
theorem oV:(fU l k).length≤2:=by
 unfold fU
 repeat' split
 all_goals simp
theorem EG {a c:Cv}:(jK a c).length≤2:=by
 cases a<;>cases c
 ·show(gO _ _).length≤2
  unfold gO;split<;>simp
 ·exact oV
 ·exact oV
 ·show(lC _ _).length≤2
  unfold lC;split
  ·simp
  ·exact oV
theorem tX {a c:Cv}:(aQ a c).length≤4:=by
 unfold aQ
 split
 ·simp
 ·have:=EG (a:=a) (c:=c);omega
theorem kW {a c:Cv}:(cT a c).length≤4:=by
 have h1:=qM (c:=a) (l:=(aQ a c).filter (cV a c))
 have h2:=List.length_filter_le (cV a c) (aQ a c)
 have h3:=tX (a:=a) (c:=c)
 unfold cT;omega
end
def tF (k d:Ci):Bool:=tu k.x d.x&&tu k.y d.y&&tu k.q d.q
def s8 (l m:Ln):Bool:=tu (l.a*m.b) (l.b*m.a)&&tu (l.a*m.c) (l.c*m.a)&&tu (l.b*m.c) (l.c*m.b)
section
variable {l m:Ln}{k d:Ci}
theorem IF (h:decide (a7 (mn l k) 0<0)=true):fU l k=[]:=by unfold fU;rw[if_pos (of_decide_eq_true h)]
theorem Ih (h:decide (a7 (mn l k) 0<0)=false) (g:(a7 (mn l k) 0==0)=true):fU l k=[⟨Aa l k,0,yT l k,0,0⟩]:=by
 unfold fU;rw[if_neg (of_decide_eq_false h),if_pos (by simpa using g)]
theorem Fr (h:decide (a7 (mn l k) 0<0)=false) (g:(a7 (mn l k) 0==0)=false) (q:decide (cP (Jr l k) (Jv l k)>0)=true):fU l k=[Jv l k,Jr l k]:=by
 unfold fU;rw[if_neg (of_decide_eq_false h),if_neg (by simpa using g),if_pos (of_decide_eq_true q)]
theorem FS (h:decide (a7 (mn l k) 0<0)=false) (g:(a7 (mn l k) 0==0)=false) (q:decide (cP (Jr l k) (Jv l k)>0)=false):fU l k=[Jr l k,Jv l k]:=by
 unfold fU;rw[if_neg (of_decide_eq_false h),if_neg (by simpa using g),if_neg (of_decide_eq_false q)]
theorem yJ (h:(a7 (mv l m) 0 !=0)=true):gO l m=[⟨L7 l m/mv l m,0,Kn l m/mv l m,0,0⟩]∧kP l m=0:=by
 unfold gO kP;rw[if_pos (by simpa using h),if_pos (by simpa using h)];exact⟨rfl,rfl⟩
theorem vF (h:(a7 (mv l m) 0 !=0)=false) (g:(a7 (L7 l m) 0==0)=true) (q:(a7 (Kn l m) 0==0)=true):gO l m=[]∧kP l m=10:=by
 unfold gO kP;rw[if_neg (by simpa using h),if_neg (by simpa using h),if_pos ⟨by simpa using g,by simpa using q⟩];exact⟨rfl,rfl⟩
theorem ux (h:(a7 (mv l m) 0 !=0)=false) (g:(a7 (L7 l m) 0==0)=false):gO l m=[]∧kP l m=0:=by
 unfold gO kP;rw[if_neg (by simpa using h),if_neg (by simpa using h),if_neg (fun e=>by simp[e.1] at g)];exact⟨rfl,rfl⟩
theorem uE (h:(a7 (mv l m) 0 !=0)=false) (q:(a7 (Kn l m) 0==0)=false):gO l m=[]∧kP l m=0:=by
 unfold gO kP;rw[if_neg (by simpa using h),if_neg (by simpa using h),if_neg (fun e=>by simp[e.2] at q)];exact⟨rfl,rfl⟩
theorem Gz (h:q6 k d=true) (g:(a7 k.q d.q==0)=true):lC k d=[]∧rf k d=10:=by
 unfold lC rf;rw[if_pos h,if_pos h,if_pos (by simpa using g)];exact⟨rfl,rfl⟩
theorem IW (h:q6 k d=true) (g:(a7 k.q d.q==0)=false):lC k d=[]∧rf k d=0:=by
 unfold lC rf;rw[if_pos h,if_pos h,if_neg (by simpa using g)];exact⟨rfl,rfl⟩
theorem Fg (h:q6 k d=false):lC k d=fU (Kx k d) k∧rf k d=0:=by
 unfold lC rf;rw[if_neg (by rw[h];decide),if_neg (by rw[h];decide)];exact⟨rfl,rfl⟩
end
section
variable {P:Program}{ops:Array Oper}{T:TF}{B:BF}
end
section
variable {P:Program}{σ:St}{Q:Exit→St→Prop}
end
section
variable {P:Program}
variable {ops:Array Oper}{T:TF}{B:BF}
end
section
variable {P:Program}{ops:Array Oper}{T:TF}{B:BF}
end
section
variable {P:Program}{ops:Array Oper}{os:List Oper}{K:St→Prop}{N:Nat}{tm:List (Nat×DV)}{bx:List (Nat×TypeId×List CellD)}
end
end Go.Proofs.YtacopbfkmnpfgaaGreat
