/-Data:slices that grow:the room behind a slice is not known. -/
import Derived.Test.YtacopbfkmnpfgaaGreatSpK
namespace Go.Proofs.YtacopbfkmnpfgaaGreat
open Go Go.RowKit
section
variable {P:Program}{ops:Array Oper}{T:TF}{B:BF}{av:Nat→Prop}{w0:Ent}{w:World}{N:Nat}{β:Nat→Nat}{a:Act}
theorem Rel.ren (h:Rel av w0 N T B β a w) {k d:Nat}(hdN:d<N) (hk:B k≠none) (hd:d=k∨B d=none):
 Rel av w0 N (jj k T) (fun l=>if l=d then B k else if l=k then none else B l) (fun l=>if l=d then β k else β l) a w:=by
 have hB: ∀l,(if l=d then B k else if l=k then none else B l)≠none→(l=d∨(l≠d∧l≠k∧B l≠none)):=by
  intro l hl
  by_cases e:l=d
  ·exact .inl e
  ·rw[if_neg e] at hl
   by_cases e2:l=k
   ·rw[if_pos e2] at hl;exact absurd rfl hl
   ·rw[if_neg e2] at hl;exact .inr ⟨e,e2,hl⟩
 have hne: ∀l,B l≠none→l≠k→l≠d:=by
  intro l hl e e2
  rcases hd with hd|hd
  ·exact e (e2.trans hd)
  ·rw[←e2] at hd;exact hl hd
 have hV:(fun b=>av b∨ ∃l,(if l=d then B k else if l=k then none else B l)≠none∧(if l=d then β k else β l)=b)=(fun b=>av b∨ ∃l,B l≠none∧β l=b):=by
  funext b
  refine propext ⟨?_,?_⟩
  ·rintro(hb|⟨l,hl,hb⟩)
   ·exact .inl hb
   ·rcases hB l hl with e|⟨e1,e2,e3⟩
    ·rw[if_pos e] at hb;exact .inr ⟨k,hk,hb⟩
    ·rw[if_neg e1] at hb;exact .inr ⟨l,e3,hb⟩
  ·rintro(hb|⟨l,hl,hb⟩)
   ·exact .inl hb
   ·by_cases e:l=k
    ·exact .inr ⟨d,by rw[if_pos rfl];exact hk,by rw[if_pos rfl,←e];exact hb⟩
    ·have:=hne l hl e
     exact .inr ⟨l,by rw[if_neg this,if_neg e];exact hl,by rw[if_neg this];exact hb⟩
 have hT: ∀t x,jj k T t=some x→x=.n∨(T t=some x∧fJ x≠some k):=by
  intro t x ht
  unfold jj at ht
  split at ht
  ·rename_i y hy
   split at ht
   ·injection ht with ht;exact .inl ht.symm
   ·rename_i hr;injection ht with ht;subst ht;exact .inr ⟨hy,hr⟩
  ·cases ht
 refine⟨h.dfr,h.siz,h.bel,h.avl,h.avE,h.big,fun b hb hK=>?_,?_,?_,?_,?_⟩
 ·have hKd:w0.K≠d:=by have:=h.big;omega
  have hK0:=hK
  rcases hB _ hK with e|⟨_,_,e⟩
  ·exact absurd e hKd
  ·rw[if_neg hKd];exact h.fix b hb e
 ·intro l m hl hm e
  rcases hB l hl with e1|⟨e1,e2,e3⟩<;>rcases hB m hm with f1|⟨f1,f2,f3⟩
  ·rw[e1,f1]
  ·rw[if_pos e1,if_neg f1] at e
   exact absurd (h.inj k m hk f3 e).symm f2
  ·rw[if_neg e1,if_pos f1] at e
   exact absurd (h.inj l k e3 hk e) e2
  ·rw[if_neg e1,if_neg f1] at e
   exact h.inj l m e3 f3 e
 ·intro l hl
  rcases hB l hl with e1|⟨e1,e2,e3⟩
  ·rw[if_pos e1];exact h.own k hk
  ·rw[if_neg e1];exact h.own l e3
 ·intro t x l ht hx
  rcases hT t x ht with rfl|⟨h1,h2⟩
  ·cases hx
  ·have h3:=h.wf t x l h1 hx
   have h4:l≠k:=fun e=>h2 (by rw[hx,e])
   rw[if_neg (hne l h3 h4),if_neg h4];exact h3
 ·rw[hV]
  refine⟨h.sees.av,?_,?_⟩
  ·intro l U cs hl
   have hl0:(if l=d then B k else if l=k then none else B l)=some (U,cs):=hl
   by_cases e:l=d
   ·rw[if_pos e] at hl0
    show Qz _ _ (if l=d then β k else β l) _ _
    rw[if_pos e];exact h.sees.box k U cs hl0
   ·rw[if_neg e] at hl0
    show Qz _ _ (if l=d then β k else β l) _ _
    rw[if_neg e]
    by_cases e2:l=k
    ·rw[if_pos e2] at hl0;cases hl0
    ·rw[if_neg e2] at hl0;exact h.sees.box l U cs hl0
  ·intro t x hL ht
   rcases hT t x ht with rfl|⟨h1,h2⟩
   ·unfold jj at ht
    split at ht
    ·rename_i y hy
     obtain⟨v,e,_⟩:=h.sees.tmp t y hL hy
     exact⟨v,e,trivial⟩
    ·cases ht
   ·obtain⟨v,e,hr⟩:=h.sees.tmp t x hL h1
    refine⟨v,e,?_⟩
    cases x with
    |p l off=>
     have h3:=h.wf t _ l h1 rfl
     have h4:l≠k:=fun e=>h2 (by rw[e];rfl)
     show v=.pointer (some ⟨if l=d then β k else β l,off,none⟩)
     rw[if_neg (hne l h3 h4)];exact hr
    |o l n c=>
     have h3:=h.wf t _ l h1 rfl
     have h4:l≠k:=fun e=>h2 (by rw[e];rfl)
     show v=.slice (some ⟨if l=d then β k else β l,0,none⟩) n c
     rw[if_neg (hne l h3 h4)];exact hr
    |w l off n c=>
     have h3:=h.wf t _ l h1 rfl
     have h4:l≠k:=fun e=>h2 (by rw[e];rfl)
     show v=.slice (some ⟨if l=d then β k else β l,off,none⟩) n c
     rw[if_neg (hne l h3 h4)];exact hr
    |v d=>exact hr
    |t ds=>exact hr
    |q us=>exact hr
    |u=>exact hr
    |n=>trivial
    |z=>exact hr
    |f n us=>exact hr
theorem vg (a:Act) (d:Nat) (v v':Value):(a.put (some d) v).put (some d) v'=a.put (some d) v':=by simp[Act.put]
theorem DZ {k t:Nat}{x:DV}{tm:List (Nat×DV)}{bx:List (Nat×TypeId×List CellD)}:(⟨N,(t,x)::gK k tm,bx⟩:St).T=fun s=>if some t=some s then some x else jj k (fun s=>look s tm) s:=by
 funext s
 show look s ((t,x)::gK k tm)=_
 rw[bi,hJ]
 by_cases e:t=s
 ·rw[if_pos e,if_pos (by rw[e])]
 ·rw[if_neg e,if_neg (by simpa using e)];rfl
theorem Dt {k t:Nat}{x:TypeId×List CellD}{tm:List (Nat×DV)}{bx:List (Nat×TypeId×List CellD)}:(⟨N,tm,(t,x)::fX k bx⟩:St).B=fun l=>if some t=some l then some x else if l=k then none else look l bx:=by
 funext s
 show look s ((t,x)::fX k bx)=(if some t=some s then some x else if s=k then none else look s bx)
 rw[bi,gn]
 by_cases e:t=s
 ·rw[if_pos e,if_pos (by rw[e])]
 ·rw[if_neg e,if_neg (show ¬some t=some s by simpa using e)]
theorem E1 {z:Value}{zs:List CellD}{m:Nat}(hzl:zs.length=m) (hzr: ∀(V:Nat→Prop) (w:World),RdCs V w z.cells.toList zs) (r:Nat):
 ∃rest:List CellD,rest.length=r*m∧ ∀(V:Nat→Prop) (w:World),RdCs V w (Builtin.zeroCells z.cells r).toList rest:=by
 have hzs:z.cells.size=m:=by have:=(hzr (fun _=>False) default).1;rw[hzl] at this;simpa using this
 have key: ∀(r:Nat) (V:Nat→Prop) (w:World),RdCs V w ((List.range (r*m)).map (fun j=>z.cells[j%z.cells.size]!)) (List.replicate r zs).flatten:=by
  intro r V w
  induction r with
  |zero=>simp;exact RdCs.nil
  |succ r ih=>
   rw[Nat.succ_mul,List.range_add,List.map_append,List.replicate_succ',List.flatten_append]
   refine RdCs.append ih ?_
   have e2:(List.map (fun x=>r*m+x) (List.range m)).map (fun j=>z.cells[j%z.cells.size]!)=z.cells.toList:=by
    apply List.ext_getElem (by simp[hzs])
    intro j h1 h2
    simp at h1
    simp only[List.getElem_map,List.getElem_range,hzs]
    rw[Nat.mul_comm r,Nat.mul_add_mod,Nat.mod_eq_of_lt (by omega),getElem!_pos z.cells j (by omega)]
    simp
   rw[e2]
   simpa using hzr V w
 refine⟨(List.replicate r zs).flatten,?_,fun V w=>?_⟩
 ·have:=(key r (fun _=>False) default).1
  simpa using this.symm
 ·have:=key r V w
  unfold Builtin.zeroCells
  rw[hzs]
  simpa [hzs] using this
variable {tm:List (Nat×DV)}{bx:List (Nat×TypeId×List CellD)}
theorem uL {t:Nat}{x y:Operand}{U e:TypeId}{ty:TypeId}{pos:String}{af:Array Edge}{g:Option (Nat×Bool)}{n c q m by_ k:Nat}{cs ys zs pre:List CellD}
 (hU:nd P U=some (e,m,by_,zs)) (hx:cq (fun s=>look s tm) x=some (.o k n c)) (hsc: ∀V β a w,Sees V (dg ops ⟨some t,.call ⟨.builtin .append,#[x,y],#[U,U]⟩,ty,pos,af,g⟩) (fun s=>look s tm) (fun l=>look l bx) β a w→ ∃V',RdC V' w (a.eval y) (.s q ys)∧ ∀news,RdCs V' w news ys→RdCs V w news ys) (hb:look k bx=some (e,cs)) (hcs:cs.length=c*m) (hys:ys.length=q*m) (hm:0<m)
 (hnc:n≤c) (hcm:c≤maxLen) (hbytes:(n+q)*by_≤140737488355328) (h63:n+q≤maxLen) (hpre:cs.take (n*m)=pre) (hd:t=k∨look t bx=none)
 (hg:gd ops ⟨some t,.call ⟨.builtin .append,#[x,y],#[U,U]⟩,ty,pos,af,g⟩ (fun s=>look s tm)=some true):
 Gc P ops ⟨some t,.call ⟨.builtin .append,#[x,y],#[U,U]⟩,ty,pos,af,g⟩ ⟨N,tm,bx⟩ (fun σ'=> ∃c' rest,n+q≤c'∧c'≤maxLen∧rest.length=(c'-(n+q))*m∧σ'=⟨N,(t,.o t (n+q) c')::gK k tm,(t,e,pre++ys++rest)::fX k bx⟩):=by
 intro av w0 β a w hrel htn
 have hs:=Sees.of hrel.sees (L:=dg ops ⟨some t,.call ⟨.builtin .append,#[x,y],#[U,U]⟩,ty,pos,af,g⟩) (fun _ _=>trivial) (fun _ _ _ h=>h) (fun _ _ h=>h)
 refine⟨dY hs hg,?_⟩
 have e1:a.eval x=.slice (some ⟨β k,0,none⟩) n c:=aG hs (x:=x) (by simp[Op.operands,Call.operands]) hx
 obtain⟨V',h2,hconv⟩:=hsc _ _ _ _ hs
 obtain⟨news,hsrc,hrn'⟩:=mr hU h2 hys
 have hrn:=hconv _ hrn'
 obtain⟨hu,i,z,hi,hz,hsz,hby,hzl,hzr⟩:=fw hU
 obtain⟨hvk,vs,ev,hr⟩:=hs.box k e cs hb
 subst hsz
 have hkn:(look k bx)≠none:=by rw[hb];simp
 have hle:n*i.size≤cs.length:=by rw[hcs];exact Nat.mul_le_mul_right _ hnc
 have hvl:vs.size=c*i.size:=by have:=hr.1;rw[hcs] at this;simpa using this
 have hr2:=hr.take (n*i.size)
 rw[hpre] at hr2
 have hlen:(vs.toList.take (n*i.size)).length=n*i.size:=by
  rw[List.length_take,Array.length_toList,hvl]
  exact Nat.min_eq_left (Nat.mul_le_mul_right _ hnc)
 have ht:t<N:=htn t rfl
 have hnl:news.length=q*i.size:=hsrc.newsLen
 unfold Gives
 by_cases hroom:n+q≤c
 ·--in place
  have hfit:0+n*i.size+0+news.length≤vs.size:=by
   rw[hvl,hnl]
   have:=Nat.mul_le_mul_right i.size hroom
   rw[Nat.add_mul] at this;omega
  have hst:=run_storeCells_at P (β k) (0+n*i.size) e news 0 vs w ev hfit hsrc.one
  simp only[Nat.zero_add,Nat.add_zero] at hst
  have hrun:(Builtin.append_ #[U,U] ty #[.slice (some ⟨β k,0,none⟩) n c,a.eval y]).run P w=.ok (.slice (some ⟨β k,0,none⟩) (n+q) c) (w.setRow (β k) (vs.toList.take (n*i.size)++news++vs.toList.drop (n*i.size+news.length)).toArray):=by
   rcases hsrc.kind with⟨e',hk⟩|hk<;>simp[Builtin.append_,run_underlying hu,sizeOf,typeInfo,hi,hsrc.len,hroom,hsrc.cells,Addr.add_lit,hst]
  have hexec:(execOp a.eval ⟨some t,.call ⟨.builtin .append,#[x,y],#[U,U]⟩,ty,pos,af,g⟩).run P w=.ok (.value (.slice (some ⟨β k,0,none⟩) (n+q) c)) (w.setRow (β k) (vs.toList.take (n*i.size)++news++vs.toList.drop (n*i.size+news.length)).toArray):=by
   simp only[execOp,resolve,invoke,builtin,Sem.run_bind,Sem.run_pure,Result.andThen_ok,List.map_toArray,List.map_cons,List.map_nil,e1]
   rw[hrun]
   rfl
  rw[hexec]
  have hrest:((cs.drop (n*i.size+news.length))).length=(c-(n+q))*i.size:=by
   rw[List.length_drop,hcs,hnl,←Nat.add_mul,←Nat.sub_mul]
  refine⟨⟨N,(t,.o t (n+q) c)::gK k tm,(t,e,pre++ys++cs.drop (n*i.size+news.length))::fX k bx⟩,fun l=>if l=t then β k else β l,⟨c,_,hroom,hcm,hrest,rfl⟩,rfl,?_⟩
  have hren:=hrel.ren (k:=k) (d:=t) (htn t rfl) hkn hd
  have hstore:=hren.store (k:=t) (U:=e) (cs0:=cs) (cs:=pre++ys++cs.drop (n*i.size+news.length)) (vs:=(vs.toList.take (n*i.size)++news++vs.toList.drop (n*i.size+news.length)).toArray)
   (w':=w.setRow (β k) (vs.toList.take (n*i.size)++news++vs.toList.drop (n*i.size+news.length)).toArray) (by rw[if_pos rfl];exact hb) (by rw[if_pos rfl];exact ew ev) rfl rfl rfl ?_
  ·have hval:=hstore.value (d:=some t) (x:=.o t (n+q) c) (v:=.slice (some ⟨β k,0,none⟩) (n+q) c) (by intro s hs;injection hs with hs;subst hs;exact ht) (Below.refl _ _) (by show _=Value.slice (some ⟨if t=t then β k else β t,0,none⟩) _ _;rw[if_pos rfl]) (by intro l hl;injection hl with hl;subst hl;rw[if_pos rfl];simp)
   refine hval.congr (fun s=>?_) (fun l=>?_)
   ·rw[DZ];rfl
   ·rw[Dt]
    show(if some t=some l then _ else _)=(if t=l then _ else if l=t then _ else _)
    by_cases e:t=l
    ·rw[if_pos (by rw[e]),if_pos e]
    ·rw[if_neg (show ¬some t=some l by simpa using e),if_neg e,if_neg (Ne.symm e)];rfl
  ·have hrd:RdCs (fun b=>av b∨ ∃k,look k bx≠none∧β k=b) w (vs.toList.take (n*i.size)++news++vs.toList.drop (n*i.size+news.length)) (pre++ys++cs.drop (n*i.size+news.length)):=(hr2.append hrn).append (hr.drop _)
   refine RdCs.keep (av:=fun b=>av b∨ ∃k,look k bx≠none∧β k=b) ⟨Nat.le_refl _,fun _ _ _=>rfl,?_⟩ hrd
   rintro b _ (hb'|⟨l,hl,hb'⟩)
   ·exact .inl hb'
   ·try dsimp only at hl hb'
    by_cases e:l=t
    ·rw[if_pos e] at hb';exact .inr ⟨k,hkn,hb'⟩
    ·rw[if_neg e] at hl hb'
     by_cases e2:l=k
     ·rw[if_pos e2] at hl;exact absurd rfl hl
     ·rw[if_neg e2] at hl;exact .inr ⟨l,hl,hb'⟩
 ·--new memory
  have hgrow:c<n+q:=by omega
  have hold:(Builtin.firstCells i.size n (.slice (some ⟨β k,0,none⟩) n c)).run P w.drew=.ok (vs.toList.take (n*i.size)).toArray w.drew:=by
   have:=run_loadCells_list (P:=P) w.drew ⟨β k,0,none⟩ (vs.toList.take (n*i.size)) (fun j u hj=>by
    rw[dO,Nat.zero_add]
    show w.cell? _=_
    rw[List.getElem?_take] at hj
    split at hj
    ·rw[bq ev,←hj];simp
    ·cases hj)
   rw[hlen] at this
   exact this
  have hrun:=run_append_grow_src (P:=P) (w:=w) U U ty e i z hu hi hz (some ⟨β k,0,none⟩) n c _ hold (a.eval y) q news hsrc hgrow (by have:maxLen=9223372036854775807:=rfl;omega) (growslice_fits hgrow (by rw[hby];exact hbytes))
  generalize hcap:grownCap w (n+q) c e=c' at hrun
  have hc1:n+q≤c':=by rw[←hcap];exact grownCap_ge _ _ _ _
  have hc2:c'≤maxLen:=by rw[←hcap];exact grownCap_le_maxLen _ _ _ _ h63
  have hexec:(execOp a.eval ⟨some t,.call ⟨.builtin .append,#[x,y],#[U,U]⟩,ty,pos,af,g⟩).run P w=.ok (.value (.slice (some ⟨w.heap.size,0,none⟩) (n+q) c'))
   (w.drew.alloc (.cells ((vs.toList.take (n*i.size)++news).toArray++Builtin.zeroCells z.cells (c'-(n+q))) e)):=by
   simp only[execOp,resolve,invoke,builtin,Sem.run_bind,Sem.run_pure,Result.andThen_ok,List.map_toArray,List.map_cons,List.map_nil,e1]
   rw[hrun]
   rfl
  rw[hexec]
  have hdr:=(hrel.drop k).drew
  obtain⟨rest,hrl,hrz⟩:=E1 hzl hzr (c'-(n+q))
  have hrd:RdCs (fun b=>av b∨ ∃l,(if l=k then none else look l bx)≠none∧β l=b) w.drew ((vs.toList.take (n*i.size)++news).toArray++Builtin.zeroCells z.cells (c'-(n+q))).toList (pre++ys++rest):=by
   have h0:RdCs (fun b=>av b∨ ∃k,look k bx≠none∧β k=b) w (vs.toList.take (n*i.size)++news) (pre++ys):=hr2.append hrn
   have h1:=RdCs.append (RdCs.keep (av:=fun b=>av b∨ ∃k,look k bx≠none∧β k=b) (w:=w) (av':=fun b=>av b∨ ∃l,(if l=k then none else look l bx)≠none∧β l=b) (w':=w.drew) ⟨Nat.le_refl _,fun _ _ _=>rfl,fun b _ hb'=>hb'.imp id fun⟨l,hl,e⟩=>⟨l,fun h0=>by rw[h0] at hl;exact hl (by split<;>rfl),e⟩⟩ h0) (hrz (fun b=>av b∨ ∃l,(if l=k then none else look l bx)≠none∧β l=b) w.drew)
   simpa using h1
  have hbox:=hdr.box (d:=t) ht (by
   show(if t=k then none else look t bx)=none
   rcases hd with hd|hd
   ·rw[if_pos hd]
   ·rw[hd];split<;>rfl) (U:=e) (sl:=some c') hrd
  refine⟨⟨N,(t,.o t (n+q) c')::gK k tm,(t,e,pre++ys++rest)::fX k bx⟩,fun l=>if l=t then w.drew.heap.size else β l,⟨c',_,hc1,hc2,hrl,rfl⟩,rfl,?_⟩
  have hval:=hbox.value (d:=some t) (x:=.o t (n+q) c') (v:=.slice (some ⟨w.heap.size,0,none⟩) (n+q) c') (by intro s hs;injection hs with hs;subst hs;exact ht) (Below.refl _ _) (by show _=Value.slice (some ⟨if t=t then w.drew.heap.size else β t,0,none⟩) _ _;rw[if_pos rfl];rfl) (by intro l hl;injection hl with hl;subst hl;rw[if_pos rfl];simp)
  rw[vg] at hval
  refine hval.congr (fun s=>?_) (fun l=>?_)
  ·rw[DZ]
   show(if some t=some s then _ else _)=(if some t=some s then _ else if some t=some s then _ else jj k _ s)
   by_cases e:some t=some s
   ·rw[if_pos e,if_pos e]
   ·rw[if_neg e,if_neg e,if_neg e];rfl
  ·rw[Dt];rfl
theorem qa {t:Nat}{x y:Operand}{U e:TypeId}{ty:TypeId}{pos:String}{af:Array Edge}{g:Option (Nat×Bool)}{n c q m by_ k:Nat}{cs ys zs pre:List CellD}
 (hU:nd P U=some (e,m,by_,zs)) (hx:cq (fun s=>look s tm) x=some (.o k n c)) (hy:cq (fun s=>look s tm) y=some (.v (.c (.s q ys)))) (hb:look k bx=some (e,cs)) (hcs:cs.length=c*m) (hys:ys.length=q*m) (hm:0<m)
 (hnc:n≤c) (hcm:c≤maxLen) (hbytes:(n+q)*by_≤140737488355328) (h63:n+q≤maxLen) (hpre:cs.take (n*m)=pre) (hd:t=k∨look t bx=none)
 (hg:gd ops ⟨some t,.call ⟨.builtin .append,#[x,y],#[U,U]⟩,ty,pos,af,g⟩ (fun s=>look s tm)=some true):
 Gc P ops ⟨some t,.call ⟨.builtin .append,#[x,y],#[U,U]⟩,ty,pos,af,g⟩ ⟨N,tm,bx⟩ (fun σ'=> ∃c' rest,n+q≤c'∧c'≤maxLen∧rest.length=(c'-(n+q))*m∧σ'=⟨N,(t,.o t (n+q) c')::gK k tm,(t,e,pre++ys++rest)::fX k bx⟩):=by
 exact uL hU hx (fun V β a w hs=>⟨V,aG hs (x:=y) (by simp[Op.operands,Call.operands]) hy,fun _ h=>h⟩) hb hcs hys hm hnc hcm hbytes h63 hpre hd hg
theorem vF {t:Nat}{x y:Operand}{U e:TypeId}{ty:TypeId}{pos:String}{af:Array Edge}{g:Option (Nat×Bool)}{q m by_:Nat}{ys zs:List CellD}
 (hU:nd P U=some (e,m,by_,zs)) (hx:cq (fun s=>look s tm) x=some .z) (hy:cq (fun s=>look s tm) y=some (.v (.c (.s q ys)))) (hys:ys.length=q*m) (hq:0<q)
 (hbytes:q*by_≤140737488355328) (h63:q≤maxLen) (hd:look t bx=none)
 (hg:gd ops ⟨some t,.call ⟨.builtin .append,#[x,y],#[U,U]⟩,ty,pos,af,g⟩ (fun s=>look s tm)=some true):
 Gc P ops ⟨some t,.call ⟨.builtin .append,#[x,y],#[U,U]⟩,ty,pos,af,g⟩ ⟨N,tm,bx⟩ (fun σ'=> ∃c' rest,q≤c'∧c'≤maxLen∧rest.length=(c'-q)*m∧σ'=⟨N,(t,.o t q c')::tm,(t,e,ys++rest)::bx⟩):=by
 intro av w0 β a w hrel htn
 have hs:=Sees.of hrel.sees (L:=dg ops ⟨some t,.call ⟨.builtin .append,#[x,y],#[U,U]⟩,ty,pos,af,g⟩) (fun _ _=>trivial) (fun _ _ _ h=>h) (fun _ _ h=>h)
 refine⟨dY hs hg,?_⟩
 have e1:a.eval x=.slice none 0 0:=aG hs (x:=x) (by simp[Op.operands,Call.operands]) hx
 have h2:=aG hs (x:=y) (by simp[Op.operands,Call.operands]) hy
 obtain⟨news,hsrc,hrn⟩:=mr hU h2 hys
 obtain⟨hu,i,z,hi,hz,hsz,hby,hzl,hzr⟩:=fw hU
 subst hsz
 have ht:t<N:=htn t rfl
 unfold Gives
 have hold:(Builtin.firstCells i.size 0 (.slice none 0 0)).run P w.drew=.ok ([]:List Value).toArray w.drew:=rfl
 have hgrow:0<0+q:=by omega
 have hrun:=run_append_grow_src (P:=P) (w:=w) U U ty e i z hu hi hz none 0 0 _ hold (a.eval y) q news hsrc hgrow (by have:maxLen=9223372036854775807:=rfl;omega) (growslice_fits hgrow (by rw[hby,Nat.zero_add];exact hbytes))
 rw[Nat.zero_add] at hrun
 generalize hcap:grownCap w q 0 e=c' at hrun
 have hc1:q≤c':=by rw[←hcap];exact grownCap_ge _ _ _ _
 have hc2:c'≤maxLen:=by rw[←hcap];exact grownCap_le_maxLen _ _ _ _ h63
 have hexec:(execOp a.eval ⟨some t,.call ⟨.builtin .append,#[x,y],#[U,U]⟩,ty,pos,af,g⟩).run P w=.ok (.value (.slice (some ⟨w.heap.size,0,none⟩) q c'))
  (w.drew.alloc (.cells (([]++news).toArray++Builtin.zeroCells z.cells (c'-q)) e)):=by
  simp only[execOp,resolve,invoke,builtin,Sem.run_bind,Sem.run_pure,Result.andThen_ok,List.map_toArray,List.map_cons,List.map_nil,e1]
  rw[hrun]
  rfl
 rw[hexec]
 obtain⟨rest,hrl,hrz⟩:=E1 hzl hzr (c'-q)
 have hrd:RdCs (fun b=>av b∨ ∃k,look k bx≠none∧β k=b) w.drew (([]++news).toArray++Builtin.zeroCells z.cells (c'-q)).toList (ys++rest):=by
  have h1:RdCs (fun b=>av b∨ ∃k,look k bx≠none∧β k=b) w.drew (news++(Builtin.zeroCells z.cells (c'-q)).toList) (ys++rest):=RdCs.append (RdCs.keep (Keep.below (Below.refl _ w).drew) hrn) (hrz (fun b=>av b∨ ∃k,look k bx≠none∧β k=b) w.drew)
  simpa using h1
 have hbox:=hrel.drew.box (d:=t) ht hd (U:=e) (sl:=some c') hrd
 refine⟨⟨N,(t,.o t q c')::tm,(t,e,ys++rest)::bx⟩,fun l=>if l=t then w.drew.heap.size else β l,⟨c',_,hc1,hc2,hrl,rfl⟩,rfl,?_⟩
 have hval:=hbox.value (d:=some t) (x:=.o t q c') (v:=.slice (some ⟨w.heap.size,0,none⟩) q c') (by intro s hs;injection hs with hs;subst hs;exact ht) (Below.refl _ _) (by show _=Value.slice (some ⟨if t=t then w.drew.heap.size else β t,0,none⟩) _ _;rw[if_pos rfl];rfl) (by intro l hl;injection hl with hl;subst hl;rw[if_pos rfl];simp)
 rw[vg] at hval
 refine hval.congr (fun s=>?_) (fun l=>?_)
 ·show look s ((t,DV.o t q c')::tm)=(if some t=some s then _ else if some t=some s then _ else look s tm)
  rw[bi]
  by_cases e:t=s
  ·rw[if_pos e,if_pos (by rw[e])]
  ·rw[if_neg e,if_neg (show ¬some t=some s by simpa using e),if_neg (show ¬some t=some s by simpa using e)]
 ·show look l ((t,e,ys++rest)::bx)=(if some t=some l then _ else look l bx)
  rw[bi]
  by_cases e:t=l
  ·rw[if_pos e,if_pos (by rw[e])]
  ·rw[if_neg e,if_neg (show ¬some t=some l by simpa using e)]
variable {os:List Oper}{K:St→Prop}
theorem vL {t:Nat}{x y:Operand}{U e:TypeId}{ty:TypeId}{pos:String}{af:Array Edge}{g:Option (Nat×Bool)}{n c q m by_ k:Nat}{us rest ys zs:List CellD}
 (hU:nd P U=some (e,m,by_,zs)) (hx:cq (fun s=>look s tm) x=some (.o k n c)) (hy:cq (fun s=>look s tm) y=some (.v (.c (.s q ys)))) (hb:look k bx=some (e,us++rest)) (hus:us.length=n*m) (hr:rest.length=(c-n)*m)
 (hys:ys.length=q*m) (hm:0<m) (hnc:n≤c) (hcm:c≤maxLen) (hbytes:(n+q)*by_≤140737488355328) (h63:n+q≤maxLen) (hd:t=k∨look t bx=none)
 (hg:gd ops ⟨some t,.call ⟨.builtin .append,#[x,y],#[U,U]⟩,ty,pos,af,g⟩ (fun s=>look s tm)=some true)
 (hk: ∀c' rest',n+q≤c'→c'≤maxLen→rest'.length=(c'-(n+q))*m→dl P ops os ⟨N,(t,.o t (n+q) c')::gK k tm,(t,e,us++ys++rest')::fX k bx⟩ K):
 dl P ops (⟨some t,.call ⟨.builtin .append,#[x,y],#[U,U]⟩,ty,pos,af,g⟩::os) ⟨N,tm,bx⟩ K:=
 .inr ⟨_,qa (pre:=us) hU hx hy hb (by rw[List.length_append,hus,hr,←Nat.add_mul];congr 1;omega) hys hm hnc hcm hbytes h63 (by rw[←hus];simp) hd hg,fun σ' ⟨c',rest',h1,h2,h3,e⟩=>by subst e;exact hk c' rest' h1 h2 h3⟩
theorem rS {t:Nat}{x y:Operand}{U e:TypeId}{ty:TypeId}{pos:String}{af:Array Edge}{g:Option (Nat×Bool)}{q m by_:Nat}{ys zs:List CellD}
 (hU:nd P U=some (e,m,by_,zs)) (hx:cq (fun s=>look s tm) x=some .z) (hy:cq (fun s=>look s tm) y=some (.v (.c (.s q ys)))) (hys:ys.length=q*m) (hq:0<q)
 (hbytes:q*by_≤140737488355328) (h63:q≤maxLen) (hd:look t bx=none)
 (hg:gd ops ⟨some t,.call ⟨.builtin .append,#[x,y],#[U,U]⟩,ty,pos,af,g⟩ (fun s=>look s tm)=some true)
 (hk: ∀c' rest',q≤c'→c'≤maxLen→rest'.length=(c'-q)*m→dl P ops os ⟨N,(t,.o t q c')::tm,(t,e,ys++rest')::bx⟩ K):
 dl P ops (⟨some t,.call ⟨.builtin .append,#[x,y],#[U,U]⟩,ty,pos,af,g⟩::os) ⟨N,tm,bx⟩ K:=
 .inr ⟨_,vF hU hx hy hys hq hbytes h63 hd hg,fun σ' ⟨c',rest',h1,h2,h3,e⟩=>by subst e;exact hk c' rest' h1 h2 h3⟩
theorem kY {T:TF}{B:BF}{dst:Option Nat}{ty:TypeId}{pos:String}{af:Array Edge}{g:Option (Nat×Bool)}
 (hg:gd ops ⟨dst,.assign (.const (.slice none 0 0)),ty,pos,af,g⟩ T=some true):Sem P ops ⟨dst,.assign (.const (.slice none 0 0)),ty,pos,af,g⟩ T B (.r .z):=
 bG hg (fun k e=>by cases e) (fun V β a w hs=>⟨.slice none 0 0,rfl,rfl⟩)
theorem Dd {c:Code}{Q:Exit→St→Prop}{t:Nat}(ht:look t tm=some .z) (h:Dw P c ⟨N,(t,.v (.c (.s 0 [])))::tm,bx⟩ Q):Dw P c ⟨N,tm,bx⟩ Q:=fun av w0 β a w hr=>by
 obtain⟨v,hv,hx⟩:=hr.sees.tmp t _ trivial ht
 have hx:v=.slice none 0 0:=hx
 subst hx
 have h2:=hr.upd (t:=t) (x:=.v (.c (.s 0 []))) hv (.s0 _ _ (by decide)) rfl
 refine h av w0 β a w (h2.congr (fun s=>?_) (fun _=>rfl))
 show look s ((t,.v (.c (.s 0 [])))::tm)=_
 rw[bi];rfl
theorem EN {ι:Type}{c:Code}{σ:St}{Q:Exit→St→Prop}(I:ι→St) (μ:ι→Nat) (M:Nat)
 (first:Dw P c σ (wR (fun σ'=> ∃j,Sub σ' (I j)∧μ j<M) Q)) (round: ∀i,Dw P c (I i) (wR (fun σ'=> ∃j,Sub σ' (I j)∧μ j<μ i) Q)):Dw P (.loop c) σ Q:=fun av w0 β a w hr=>by
 refine cz (ι:=Option ι) (fun i=>match i with|none=>σ|some i=>I i) (fun i=>match i with|none=>M|some i=>μ i) none ⟨rfl,fun _ _ h=>h,fun _ _ h=>h,hr.wf⟩ (fun i=>?_) av w0 β a w hr
 cases i with
 |none=>
  refine first.mono fun e σ' h=>?_
  cases e with
  |normal=>obtain⟨j,h1,h2⟩:=h;exact⟨some j,h1,h2⟩
  |_=>exact h
 |some i=>
  refine(round i).mono fun e σ' h=>?_
  cases e with
  |normal=>obtain⟨j,h1,h2⟩:=h;exact⟨some j,h1,h2⟩
  |_=>exact h
theorem ss {us rest:List CellD}{n c m:Nat}(h:us.length=n*m) (hr:rest.length=(c-n)*m) (hn:n≤c):(us++rest).length=c*m:=by
 rw[List.length_append,h,hr,←Nat.add_mul];congr 1;omega
theorem nP {us rest:List CellD}{n m:Nat}(h:us.length=n*m):(us++rest).take (n*m)=us:=by rw[←h];simp
theorem oJ {n:Nat}(h:n≤1000000):n≤maxLen:=Nat.le_trans h (by decide)
end
structure Pt where
 a1:Rat
 b1:Rat
 a2:Rat
 b2:Rat
 c:Rat
structure Ln where
 a:Rat
 b:Rat
 c:Rat
structure Ci where
 x:Rat
 y:Rat
 q:Rat
inductive Cv where
 |seg (l:Ln) (p q:Pt)
 |arc (k:Ci) (w:Bool) (p q:Pt)
def GF:List CellD:=[.b false,.s 0 [],.b false,.s 0 []]
def d8:List CellD:=GF++GF++GF
def aA (p:Pt):List CellD:=cR p.a1++cR p.b1++cR p.a2++cR p.b2++cR p.c
def eK (l:Ln):List CellD:=cR l.a++cR l.b++cR l.c
def dc (k:Ci):List CellD:=cR k.x++cR k.y++cR k.q
def bk:Cv→List CellD
 | .seg l p q=>[.b false]++eK l++d8++[.b false]++aA p++aA q
 | .arc k w p q=>[.b true]++d8++dc k++[.b w]++aA p++aA q
theorem aM (p:Pt):(aA p).length=20:=rfl
theorem aY (c:Cv):(bk c).length=66:=by cases c<;>rfl
section
variable {α:Type}
def bc (enc:α→List CellD):List α→List CellD
 |[]=>[]
 |x::l=>enc x++bc enc l
variable {enc:α→List CellD}{m:Nat}
theorem aX (h: ∀x,(enc x).length=m): ∀l:List α,(bc enc l).length=l.length*m
 |[]=>by simp[bc]
 |x::l=>by
  show(enc x++bc enc l).length=(l.length+1)*m
  rw[List.length_append,h,aX h l,Nat.add_mul];omega
theorem iA: ∀l r:List α,bc enc (l++r)=bc enc l++bc enc r
 |[],r=>rfl
 |x::l,r=>by
  show enc x++bc enc (l++r)=enc x++bc enc l++bc enc r
  rw[iA l r,List.append_assoc]
theorem oA (x:α):bc enc [x]=enc x:=List.append_nil _
theorem kn (h: ∀x,(enc x).length=m) (l:List α) (j:Nat):(bc enc l).drop (j*m)=bc enc (l.drop j):=by
 by_cases hj:j≤l.length
 ·have e:bc enc l=bc enc (l.take j)++bc enc (l.drop j):=by rw[←iA,List.take_append_drop]
  have hl:(bc enc (l.take j)).length=j*m:=by rw[aX h,List.length_take,Nat.min_eq_left hj]
  rw[e,←hl,List.drop_left]
 ·rw[List.drop_eq_nil_of_le (by rw[aX h];exact Nat.mul_le_mul_right _ (by omega)),List.drop_eq_nil_of_le (by omega)];rfl
theorem mP (h: ∀x,(enc x).length=m) (l:List α) (j:Nat):(bc enc l).take (j*m)=bc enc (l.take j):=by
 by_cases hj:j≤l.length
 ·have e:bc enc l=bc enc (l.take j)++bc enc (l.drop j):=by rw[←iA,List.take_append_drop]
  have hl:(bc enc (l.take j)).length=j*m:=by rw[aX h,List.length_take,Nat.min_eq_left hj]
  rw[e,←hl,List.take_left]
 ·rw[List.take_of_length_le (by rw[aX h];exact Nat.mul_le_mul_right _ (by omega)),List.take_of_length_le (by omega)]
theorem ce (h: ∀x,(enc x).length=m) {l:List α}{j:Nat}{x:α}(hj:l[j]? =some x):(bc enc l).drop (j*m)=enc x++bc enc (l.drop (j+1)):=by
 obtain⟨h1,h2⟩:=List.getElem?_eq_some_iff.1 hj
 rw[kn h,List.drop_eq_getElem_cons h1,h2];rfl
theorem bR {l:List α}{j:Nat}{d:α}(h:j<l.length):l[j]? =some (l.getD j d):=by
 rw[List.getD,List.getElem?_eq_getElem h];rfl
theorem ob {l:List α}{j:Nat}{d:α}(h:j<l.length):l.take (j+1)=l.take j++[l.getD j d]:=by
 rw[List.take_add_one,List.getD,List.getElem?_eq_getElem h];rfl
theorem j9 {l:List α}{j:Nat}{d:α}(h:j<l.length):l.getD j d∈l:=by
 rw[List.getD,List.getElem?_eq_getElem h];exact List.getElem_mem h
end
def dPt:Pt:=⟨0,0,0,0,0⟩
def fq:Cv:=.seg ⟨0,0,0⟩ dPt dPt
def Cv.p:Cv→Pt
 | .seg _ p _=>p
 | .arc _ _ p _=>p
def Cv.q:Cv→Pt
 | .seg _ _ q=>q
 | .arc _ _ _ q=>q
def Cv.isArc:Cv→Bool
 | .seg ..=>false
 | .arc ..=>true
def Cv.cw:Cv→Bool
 | .seg ..=>false
 | .arc _ w _ _=>w
def Cv.ends:Cv→Pt→Pt→Cv
 | .seg l _ _,p,q=>.seg l p q
 | .arc k w _ _,p,q=>.arc k w p q
def Cv.rev:Cv→Cv
 | .seg l p q=>.seg l q p
 | .arc k w p q=>.arc k (!w) q p
def vA (l:Ln) (p:Pt):Rat:=l.a*p.a1+l.b*p.a2-l.c
def vB (l:Ln) (p:Pt):Rat:=l.a*p.b1+l.b*p.b2
def Jv (l:Ln) (p:Pt):Int:=s3 (vA l p) (rB (vB l p) p.c) (rC (vB l p) p.c)
def Pw (k:Ci) (p:Pt):Rat:=KP (p.a1-k.x) (p.a2-k.y) p.b1 p.b2 p.c+ -k.q
def H8 (k:Ci) (p:Pt):Rat:=L6 (p.a1-k.x) (p.a2-k.y) p.b1 p.b2
def OE (k:Ci) (p:Pt):Int:= -s3 (Pw k p) (H8 k p) (zc (H8 k p) p.c)
def Cv.supp:Cv→Pt→Bool
 | .seg l _ _,p=>Jv l p==0
 | .arc k _ _ _,p=>OE k p==0
def PJ (p:Pt) (v:Rat):Int:=cU (p.a1-v) p.b1 (zc p.b1 p.c)
def Kf (p:Pt) (v:Rat):Int:=cU (p.a2-v) p.b2 (zc p.b2 p.c)
def nB (k:Ci) (p:Pt):Bool:=decide (Kf p k.y>0)||(Kf p k.y==0&&decide (PJ p k.x>0))
def cx (p q:Pt):Int:=oW p.a1 p.b1 p.c q.a1 q.b1 q.c
def cy (p q:Pt):Int:=oW p.a2 p.b2 p.c q.a2 q.b2 q.c
def cP (p q:Pt):Int:=nl p.a1 p.b1 p.a2 p.b2 p.c q.a1 q.b1 q.a2 q.b2 q.c
def eN (k:Ci) (p q:Pt):Int:=if nB k p !=nB k q then(if nB k q then-1 else 1) else if nB k p then-cx p q else cx p q
def F5 (k:Ci) (f p q:Pt):Int:=if decide (eN k p f<0) !=decide (eN k q f<0) then(if decide (eN k q f<0) then-1 else 1) else eN k p q
def Pt.flip (p:Pt):Pt:=⟨-p.a1,-p.b1,p.a2,p.b2,p.c⟩
def Ci.mir (k:Ci):Ci:=⟨-k.x,k.y,k.q⟩
def Cv.ord:Cv→Pt→Pt→Int
 | .seg _ f t,p,q=>if decide (cP f t>0) then-cP p q else cP p q
 | .arc k w f _,p,q=>if !w then F5 k f p q else F5 k.mir f.flip p.flip q.flip
def Cv.on (c:Cv) (p:Pt):Bool:=c.supp p&&decide (c.ord c.p p≤0)&&decide (c.ord p c.q≤0)
def jK (c:Cv) (x:Pt):List Pt→Nat
 |[]=>0
 |o::l=>if c.ord o x<0 then jK c x l+1 else 0
def iH (c:Cv) (out:List Pt) (x:Pt):List Pt:=
 if jK c x out<out.length∧cP (out.getD (jK c x out) dPt) x=0 then out else out.take (jK c x out)++x::out.drop (jK c x out)
def bJ (c:Cv) (l:List Pt):List Pt:=l.foldl (iH c) []
def iI (c:Cv):List Pt→List Cv
 |p::q::l=>c.ends p q::iI c (q::l)
 |_=>[]
def pG (c:Cv) (l:List Pt):List Cv:=iI c (bJ c ([c.p,c.q]++l))
def si (x y:Rat):Bool:=bd x y==0
def fg:Cv→Cv→Bool
 | .seg l _ _,.seg m _ _=>si (l.a*m.b) (l.b*m.a)&&si (l.a*m.c) (l.c*m.a)&&si (l.b*m.c) (l.c*m.b)
 | .arc k _ _ _,.arc d _ _ _=>si k.x d.x&&si k.y d.y&&si k.q d.q
 |_,_=>false
def l7 (a1 b1 a2 b2 c:Rat):Pt:=if iX c then⟨a1+b1*rt c,0,a2+b2*rt c,0,0⟩ else⟨a1,b1,a2,b2,c⟩
def kO (l m:Ln):Rat:=l.a*m.b-m.a*l.b
def G9 (l m:Ln):Rat:=l.c*m.b-m.c*l.b
def I1 (l m:Ln):Rat:=l.a*m.c-m.a*l.c
def gg (l m:Ln):List Pt:=if bd (kO l m) 0≠0 then[⟨G9 l m/kO l m,0,I1 l m/kO l m,0,0⟩] else[]
def jP (l m:Ln):Int:=if bd (kO l m) 0≠0 then 0 else if bd (G9 l m) 0=0∧bd (I1 l m) 0=0 then 10 else 0
def fZ (l:Ln):Rat:=l.a*l.a+l.b*l.b
def ll (l:Ln) (x y:Rat):Rat:=l.a*x+l.b*y-l.c
def kE (l:Ln) (k:Ci):Rat:=fZ l*k.q-ll l k.x k.y*ll l k.x k.y
def wJ (l:Ln) (k:Ci):Rat:=k.x-ll l k.x k.y/fZ l*l.a
def xm (l:Ln) (k:Ci):Rat:=k.y-ll l k.x k.y/fZ l*l.b
def GD (l:Ln) (k:Ci):Pt:=l7 (wJ l k) (-(l.b/fZ l)) (xm l k) (-(-l.a/fZ l)) (kE l k)
def GE (l:Ln) (k:Ci):Pt:=l7 (wJ l k) (l.b/fZ l) (xm l k) (-l.a/fZ l) (kE l k)
def fD (l:Ln) (k:Ci):List Pt:=
 if bd (kE l k) 0<0 then[] else if bd (kE l k) 0=0 then[⟨wJ l k,0,xm l k,0,0⟩]
 else if cP (GD l k) (GE l k)>0 then[GE l k,GD l k] else[GD l k,GE l k]
def pC (k d:Ci):Bool:=si k.x d.x&&si k.y d.y
def F4 (k:Ci):Rat:=k.x*k.x+k.y*k.y-k.q
def Ic (k d:Ci):Ln:=⟨2*(d.x-k.x),2*(d.y-k.y),F4 d-F4 k⟩
def jZ (k d:Ci):List Pt:=if pC k d then[] else fD (Ic k d) k
def pV (k d:Ci):Int:=if pC k d then(if bd k.q d.q=0 then 10 else 0) else 0
def jf:Cv→Cv→List Pt
 | .arc k _ _ _,.arc d _ _ _=>jZ k d
 | .arc k _ _ _,.seg l _ _=>fD l k
 | .seg l _ _,.arc k _ _ _=>fD l k
 | .seg l _ _,.seg m _ _=>gg l m
def yd:Cv→Cv→Int
 | .arc k _ _ _,.arc d _ _ _=>pV k d
 | .seg l _ _,.seg m _ _=>jP l m
 |_,_=>0
theorem l6 (c:Cv):(bk c)[0]? =some (.b c.isArc):=by cases c<;>rfl
theorem A5 (c:Cv):(bk c)[25]? =some (.b c.cw):=by cases c<;>rfl
theorem r9 (c:Cv):((bk c).drop 26).take 20=aA c.p:=by cases c<;>rfl
theorem sA (c:Cv):((bk c).drop 46).take 20=aA c.q:=by cases c<;>rfl
theorem ct (c:Cv):List.take 66 (List.drop 0 (bk c))=bk c:=by rw[List.drop_zero,←aY c];exact List.take_length
theorem KD {m:Nat}{zs xs:List CellD}(hz:zs.length=m) (hx:xs.length=m):nj (fun i=>some (i*m,m)) (List.replicate 1 zs).flatten [(0,.a xs)]=some xs:=by
 subst hz
 simp[nj,D0.cells,hx]
theorem ot {m:Nat}{xs:List CellD}(hx:xs.length=m):xs.length=1*m:=by omega
def Cv.setp:Cv→Pt→Cv
 | .seg l _ q,p=>.seg l p q
 | .arc k w _ q,p=>.arc k w p q
theorem ub (c:Cv) (p:Pt):(bk c).take 26++aA p++(bk c).drop 46=bk (c.setp p):=by cases c<;>rfl
theorem tY (c:Cv) (p q:Pt):(bk (c.setp p)).take 46++aA q++(bk (c.setp p)).drop 66=bk (c.ends p q):=by cases c<;>rfl
def cr (c d:Cv) (p:Pt):Bool:=c.on p&&d.on p
def aQ (c d:Cv):List Pt:=if fg c d then[c.p,c.q,d.p,d.q] else jf c d
def ck (c d:Cv):List Pt:=bJ c ((aQ c d).filter (cr c d))
def et (c d:Cv):Cv:=if (c.isArc&&d.isArc&&(c.cw !=d.cw))||(!c.isArc&&(cP c.p c.q !=cP d.p d.q)) then d.rev else d
def Bh (d:Cv) (l:List Pt):Nat→Bool
 |0=>false
 |i+1=>Bh d l i||decide (d.ord (l.getD i dPt) (l.getD (i+1) dPt)<0)
def rl (c d:Cv):Bool:=if fg c d then Bh (et c d) (ck c d) ((ck c d).length-1) else false
section
variable {c d:Cv}
theorem Qk (h:c.isArc=false) (g:(cP c.p c.q !=cP d.p d.q)=true):et c d=d.rev:=by unfold et;rw[h,g];rfl
theorem PD (h:c.isArc=false) (g:(cP c.p c.q !=cP d.p d.q)=false):et c d=d:=by unfold et;rw[h,g];rfl
theorem QF (h:c.isArc=true) (g:d.isArc=false):et c d=d:=by unfold et;rw[h,g];rfl
theorem PS (h:c.isArc=true) (g:d.isArc=true) (e:(!(c.cw==d.cw))=true):et c d=d.rev:=by unfold et;rw[h,g,show(c.cw !=d.cw)=true from e];rfl
theorem PF (h:c.isArc=true) (g:d.isArc=true) (e:(!(c.cw==d.cw))=false):et c d=d:=by unfold et;rw[h,g,show(c.cw !=d.cw)=false from e];rfl
end
structure GP (p:Pt):Prop where
 a1:Rz 113 p.a1
 b1:Rz 21 p.b1
 a2:Rz 113 p.a2
 b2:Rz 21 p.b2
 c:Rz 78 p.c
 ir:p.c≠0→Rz 52 p.a1∧Rz 52 p.a2
 v:wt p.b1 p.b2 p.c=true
structure GL (l:Ln):Prop where
 a:Rz 4 l.a
 b:Rz 4 l.b
 c:Rz 17 l.c
 n:fZ l≠0
structure GK (k:Ci):Prop where
 x:Rz 1 k.x
 y:Rz 1 k.y
 q:Rz 2 k.q
def Cv.good:Cv→Prop
 | .seg l p q=>GL l∧GP p∧GP q
 | .arc k _ p q=>GK k∧GP p∧GP q
theorem IQ {b1 b2 c:Rat}(h:wt b1 b2 c=true):wt (-b1) b2 c=true:=by
 unfold wt at*
 by_cases h1:b1=0
 ·rw[show-b1=b1 by grind];exact h
 ·rw[if_neg (by grind)] at h;rw[if_neg (by grind)];exact h
theorem GP.flip {p:Pt}(h:GP p):GP p.flip:=⟨h.a1.neg,h.b1.neg,h.a2,h.b2,h.c,fun e=>⟨(h.ir e).1.neg,(h.ir e).2⟩,IQ h.v⟩
theorem GK.mir {k:Ci}(h:GK k):GK k.mir:=⟨h.x.neg,h.y,h.q⟩
theorem GP.rat {v w:Rat}(h:Rz 113 v) (g:Rz 113 w):GP ⟨v,0,w,0,0⟩:=⟨h,Rz.zero (by decide),g,Rz.zero (by decide),Rz.zero (by decide),fun e=>absurd rfl e,by unfold wt;rw[if_pos ⟨rfl,rfl⟩];exact decide_eq_true rfl⟩
theorem GP.dPt:GP dPt:=GP.rat (Rz.zero (by decide)) (Rz.zero (by decide))
theorem GP.getD {l:List Pt}(h: ∀p∈l,GP p) (j:Nat):GP (l.getD j Go.Proofs.YtacopbfkmnpfgaaGreat.dPt):=by
 by_cases hj:j<l.length
 ·exact h _ (j9 hj)
 ·rw[List.getD,List.getElem?_eq_none (by omega)];exact GP.dPt
section
variable {c:Cv}{x:Pt}
theorem AP: ∀l:List Pt,jK c x l≤l.length
 |[]=>Nat.le_refl _
 |o::l=>by
  show(if c.ord o x<0 then jK c x l+1 else 0)≤l.length+1
  have:=AP l
  split<;>omega
theorem uP: ∀ {l:List Pt}{k:Nat},k≤l.length→(∀j,j<k→c.ord (l.getD j dPt) x<0)→(k=l.length∨ ¬c.ord (l.getD k dPt) x<0)→jK c x l=k
 |[],k,h,_,_=>by
  have:k=0:=by simpa using h
  subst this;rfl
 |o::l,k,h,h1,h2=>by
  show(if c.ord o x<0 then jK c x l+1 else 0)=k
  match k with
  |0=>
   rcases h2 with h2|h2
   ·simp at h2
   ·exact if_neg (show ¬c.ord o x<0 from h2)
  |k+1=>
   rw[if_pos (show c.ord o x<0 from h1 0 (by omega)),uP (l:=l) (k:=k) (by simpa using h) (fun j hj=>h1 (j+1) (by omega)) (h2.imp (fun e=>by simpa using e) id)]
theorem Gt {out:List Pt}{y:Pt}(h:y∈iH c out x):y∈out∨y=x:=by
 unfold iH at h
 split at h
 ·exact .inl h
 ·rcases List.mem_append.1 h with h|h
  ·exact .inl (List.mem_of_mem_take h)
  ·rcases List.mem_cons.1 h with h|h
   ·exact .inr h
   ·exact .inl (List.mem_of_mem_drop h)
theorem DQ {out:List Pt}:out.length≤(iH c out x).length∧(iH c out x).length≤out.length+1:=by
 unfold iH
 split
 ·omega
 ·rw[List.length_append,List.length_cons,List.length_take,List.length_drop]
  omega
end
theorem ym {c:Cv}: ∀(l out:List Pt) {y:Pt},y∈l.foldl (iH c) out→y∈out∨y∈l
 |[],out,y,h=>.inl h
 |x::l,out,y,h=>by
  rcases ym l (iH c out x) h with h|h
  ·exact(Gt h).imp id fun e=>by rw[e];exact List.mem_cons_self
  ·exact .inr (List.mem_cons_of_mem _ h)
theorem mJ {c:Cv}{l:List Pt}{y:Pt}(h:y∈bJ c l):y∈l:=(ym l [] h).elim (fun e=>by cases e) id
theorem ro {c:Cv}: ∀(l out:List Pt),out.length≤(l.foldl (iH c) out).length∧(l.foldl (iH c) out).length≤out.length+l.length
 |[],out=>⟨Nat.le_refl _,Nat.le_refl _⟩
 |x::l,out=>by
  have h1:=DQ (c:=c) (x:=x) (out:=out)
  have h2:=ro (c:=c) l (iH c out x)
  show out.length≤(l.foldl (iH c) (iH c out x)).length∧(l.foldl (iH c) (iH c out x)).length≤out.length+(l.length+1)
  omega
theorem pK {c:Cv}{l:List Pt}:(bJ c l).length≤l.length:=by
 have:=(ro (c:=c) l []).2
 rw[List.length_nil,Nat.zero_add] at this
 exact this
theorem kq {c:Cv}{l:List Pt}{i:Nat}(h:i<l.length):bJ c (l.take (i+1))=iH c (bJ c (l.take i)) (l.getD i dPt):=by
 unfold bJ
 rw[ob (d:=dPt) h,List.foldl_append];rfl
theorem C4 {c:Cv}{l:List Pt}{i:Nat}(h:l.length≤i):bJ c (l.take i)=bJ c l:=by rw[List.take_of_length_le h]
theorem Jf {c:Cv}{out:List Pt}{x:Pt}{k:Nat}(hs:jK c x out=k) (h:k<out.length) (he:cP (out.getD k dPt) x=0):iH c out x=out:=by
 unfold iH;rw[hs,if_pos ⟨h,he⟩]
theorem oY {c:Cv}{out:List Pt}{x:Pt}{k:Nat}(hs:jK c x out=k) (h: ¬(k<out.length∧cP (out.getD k dPt) x=0)):iH c out x=out.take k++x::out.drop k:=by
 unfold iH;rw[hs,if_neg h]
theorem ow {out:List Pt}{x:Pt}{k:Nat}:bc aA (out.take k++x::out.drop k)=bc aA (out.take k)++aA x++bc aA (out.drop k):=by
 rw[iA]
 show _++(aA x++bc aA (out.drop k))=_
 rw[List.append_assoc]
theorem ga {out:List Pt}{x:Pt}{k:Nat}(h:k≤out.length):(out.take k++x::out.drop k).length=out.length+1:=by
 rw[List.length_append,List.length_cons,List.length_take,List.length_drop];omega
theorem i7 (c:Cv): ∀l:List Pt,(iI c l).length=l.length-1
 |[]=>rfl
 |[_]=>rfl
 |p::q::l=>by
  show(iI c (q::l)).length+1=l.length+1+1-1
  rw[i7 c (q::l)]
  show l.length+1-1+1=_
  omega
theorem o6 (c:Cv): ∀ {l:List Pt}{i:Nat},i+1<l.length→iI c (l.take (i+2))=iI c (l.take (i+1))++[c.ends (l.getD i dPt) (l.getD (i+1) dPt)]
 |p::q::l,0,_=>rfl
 |p::q::l,i+1,h=>by
  show c.ends p q::iI c ((q::l).take (i+2))=c.ends p q::iI c ((q::l).take (i+1))++_
  rw[o6 c (l:=q::l) (i:=i) (by simpa using h)];rfl
 |[_],i,h=>by simp at h
 |[],i,h=>by simp at h
theorem CF (c:Cv) {l:List Pt}:iI c (l.take 1)=[]:=by
 match l with
 |[]=>rfl
 |p::l=>rfl
theorem ua {c:Cv}: ∀ {l:List Pt}{d:Cv},d∈iI c l→ ∃p q,p∈l∧q∈l∧d=c.ends p q
 |p::q::l,d,h=>by
  rcases List.mem_cons.1 (show d∈c.ends p q::iI c (q::l) from h) with h|h
  ·exact⟨p,q,List.mem_cons_self,List.mem_cons_of_mem _ List.mem_cons_self,h⟩
  ·obtain⟨p',q',h1,h2,h3⟩:=ua h
   exact⟨p',q',List.mem_cons_of_mem _ h1,List.mem_cons_of_mem _ h2,h3⟩
 |[_],d,h=>by cases h
 |[],d,h=>by cases h
theorem pf {c:Cv}(h:c.good):GP c.p:=by cases c<;>exact h.2.1
theorem pj {c:Cv}(h:c.good):GP c.q:=by cases c<;>exact h.2.2
theorem Cl {c:Cv}(h:c.good) {p q:Pt}(hp:GP p) (hq:GP q):(c.ends p q).good:=by cases c<;>exact⟨h.1,hp,hq⟩
theorem Ey {c:Cv}(h:c.good):c.rev.good:=by cases c<;>exact⟨h.1,h.2.2,h.2.1⟩
theorem lK (A B C D M N:Rat): -1≤iu A B C D M N∧iu A B C D M N≤1:=by
 unfold iu
 split
 ·decide
 ·exact Bf (fN _ _ _) (gC (fN _ _ _) (eF _ _)) (fN _ _ _)
theorem M5 (a b c:Rat): -1≤s3 a b c∧s3 a b c≤1:=by
 unfold s3
 have h1:=eF a 0
 have h2:=eF b 0
 split
 ·exact h1
 ·split
  ·exact h2
  ·split
   ·exact h1
   ·exact h2
theorem Pe (p q:Pt): -1≤cx p q∧cx p q≤1:=lK _ _ _ _ _ _
theorem OA (p q:Pt): -1≤cP p q∧cP p q≤1:=by
 unfold cP nl
 split
 ·exact lK _ _ _ _ _ _
 ·exact lK _ _ _ _ _ _
theorem OK {k:Nat}{b c:Rat}(h:Rz k b) (hk:1≤k):Rz k (rB b c):=by
 unfold rB
 split
 ·exact Rz.zero hk
 ·exact h
theorem Pg {k:Nat}{b c:Rat}(h:Rz k c) (hk:1≤k):Rz k (rC b c):=by
 unfold rC
 split
 ·exact Rz.zero hk
 ·exact h
theorem ij {x:Int}(h: -1000000000<x) (h':x<1000000000):Sz 1 x:=by
 have e:pw 1=1000000000:=by decide+kernel
 exact⟨by omega,by omega⟩
theorem rk {n:Int}(h: -1≤n∧n≤1):IntKind.i64.wrap (0-n)= -n:=by rw[Int.zero_sub];exact l9 (by omega) (by omega)
theorem Qr {p q:Pt}(h:(cx p q !=0)=true):cP p q=cx p q:=Il h
theorem Qe {p q:Pt}(h:(cx p q !=0)=false):cP p q=cy p q:=G4 h
theorem M1 {k:Ci}{p:Pt}(h:decide (Kf p k.y>0)=true):nB k p=true:=by unfold nB;rw[h];rfl
theorem K9 {k:Ci}{p:Pt}(h:decide (Kf p k.y>0)=false) (g:(Kf p k.y==0)=false):nB k p=false:=by unfold nB;rw[h,g];rfl
theorem Lw {k:Ci}{p:Pt}(h:decide (Kf p k.y>0)=false) (g:(Kf p k.y==0)=true):nB k p=decide (PJ p k.x>0):=by unfold nB;rw[h,g];rfl
theorem HI {k:Ci}{p q:Pt}(h:(!(nB k p==nB k q))=true) (g:nB k q=true):eN k p q= -1:=by
 unfold eN;rw[show(nB k p !=nB k q)=true from h,if_pos rfl,g,if_pos rfl]
theorem ES {k:Ci}{p q:Pt}(h:(!(nB k p==nB k q))=true) (g:nB k q=false):eN k p q=1:=by
 unfold eN;rw[show(nB k p !=nB k q)=true from h,if_pos rfl,g];rfl
theorem Ep {k:Ci}{p q:Pt}(h:(!(nB k p==nB k q))=false) (g:nB k p=true):eN k p q= -cx p q:=by
 unfold eN;rw[show(nB k p !=nB k q)=false from h,if_neg (by decide),g,if_pos rfl]
theorem FA {k:Ci}{p q:Pt}(h:(!(nB k p==nB k q))=false) (g:nB k p=false):eN k p q=cx p q:=by
 unfold eN;rw[show(nB k p !=nB k q)=false from h,if_neg (by decide),g];rfl
theorem NZ {k:Ci}{f p q:Pt}(h:(!(decide (eN k p f<0)==decide (eN k q f<0)))=true) (g:decide (eN k q f<0)=true):F5 k f p q= -1:=by
 unfold F5;rw[show(decide (eN k p f<0) !=decide (eN k q f<0))=true from h,if_pos rfl,g,if_pos rfl]
theorem Mr {k:Ci}{f p q:Pt}(h:(!(decide (eN k p f<0)==decide (eN k q f<0)))=true) (g:decide (eN k q f<0)=false):F5 k f p q=1:=by
 unfold F5;rw[show(decide (eN k p f<0) !=decide (eN k q f<0))=true from h,if_pos rfl,g];rfl
theorem Ns {k:Ci}{f p q:Pt}(h:(!(decide (eN k p f<0)==decide (eN k q f<0)))=false):F5 k f p q=eN k p q:=by
 unfold F5;rw[show(decide (eN k p f<0) !=decide (eN k q f<0))=false from h];rfl
theorem K4 {l:Ln}{f t p q:Pt}(h:decide (cP f t>0)=true):(Cv.seg l f t).ord p q= -cP p q:=by
 show(if _ then _ else _)=_
 rw[if_pos h]
theorem LE {l:Ln}{f t p q:Pt}(h:decide (cP f t>0)=false):(Cv.seg l f t).ord p q=cP p q:=by
 show(if _ then _ else _)=_
 rw[if_neg (by rw[h];decide)]
theorem LO {k:Ci}{w:Bool}{f t p q:Pt}(h:(!w)=true):(Cv.arc k w f t).ord p q=F5 k f p q:=by
 show(if _ then _ else _)=_
 rw[if_pos h]
theorem Mh {k:Ci}{w:Bool}{f t p q:Pt}(h:(!w)=false):(Cv.arc k w f t).ord p q=F5 k.mir f.flip p.flip q.flip:=by
 show(if _ then _ else _)=_
 rw[if_neg (by rw[h];decide)]
theorem Oa {c:Cv}{p:Pt}(h:c.supp p=false):c.on p=false:=by unfold Cv.on;rw[h];rfl
theorem Kx {c:Cv}{p:Pt}(h:c.supp p=true) (g:decide (c.ord c.p p≤0)=false):c.on p=false:=by unfold Cv.on;rw[h,g];rfl
theorem JE {c:Cv}{p:Pt}(h:c.supp p=true) (g:decide (c.ord c.p p≤0)=true):c.on p=decide (c.ord p c.q≤0):=by unfold Cv.on;rw[h,g];rfl
theorem LT {p:Pt}(h:wt p.b1 p.b2 p.c=true) (hs:iX p.c=true):p.b1=0∧p.b2=0∧p.c=0:=by
 unfold wt at h
 split at h
 ·next e=>exact⟨e.1,e.2,of_decide_eq_true h⟩
 ·rw[hs] at h;simp at h
theorem Mp {l:Ln}{p:Pt}(h:wt p.b1 p.b2 p.c=true) (hs:iX p.c=true):vA l p+vB l p*rt p.c=vA l p∧0=rB (vB l p) p.c∧0=rC (vB l p) p.c:=by
 obtain⟨h1,h2,h3⟩:=LT h hs
 have hb:vB l p=0:=by unfold vB;rw[h1,h2];grind
 rw[hb]
 exact⟨by grind,(Mw (.inl rfl)).symm,(MB (.inl rfl)).symm⟩
theorem Ev {l:Ln}{p:Pt}(hl:GL l) (hp:GP p):Rz 1000 (vA l p):=(((hl.a.mul hp.a1).add (hl.b.mul hp.a2)).sub hl.c).mono (by decide)
theorem F6 {l:Ln}{p:Pt}(hl:GL l) (hp:GP p):Rz 1000 (vB l p):=((hl.a.mul hp.b1).add (hl.b.mul hp.b2)).mono (by decide)
theorem Dx {k:Ci}{p:Pt}(hk:GK k) (hp:GP p):Rz 453 (p.a1-k.x)∧Rz 453 (p.a2-k.y):=⟨(hp.a1.sub hk.x).mono (by decide),(hp.a2.sub hk.y).mono (by decide)⟩
theorem DM {k:Ci}{p:Pt}(hk:GK k) (hp:GP p):Rz 4500 (KP (p.a1-k.x) (p.a2-k.y) p.b1 p.b2 p.c):=by
 obtain⟨h1,h2⟩:=Dx hk hp
 exact((((h1.mul h1).add (h2.mul h2)).add (((hp.b1.mul hp.b1).add (hp.b2.mul hp.b2)).mul hp.c))).mono (by decide)
theorem Ly {k:Ci}{p:Pt}(hk:GK k) (hp:GP p):Rz 5000 (Pw k p):=((DM hk hp).add hk.q.neg).mono (by decide)
theorem KU {k:Ci}{p:Pt}(hk:GK k) (hp:GP p):Rz 4000 (H8 k p):=by
 obtain⟨h1,h2⟩:=Dx hk hp
 exact(((h1.mul hp.b1).add (h2.mul hp.b2)).add ((h1.mul hp.b1).add (h2.mul hp.b2))).mono (by decide)
theorem Ps (x:Rat):0≤x*x:=by
 rcases Rat.le_total (a:=0) (b:=x) with h|h
 ·exact Rat.mul_nonneg h h
 ·have:=Rat.mul_nonneg (a:= -x) (b:= -x) (by grind) (by grind);grind
theorem Kv {x:Rat}(h:x*x=0):x=0:=by
 by_cases e:x=0
 ·exact e
 ·exact absurd (Rat.mul_eq_zero.1 h) (by simp[e])
theorem J7 {x y:Rat}(h:x*x+y*y=0):x=0∧y=0:=by
 have h1:=Ps x
 have h2:=Ps y
 exact⟨Kv (by grind),Kv (by grind)⟩
theorem gB {x:Rat}:bd x 0=0↔x=0:=by
 unfold bd
 constructor
 ·intro h;split at h
  ·cases h
  ·split at h
   ·cases h
   ·grind
 ·intro h;subst h;rw[if_neg (by decide),if_neg (by decide)]
theorem tg (x:Rat):bd x x=0:=by unfold bd;rw[if_neg (by grind),if_neg (by grind)]
theorem FQ {x:Rat}(h: ¬bd x 0<0):0≤x:=by
 unfold bd at h
 split at h
 ·exact absurd (by decide:(-1:Int)<0) h
 ·grind
theorem qT {x:Rat}(h: ¬bd x 0<0) (g: ¬bd x 0=0):0<x:=by
 have h1:=FQ h
 have h2:x≠0:=fun e=>g (gB.2 e)
 grind
theorem A9 {k:Nat}{x:Int}(h:Sz (k+k) x):Sz k (bE x):=by
 have h0:=d9 x
 rcases Int.lt_or_le x 0 with hx|hx
 ·rw[ml hx]
  have:=cD k
  exact⟨by omega,by omega⟩
 ·have h1:=mE hx
  have h2:pw (k+k)=pw k*pw k:=ny k k
  have h3:=h.lt
  have h4:=cD k
  refine⟨?_,by omega⟩
  rcases Int.lt_or_le (bE x) (pw k) with g|g
  ·exact g
  ·have h5:pw k*pw k≤bE x*bE x:=Int.mul_le_mul g g (by omega) h0
   omega
theorem EI {k:Nat}{c:Rat}(h:Rz (k+k) c):Rz k (rt c):=Rz.of (A9 h.n) (A9 h.d) (by have:=rb (den_pos c);omega)
theorem qG {a1 b1 a2 b2 c:Rat}(h1:Rz 52 a1) (h2:Rz 21 b1) (h3:Rz 52 a2) (h4:Rz 21 b2) (h5:Rz 78 c) (h0:0<c) (hb: ¬(b1=0∧b2=0)):GP (l7 a1 b1 a2 b2 c):=by
 unfold l7
 cases hs:iX c with
 |true=>
  rw[if_pos rfl]
  exact GP.rat ((h1.add (h2.mul (EI (k:=39) h5))).mono (by decide)) ((h3.add (h4.mul (EI (k:=39) h5))).mono (by decide))
 |false=>
  rw[if_neg (by decide)]
  refine⟨h1.mono (by decide),h2.mono (by decide),h3.mono (by decide),h4.mono (by decide),h5.mono (by decide),fun _=>⟨h1,h3⟩,?_⟩
  show wt b1 b2 c=true
  unfold wt
  rw[if_neg hb,hs,decide_eq_true h0];rfl
section
variable {l m:Ln}{k d:Ci}
theorem kX (hl:GL l) (hk:GK k):Rz 29 (ll l k.x k.y):=(((hl.a.mul hk.x).add (hl.b.mul hk.y)).sub hl.c).mono (by decide)
theorem lj (hl:GL l):Rz 17 (fZ l):=((hl.a.mul hl.a).add (hl.b.mul hl.b)).mono (by decide)
theorem ws (hl:GL l) (hk:GK k):Rz 46 (ll l k.x k.y/fZ l):=(kX hl hk).div (lj hl) hl.n
theorem mn (hl:GL l) (hk:GK k):Rz 52 (wJ l k):=(hk.x.sub ((ws hl hk).mul hl.a)).mono (by decide)
theorem mh (hl:GL l) (hk:GK k):Rz 52 (xm l k):=(hk.y.sub ((ws hl hk).mul hl.b)).mono (by decide)
theorem qM (hl:GL l) (hk:GK k):Rz 78 (kE l k):=(((lj hl).mul hk.q).sub ((kX hl hk).mul (kX hl hk))).mono (by decide)
theorem x3 (hl:GL l):Rz 21 (l.b/fZ l):=(hl.b.div (lj hl) hl.n).mono (by decide)
theorem vZ (hl:GL l):Rz 21 (-l.a/fZ l):=(hl.a.neg.div (lj hl) hl.n).mono (by decide)
theorem J4 (hl:GL l): ¬(l.b/fZ l=0∧ -l.a/fZ l=0):=by
 rintro⟨h1,h2⟩
 have hn:=hl.n
 have e1:l.b=0:=by
  have:l.b/fZ l*fZ l=l.b:=Rat.div_mul_cancel hn
  rw[h1] at this;grind
 have e2: -l.a=0:=by
  have: -l.a/fZ l*fZ l= -l.a:=Rat.div_mul_cancel hn
  rw[h2] at this;grind
 refine hn ?_
 unfold fZ
 rw[show l.a=0 by grind,e1];grind
theorem yO (hl:GL l) (hk:GK k) (h: ¬bd (kE l k) 0<0) (g: ¬bd (kE l k) 0=0):GP (GE l k):=
 qG (mn hl hk) (x3 hl) (mh hl hk) (vZ hl) (qM hl hk) (qT h g) (J4 hl)
theorem yw (hl:GL l) (hk:GK k) (h: ¬bd (kE l k) 0<0) (g: ¬bd (kE l k) 0=0):GP (GD l k):=
 qG (mn hl hk) (x3 hl).neg (mh hl hk) (vZ hl).neg (qM hl hk) (qT h g) (fun e=>J4 hl ⟨by grind,by grind⟩)
theorem po (hl:GL l) (hk:GK k): ∀p∈fD l k,GP p:=by
 intro p hp
 unfold fD at hp
 split at hp
 ·cases hp
 ·rename_i h
  split at hp
  ·rw[List.mem_singleton] at hp;subst hp
   exact GP.rat ((mn hl hk).mono (by decide)) ((mh hl hk).mono (by decide))
  ·rename_i g
   split at hp
   ·rcases List.mem_cons.1 hp with e|e
    ·rw[e];exact yO hl hk h g
    ·rw[List.mem_singleton] at e;rw[e];exact yw hl hk h g
   ·rcases List.mem_cons.1 hp with e|e
    ·rw[e];exact yw hl hk h g
    ·rw[List.mem_singleton] at e;rw[e];exact yO hl hk h g
theorem vu (hl:GL l) (hm:GL m):Rz 17 (kO l m):=((hl.a.mul hm.b).sub (hm.a.mul hl.b)).mono (by decide)
theorem Fp (hl:GL l) (hm:GL m):Rz 43 (G9 l m):=((hl.c.mul hm.b).sub (hm.c.mul hl.b)).mono (by decide)
theorem Ds (hl:GL l) (hm:GL m):Rz 43 (I1 l m):=((hl.a.mul hm.c).sub (hm.a.mul hl.c)).mono (by decide)
theorem B9 (hl:GL l) (hm:GL m): ∀p∈gg l m,GP p:=by
 intro p hp
 unfold gg at hp
 split at hp
 ·rename_i h
  have h0:kO l m≠0:=fun e=>h (gB.2 e)
  rw[List.mem_singleton] at hp;subst hp
  exact GP.rat (((Fp hl hm).div (vu hl hm) h0).mono (by decide)) (((Ds hl hm).div (vu hl hm) h0).mono (by decide))
 ·cases hp
theorem qJ (hk:GK k):Rz 8 (F4 k):=(((hk.x.mul hk.x).add (hk.y.mul hk.y)).sub hk.q).mono (by decide)
theorem yD:Rz 1 (2:Rat):=⟨by rw[show(2:Rat).num=2 from rfl];exact ij (by decide) (by decide),by rw[show((2:Rat).den:Int)=1 from rfl];exact Sz.one (by decide)⟩
theorem AO (hk:GK k) (hd:GK d) (h:pC k d=false):GL (Ic k d):=by
 refine⟨(yD.mul (hd.x.sub hk.x)).mono (by decide),(yD.mul (hd.y.sub hk.y)).mono (by decide),((qJ hd).sub (qJ hk)).mono (by decide),fun e=>?_⟩
 have e1:=J7 (show(2*(d.x-k.x))*(2*(d.x-k.x))+(2*(d.y-k.y))*(2*(d.y-k.y))=0 from e)
 have hx:k.x=d.x:=by grind
 have hy:k.y=d.y:=by grind
 unfold pC si at h
 rw[hx,hy] at h
 simp[tg] at h
theorem Dy (hk:GK k) (hd:GK d): ∀p∈jZ k d,GP p:=by
 intro p hp
 unfold jZ at hp
 split at hp
 ·cases hp
 ·rename_i h
  exact po (AO hk hd (by simpa using h)) hk p hp
theorem DI {a c:Cv}(ha:a.good) (hc:c.good): ∀p∈jf a c,GP p:=by
 intro p hp
 cases a<;>cases c
 ·exact B9 ha.1 hc.1 p hp
 ·exact po ha.1 hc.1 p hp
 ·exact po hc.1 ha.1 p hp
 ·exact Dy ha.1 hc.1 p hp
theorem tv {a c:Cv}(ha:a.good) (hc:c.good): ∀p∈aQ a c,GP p:=by
 intro p hp
 unfold aQ at hp
 split at hp
 ·simp only[List.mem_cons,List.not_mem_nil,or_false] at hp
  rcases hp with e|e|e|e
  ·rw[e];exact pf ha
  ·rw[e];exact pj ha
  ·rw[e];exact pf hc
  ·rw[e];exact pj hc
 ·exact DI ha hc p hp
theorem wC {a c:Cv}(ha:a.good) (hc:c.good): ∀p∈ck a c,GP p:=fun p hp=>tv ha hc p (List.mem_filter.1 (mJ hp)).1
theorem nu:(fD l k).length≤2:=by
 unfold fD
 repeat' split
 all_goals simp
theorem Cz {a c:Cv}:(jf a c).length≤2:=by
 cases a<;>cases c
 ·show(gg _ _).length≤2
  unfold gg;split<;>simp
 ·exact nu
 ·exact nu
 ·show(jZ _ _).length≤2
  unfold jZ;split
  ·simp
  ·exact nu
theorem qR {a c:Cv}:(aQ a c).length≤4:=by
 unfold aQ
 split
 ·simp
 ·have:=Cz (a:=a) (c:=c);omega
theorem j4 {a c:Cv}:(ck a c).length≤4:=by
 have h1:=pK (c:=a) (l:=(aQ a c).filter (cr a c))
 have h2:=List.length_filter_le (cr a c) (aQ a c)
 have h3:=qR (a:=a) (c:=c)
 unfold ck;omega
end
def rd (k d:Ci):Bool:=si k.x d.x&&si k.y d.y&&si k.q d.q
def rr (l m:Ln):Bool:=si (l.a*m.b) (l.b*m.a)&&si (l.a*m.c) (l.c*m.a)&&si (l.b*m.c) (l.c*m.b)
section
variable {l m:Ln}{k d:Ci}
theorem Em (h:decide (bd (kE l k) 0<0)=true):fD l k=[]:=by unfold fD;rw[if_pos (of_decide_eq_true h)]
theorem Eb (h:decide (bd (kE l k) 0<0)=false) (g:(bd (kE l k) 0==0)=true):fD l k=[⟨wJ l k,0,xm l k,0,0⟩]:=by
 unfold fD;rw[if_neg (of_decide_eq_false h),if_pos (by simpa using g)]
theorem Gs (h:decide (bd (kE l k) 0<0)=false) (g:(bd (kE l k) 0==0)=false) (q:decide (cP (GD l k) (GE l k)>0)=true):fD l k=[GE l k,GD l k]:=by
 unfold fD;rw[if_neg (of_decide_eq_false h),if_neg (by simpa using g),if_pos (of_decide_eq_true q)]
theorem Fo (h:decide (bd (kE l k) 0<0)=false) (g:(bd (kE l k) 0==0)=false) (q:decide (cP (GD l k) (GE l k)>0)=false):fD l k=[GD l k,GE l k]:=by
 unfold fD;rw[if_neg (of_decide_eq_false h),if_neg (by simpa using g),if_neg (of_decide_eq_false q)]
theorem xH (h:(bd (kO l m) 0 !=0)=true):gg l m=[⟨G9 l m/kO l m,0,I1 l m/kO l m,0,0⟩]∧jP l m=0:=by
 unfold gg jP;rw[if_pos (by simpa using h),if_pos (by simpa using h)];exact⟨rfl,rfl⟩
theorem tH (h:(bd (kO l m) 0 !=0)=false) (g:(bd (G9 l m) 0==0)=true) (q:(bd (I1 l m) 0==0)=true):gg l m=[]∧jP l m=10:=by
 unfold gg jP;rw[if_neg (by simpa using h),if_neg (by simpa using h),if_pos ⟨by simpa using g,by simpa using q⟩];exact⟨rfl,rfl⟩
theorem tN (h:(bd (kO l m) 0 !=0)=false) (g:(bd (G9 l m) 0==0)=false):gg l m=[]∧jP l m=0:=by
 unfold gg jP;rw[if_neg (by simpa using h),if_neg (by simpa using h),if_neg (fun e=>by simp[e.1] at g)];exact⟨rfl,rfl⟩
theorem tI (h:(bd (kO l m) 0 !=0)=false) (q:(bd (I1 l m) 0==0)=false):gg l m=[]∧jP l m=0:=by
 unfold gg jP;rw[if_neg (by simpa using h),if_neg (by simpa using h),if_neg (fun e=>by simp[e.2] at q)];exact⟨rfl,rfl⟩
theorem Eu (h:pC k d=true) (g:(bd k.q d.q==0)=true):jZ k d=[]∧pV k d=10:=by
 unfold jZ pV;rw[if_pos h,if_pos h,if_pos (by simpa using g)];exact⟨rfl,rfl⟩
theorem Gi (h:pC k d=true) (g:(bd k.q d.q==0)=false):jZ k d=[]∧pV k d=0:=by
 unfold jZ pV;rw[if_pos h,if_pos h,if_neg (by simpa using g)];exact⟨rfl,rfl⟩
theorem Gn (h:pC k d=false):jZ k d=fD (Ic k d) k∧pV k d=0:=by
 unfold jZ pV;rw[if_neg (by rw[h];decide),if_neg (by rw[h];decide)];exact⟨rfl,rfl⟩
end
section
variable {P:Program}{ops:Array Oper}{T:TF}{B:BF}
end
section
variable {P:Program}{σ:St}{Q:Exit→St→Prop}
end
section
variable {P:Program}
variable {ops:Array Oper}{T:TF}{B:BF}
end
section
variable {P:Program}{ops:Array Oper}{T:TF}{B:BF}
end
section
variable {P:Program}{ops:Array Oper}{os:List Oper}{K:St→Prop}{N:Nat}{tm:List (Nat×DV)}{bx:List (Nat×TypeId×List CellD)}
end
end Go.Proofs.YtacopbfkmnpfgaaGreat
