/-Data:slices that grow:the room behind a slice is not known. -/
import Derived.Test.YtkmdgigkbhmilaaGreatNbK
namespace Go.Proofs.YtkmdgigkbhmilaaGreat
open Go Go.RowKit
variable {ty:TypeId}{pos:String}{af:Array Edge}{g:Option (Nat×Bool)}{dst:Option Nat}
section
variable {P:Program}{ops:Array Oper}{T:TF}{B:BF}{av:Nat→Prop}{w0:Ent}{w:World}{N:Nat}{β:Nat→Nat}{a:Act}
theorem Rel.ren (h:Rel av w0 N T B β a w) {k d:Nat}(hdN:d<N) (hk:B k≠none) (hd:d=k∨B d=none):
 Rel av w0 N (kV k T) (fun l=>if l=d then B k else if l=k then none else B l) (fun l=>if l=d then β k else β l) a w:=by
 have hB: ∀l,(if l=d then B k else if l=k then none else B l)≠none→(l=d∨(l≠d∧l≠k∧B l≠none)):=by
  intro l hl
  by_cases e:l=d
  ·exact .inl e
  ·rw[if_neg e] at hl
   by_cases e2:l=k
   ·rw[if_pos e2] at hl;exact absurd rfl hl
   ·rw[if_neg e2] at hl;exact .inr ⟨e,e2,hl⟩
 have hne: ∀l,B l≠none→l≠k→l≠d:=by
  intro l hl e e2
  rcases hd with hd|hd
  ·exact e (e2.trans hd)
  ·rw[←e2] at hd;exact hl hd
 have hV:(fun b=>av b∨ ∃l,(if l=d then B k else if l=k then none else B l)≠none∧(if l=d then β k else β l)=b)=(fun b=>av b∨ ∃l,B l≠none∧β l=b):=by
  funext b
  refine propext ⟨?_,?_⟩
  ·rintro(hb|⟨l,hl,hb⟩)
   ·exact .inl hb
   ·rcases hB l hl with e|⟨e1,e2,e3⟩
    ·rw[if_pos e] at hb;exact .inr ⟨k,hk,hb⟩
    ·rw[if_neg e1] at hb;exact .inr ⟨l,e3,hb⟩
  ·rintro(hb|⟨l,hl,hb⟩)
   ·exact .inl hb
   ·by_cases e:l=k
    ·exact .inr ⟨d,by rw[if_pos rfl];exact hk,by rw[if_pos rfl,←e];exact hb⟩
    ·have:=hne l hl e
     exact .inr ⟨l,by rw[if_neg this,if_neg e];exact hl,by rw[if_neg this];exact hb⟩
 have hT: ∀t x,kV k T t=some x→x=.n∨(T t=some x∧iB x≠some k):=by
  intro t x ht
  unfold kV at ht
  split at ht
  ·rename_i y hy
   split at ht
   ·injection ht with ht;exact .inl ht.symm
   ·rename_i hr;injection ht with ht;subst ht;exact .inr ⟨hy,hr⟩
  ·cases ht
 refine⟨h.dfr,h.siz,h.bel,h.avl,h.avE,h.big,fun b hb hK=>?_,?_,?_,?_,?_⟩
 ·have hKd:w0.K≠d:=by have:=h.big;omega
  have hK0:=hK
  rcases hB _ hK with e|⟨_,_,e⟩
  ·exact absurd e hKd
  ·rw[if_neg hKd];exact h.fix b hb e
 ·intro l m hl hm e
  rcases hB l hl with e1|⟨e1,e2,e3⟩<;>rcases hB m hm with f1|⟨f1,f2,f3⟩
  ·rw[e1,f1]
  ·rw[if_pos e1,if_neg f1] at e
   exact absurd (h.inj k m hk f3 e).symm f2
  ·rw[if_neg e1,if_pos f1] at e
   exact absurd (h.inj l k e3 hk e) e2
  ·rw[if_neg e1,if_neg f1] at e
   exact h.inj l m e3 f3 e
 ·intro l hl
  rcases hB l hl with e1|⟨e1,e2,e3⟩
  ·rw[if_pos e1];exact h.own k hk
  ·rw[if_neg e1];exact h.own l e3
 ·intro t x l ht hx
  rcases hT t x ht with rfl|⟨h1,h2⟩
  ·cases hx
  ·have h3:=h.wf t x l h1 hx
   have h4:l≠k:=fun e=>h2 (by rw[hx,e])
   rw[if_neg (hne l h3 h4),if_neg h4];exact h3
 ·rw[hV]
  refine⟨h.sees.av,?_,?_⟩
  ·intro l U cs hl
   have hl0:(if l=d then B k else if l=k then none else B l)=some (U,cs):=hl
   by_cases e:l=d
   ·rw[if_pos e] at hl0
    show Vo _ _ (if l=d then β k else β l) _ _
    rw[if_pos e];exact h.sees.box k U cs hl0
   ·rw[if_neg e] at hl0
    show Vo _ _ (if l=d then β k else β l) _ _
    rw[if_neg e]
    by_cases e2:l=k
    ·rw[if_pos e2] at hl0;cases hl0
    ·rw[if_neg e2] at hl0;exact h.sees.box l U cs hl0
  ·intro t x hL ht
   rcases hT t x ht with rfl|⟨h1,h2⟩
   ·unfold kV at ht
    split at ht
    ·rename_i y hy
     obtain⟨v,e,_⟩:=h.sees.tmp t y hL hy
     exact⟨v,e,trivial⟩
    ·cases ht
   ·obtain⟨v,e,hr⟩:=h.sees.tmp t x hL h1
    refine⟨v,e,?_⟩
    cases x with
    |p l off=>
     have h3:=h.wf t _ l h1 rfl
     have h4:l≠k:=fun e=>h2 (by rw[e];rfl)
     show v=.pointer (some ⟨if l=d then β k else β l,off,none⟩)
     rw[if_neg (hne l h3 h4)];exact hr
    |o l n c=>
     have h3:=h.wf t _ l h1 rfl
     have h4:l≠k:=fun e=>h2 (by rw[e];rfl)
     show v=.slice (some ⟨if l=d then β k else β l,0,none⟩) n c
     rw[if_neg (hne l h3 h4)];exact hr
    |w l off n c=>
     have h3:=h.wf t _ l h1 rfl
     have h4:l≠k:=fun e=>h2 (by rw[e];rfl)
     show v=.slice (some ⟨if l=d then β k else β l,off,none⟩) n c
     rw[if_neg (hne l h3 h4)];exact hr
    |v d=>exact hr
    |t ds=>exact hr
    |q us=>exact hr
    |u=>exact hr
    |n=>trivial
    |z=>exact hr
    |f n us=>exact hr
    |tn l n c ds=>
     have h3:=h.wf t _ l h1 rfl
     have h4:l≠k:=fun e=>h2 (by rw[e];rfl)
     obtain⟨xs,e,h⟩:=hr
     exact⟨xs,by show v=Value.tuple (Value.slice (some ⟨if l=d then β k else β l,0,none⟩) n c::xs).toArray;rw[if_neg (hne l h3 h4)];exact e,h⟩
theorem uO (a:Act) (d:Nat) (v v':Value):(a.put (some d) v).put (some d) v'=a.put (some d) v':=by simp[Act.put]
theorem L1 {k t:Nat}{x:DV}{tm:List (Nat×DV)}{bx:List (Nat×TypeId×List CellD)}:(⟨N,(t,x)::jg k tm,bx⟩:St).T=fun s=>if some t=some s then some x else kV k (fun s=>aT s tm) s:=by
 funext s
 show aT s ((t,x)::jg k tm)=_
 rw[bq,jC]
 by_cases e:t=s
 ·rw[if_pos e,if_pos (by rw[e])]
 ·rw[if_neg e,if_neg (by simpa using e)];rfl
theorem J7 {k t:Nat}{x:TypeId×List CellD}{tm:List (Nat×DV)}{bx:List (Nat×TypeId×List CellD)}:(⟨N,tm,(t,x)::iK k bx⟩:St).B=fun l=>if some t=some l then some x else if l=k then none else aT l bx:=by
 funext s
 show aT s ((t,x)::iK k bx)=(if some t=some s then some x else if s=k then none else aT s bx)
 rw[bq,iE]
 by_cases e:t=s
 ·rw[if_pos e,if_pos (by rw[e])]
 ·rw[if_neg e,if_neg (show ¬some t=some s by simpa using e)]
theorem Kh {z:Value}{zs:List CellD}{m:Nat}(hzl:zs.length=m) (hzr: ∀(V:Nat→Prop) (w:World),RdCs V w z.cells.toList zs) (r:Nat):
 ∃rest:List CellD,rest.length=r*m∧ ∀(V:Nat→Prop) (w:World),RdCs V w (Builtin.zeroCells z.cells r).toList rest:=by
 have hzs:z.cells.size=m:=by have:=(hzr (fun _=>False) default).1;rw[hzl] at this;simpa using this
 have key: ∀(r:Nat) (V:Nat→Prop) (w:World),RdCs V w ((List.range (r*m)).map (fun j=>z.cells[j%z.cells.size]!)) (List.replicate r zs).flatten:=by
  intro r V w
  induction r with
  |zero=>simp;exact RdCs.nil
  |succ r ih=>
   rw[Nat.succ_mul,List.range_add,List.map_append,List.replicate_succ',List.flatten_append]
   refine RdCs.append ih ?_
   have e2:(List.map (fun x=>r*m+x) (List.range m)).map (fun j=>z.cells[j%z.cells.size]!)=z.cells.toList:=by
    apply List.ext_getElem (by simp[hzs])
    intro j h1 h2
    simp at h1
    simp only[List.getElem_map,List.getElem_range,hzs]
    rw[Nat.mul_comm r,Nat.mul_add_mod,Nat.mod_eq_of_lt (by omega),getElem!_pos z.cells j (by omega)]
    simp
   rw[e2]
   simpa using hzr V w
 refine⟨(List.replicate r zs).flatten,?_,fun V w=>?_⟩
 ·have:=(key r (fun _=>False) default).1
  simpa using this.symm
 ·have:=key r V w
  unfold Builtin.zeroCells
  rw[hzs]
  simpa [hzs] using this
variable {tm:List (Nat×DV)}{bx:List (Nat×TypeId×List CellD)}
theorem Aa {t:Nat}{x y:Operand}{U e:TypeId}{n c q m by_ k:Nat}{cs ys zs pre:List CellD}
 (hU:pc P U=some (e,m,by_,zs)) (hx:di (fun s=>aT s tm) x=some (.o k n c)) (hsc: ∀V β a w,Sees V (gy ops ⟨some t,.call ⟨.builtin .append,#[x,y],#[U,U]⟩,ty,pos,af,g⟩) (fun s=>aT s tm) (fun l=>aT l bx) β a w→ ∃V',RdC V' w (a.eval y) (.s q ys)∧ ∀news,RdCs V' w news ys→RdCs V w news ys) (hb:aT k bx=some (e,cs)) (hcs:cs.length=c*m) (hys:ys.length=q*m) (hm:0<m)
 (hnc:n≤c) (hcm:c≤maxLen) (hbytes:(n+q)*by_≤140737488355328) (h63:n+q≤maxLen) (hpre:cs.take (n*m)=pre) (hd:t=k∨aT t bx=none)
 (hg:gd ops ⟨some t,.call ⟨.builtin .append,#[x,y],#[U,U]⟩,ty,pos,af,g⟩ (fun s=>aT s tm)=some true):
 Dc P ops ⟨some t,.call ⟨.builtin .append,#[x,y],#[U,U]⟩,ty,pos,af,g⟩ ⟨N,tm,bx⟩ (fun σ'=> ∃c' rest,n+q≤c'∧c'≤maxLen∧rest.length=(c'-(n+q))*m∧σ'=⟨N,(t,.o t (n+q) c')::jg k tm,(t,e,pre++ys++rest)::iK k bx⟩):=by
 intro av w0 β a w hrel htn
 have hs:=Sees.of hrel.sees (L:=gy ops ⟨some t,.call ⟨.builtin .append,#[x,y],#[U,U]⟩,ty,pos,af,g⟩) (fun _ _=>trivial) (fun _ _ _ h=>h) (fun _ _ h=>h)
 refine⟨d8 hs hg,?_⟩
 have e1:a.eval x=.slice (some ⟨β k,0,none⟩) n c:=aS hs (x:=x) (by simp[Op.operands,Call.operands]) hx
 obtain⟨V',h2,hconv⟩:=hsc _ _ _ _ hs
 obtain⟨news,hsrc,hrn'⟩:=no hU h2 hys
 have hrn:=hconv _ hrn'
 obtain⟨hu,i,z,hi,hz,hsz,hby,hzl,hzr⟩:=gI hU
 obtain⟨hvk,vs,ev,hr⟩:=hs.box k e cs hb
 subst hsz
 have hkn:(aT k bx)≠none:=by rw[hb];simp
 have hle:n*i.size≤cs.length:=by rw[hcs];exact Nat.mul_le_mul_right _ hnc
 have hvl:vs.size=c*i.size:=by have:=hr.1;rw[hcs] at this;simpa using this
 have hr2:=hr.take (n*i.size)
 rw[hpre] at hr2
 have hlen:(vs.toList.take (n*i.size)).length=n*i.size:=by
  rw[List.length_take,Array.length_toList,hvl]
  exact Nat.min_eq_left (Nat.mul_le_mul_right _ hnc)
 have ht:t<N:=htn t rfl
 have hnl:news.length=q*i.size:=hsrc.newsLen
 unfold Gives
 by_cases hroom:n+q≤c
 ·--in place
  have hfit:0+n*i.size+0+news.length≤vs.size:=by
   rw[hvl,hnl]
   have:=Nat.mul_le_mul_right i.size hroom
   rw[Nat.add_mul] at this;omega
  have hst:=run_storeCells_at P (β k) (0+n*i.size) e news 0 vs w ev hfit hsrc.one
  simp only[Nat.zero_add,Nat.add_zero] at hst
  have hrun:(Builtin.append_ #[U,U] ty #[.slice (some ⟨β k,0,none⟩) n c,a.eval y]).run P w=.ok (.slice (some ⟨β k,0,none⟩) (n+q) c) (w.setRow (β k) (vs.toList.take (n*i.size)++news++vs.toList.drop (n*i.size+news.length)).toArray):=by
   rcases hsrc.kind with⟨e',hk⟩|hk<;>simp[Builtin.append_,run_underlying hu,sizeOf,typeInfo,hi,hsrc.len,hroom,hsrc.cells,Addr.add_lit,hst]
  have hexec:(execOp a.eval ⟨some t,.call ⟨.builtin .append,#[x,y],#[U,U]⟩,ty,pos,af,g⟩).run P w=.ok (.value (.slice (some ⟨β k,0,none⟩) (n+q) c)) (w.setRow (β k) (vs.toList.take (n*i.size)++news++vs.toList.drop (n*i.size+news.length)).toArray):=by
   simp only[execOp,resolve,invoke,builtin,Sem.run_bind,Sem.run_pure,Result.andThen_ok,List.map_toArray,List.map_cons,List.map_nil,e1]
   rw[hrun]
   rfl
  rw[hexec]
  have hrest:((cs.drop (n*i.size+news.length))).length=(c-(n+q))*i.size:=by
   rw[List.length_drop,hcs,hnl,←Nat.add_mul,←Nat.sub_mul]
  refine⟨⟨N,(t,.o t (n+q) c)::jg k tm,(t,e,pre++ys++cs.drop (n*i.size+news.length))::iK k bx⟩,fun l=>if l=t then β k else β l,⟨c,_,hroom,hcm,hrest,rfl⟩,rfl,?_⟩
  have hren:=hrel.ren (k:=k) (d:=t) (htn t rfl) hkn hd
  have hstore:=hren.store (k:=t) (U:=e) (cs0:=cs) (cs:=pre++ys++cs.drop (n*i.size+news.length)) (vs:=(vs.toList.take (n*i.size)++news++vs.toList.drop (n*i.size+news.length)).toArray)
   (w':=w.setRow (β k) (vs.toList.take (n*i.size)++news++vs.toList.drop (n*i.size+news.length)).toArray) (by rw[if_pos rfl];exact hb) (by rw[if_pos rfl];exact kX ev) rfl rfl rfl ?_
  ·have hval:=hstore.value (d:=some t) (x:=.o t (n+q) c) (v:=.slice (some ⟨β k,0,none⟩) (n+q) c) (by intro s hs;injection hs with hs;subst hs;exact ht) (Below.refl _ _) (by show _=Value.slice (some ⟨if t=t then β k else β t,0,none⟩) _ _;rw[if_pos rfl]) (by intro l hl;injection hl with hl;subst hl;rw[if_pos rfl];simp)
   refine hval.congr (fun s=>?_) (fun l=>?_)
   ·rw[L1];rfl
   ·rw[J7]
    show(if some t=some l then _ else _)=(if t=l then _ else if l=t then _ else _)
    by_cases e:t=l
    ·rw[if_pos (by rw[e]),if_pos e]
    ·rw[if_neg (show ¬some t=some l by simpa using e),if_neg e,if_neg (Ne.symm e)];rfl
  ·have hrd:RdCs (fun b=>av b∨ ∃k,aT k bx≠none∧β k=b) w (vs.toList.take (n*i.size)++news++vs.toList.drop (n*i.size+news.length)) (pre++ys++cs.drop (n*i.size+news.length)):=(hr2.append hrn).append (hr.drop _)
   refine RdCs.keep (av:=fun b=>av b∨ ∃k,aT k bx≠none∧β k=b) ⟨Nat.le_refl _,fun _ _ _=>rfl,?_⟩ hrd
   rintro b _ (hb'|⟨l,hl,hb'⟩)
   ·exact .inl hb'
   ·try dsimp only at hl hb'
    by_cases e:l=t
    ·rw[if_pos e] at hb';exact .inr ⟨k,hkn,hb'⟩
    ·rw[if_neg e] at hl hb'
     by_cases e2:l=k
     ·rw[if_pos e2] at hl;exact absurd rfl hl
     ·rw[if_neg e2] at hl;exact .inr ⟨l,hl,hb'⟩
 ·--new memory
  have hgrow:c<n+q:=by omega
  have hold:(Builtin.firstCells i.size n (.slice (some ⟨β k,0,none⟩) n c)).run P w.drew=.ok (vs.toList.take (n*i.size)).toArray w.drew:=by
   have:=run_loadCells_list (P:=P) w.drew ⟨β k,0,none⟩ (vs.toList.take (n*i.size)) (fun j u hj=>by
    rw[jb,Nat.zero_add]
    show w.cell? _=_
    rw[List.getElem?_take] at hj
    split at hj
    ·rw[cE ev,←hj];simp
    ·cases hj)
   rw[hlen] at this
   exact this
  have hrun:=run_append_grow_src (P:=P) (w:=w) U U ty e i z hu hi hz (some ⟨β k,0,none⟩) n c _ hold (a.eval y) q news hsrc hgrow (by have:maxLen=9223372036854775807:=rfl;omega) (growslice_fits hgrow (by rw[hby];exact hbytes))
  generalize hcap:grownCap w (n+q) c e=c' at hrun
  have hc1:n+q≤c':=by rw[←hcap];exact grownCap_ge _ _ _ _
  have hc2:c'≤maxLen:=by rw[←hcap];exact grownCap_le_maxLen _ _ _ _ h63
  have hexec:(execOp a.eval ⟨some t,.call ⟨.builtin .append,#[x,y],#[U,U]⟩,ty,pos,af,g⟩).run P w=.ok (.value (.slice (some ⟨w.heap.size,0,none⟩) (n+q) c'))
   (w.drew.alloc (.cells ((vs.toList.take (n*i.size)++news).toArray++Builtin.zeroCells z.cells (c'-(n+q))) e)):=by
   simp only[execOp,resolve,invoke,builtin,Sem.run_bind,Sem.run_pure,Result.andThen_ok,List.map_toArray,List.map_cons,List.map_nil,e1]
   rw[hrun]
   rfl
  rw[hexec]
  have hdr:=(hrel.drop k).drew
  obtain⟨rest,hrl,hrz⟩:=Kh hzl hzr (c'-(n+q))
  have hrd:RdCs (fun b=>av b∨ ∃l,(if l=k then none else aT l bx)≠none∧β l=b) w.drew ((vs.toList.take (n*i.size)++news).toArray++Builtin.zeroCells z.cells (c'-(n+q))).toList (pre++ys++rest):=by
   have h0:RdCs (fun b=>av b∨ ∃k,aT k bx≠none∧β k=b) w (vs.toList.take (n*i.size)++news) (pre++ys):=hr2.append hrn
   have h1:=RdCs.append (RdCs.keep (av:=fun b=>av b∨ ∃k,aT k bx≠none∧β k=b) (w:=w) (av':=fun b=>av b∨ ∃l,(if l=k then none else aT l bx)≠none∧β l=b) (w':=w.drew) ⟨Nat.le_refl _,fun _ _ _=>rfl,fun b _ hb'=>hb'.imp id fun⟨l,hl,e⟩=>⟨l,fun h0=>by rw[h0] at hl;exact hl (by split<;>rfl),e⟩⟩ h0) (hrz (fun b=>av b∨ ∃l,(if l=k then none else aT l bx)≠none∧β l=b) w.drew)
   simpa using h1
  have hbox:=hdr.box (d:=t) ht (by
   show(if t=k then none else aT t bx)=none
   rcases hd with hd|hd
   ·rw[if_pos hd]
   ·rw[hd];split<;>rfl) (U:=e) (sl:=some c') hrd
  refine⟨⟨N,(t,.o t (n+q) c')::jg k tm,(t,e,pre++ys++rest)::iK k bx⟩,fun l=>if l=t then w.drew.heap.size else β l,⟨c',_,hc1,hc2,hrl,rfl⟩,rfl,?_⟩
  have hval:=hbox.value (d:=some t) (x:=.o t (n+q) c') (v:=.slice (some ⟨w.heap.size,0,none⟩) (n+q) c') (by intro s hs;injection hs with hs;subst hs;exact ht) (Below.refl _ _) (by show _=Value.slice (some ⟨if t=t then w.drew.heap.size else β t,0,none⟩) _ _;rw[if_pos rfl];rfl) (by intro l hl;injection hl with hl;subst hl;rw[if_pos rfl];simp)
  rw[uO] at hval
  refine hval.congr (fun s=>?_) (fun l=>?_)
  ·rw[L1]
   show(if some t=some s then _ else _)=(if some t=some s then _ else if some t=some s then _ else kV k _ s)
   by_cases e:some t=some s
   ·rw[if_pos e,if_pos e]
   ·rw[if_neg e,if_neg e,if_neg e];rfl
  ·rw[J7];rfl
theorem tE {t:Nat}{x y:Operand}{U e:TypeId}{n c q m by_ k:Nat}{cs ys zs pre:List CellD}
 (hU:pc P U=some (e,m,by_,zs)) (hx:di (fun s=>aT s tm) x=some (.o k n c)) (hy:di (fun s=>aT s tm) y=some (.v (.c (.s q ys)))) (hb:aT k bx=some (e,cs)) (hcs:cs.length=c*m) (hys:ys.length=q*m) (hm:0<m)
 (hnc:n≤c) (hcm:c≤maxLen) (hbytes:(n+q)*by_≤140737488355328) (h63:n+q≤maxLen) (hpre:cs.take (n*m)=pre) (hd:t=k∨aT t bx=none)
 (hg:gd ops ⟨some t,.call ⟨.builtin .append,#[x,y],#[U,U]⟩,ty,pos,af,g⟩ (fun s=>aT s tm)=some true):
 Dc P ops ⟨some t,.call ⟨.builtin .append,#[x,y],#[U,U]⟩,ty,pos,af,g⟩ ⟨N,tm,bx⟩ (fun σ'=> ∃c' rest,n+q≤c'∧c'≤maxLen∧rest.length=(c'-(n+q))*m∧σ'=⟨N,(t,.o t (n+q) c')::jg k tm,(t,e,pre++ys++rest)::iK k bx⟩):=by
 exact Aa hU hx (fun V β a w hs=>⟨V,aS hs (x:=y) (by simp[Op.operands,Call.operands]) hy,fun _ h=>h⟩) hb hcs hys hm hnc hcm hbytes h63 hpre hd hg
theorem zu {t:Nat}{x y:Operand}{U e:TypeId}{q m by_:Nat}{ys zs:List CellD}
 (hU:pc P U=some (e,m,by_,zs)) (hx:di (fun s=>aT s tm) x=some .z) (hy:di (fun s=>aT s tm) y=some (.v (.c (.s q ys)))) (hys:ys.length=q*m) (hq:0<q)
 (hbytes:q*by_≤140737488355328) (h63:q≤maxLen) (hd:aT t bx=none)
 (hg:gd ops ⟨some t,.call ⟨.builtin .append,#[x,y],#[U,U]⟩,ty,pos,af,g⟩ (fun s=>aT s tm)=some true):
 Dc P ops ⟨some t,.call ⟨.builtin .append,#[x,y],#[U,U]⟩,ty,pos,af,g⟩ ⟨N,tm,bx⟩ (fun σ'=> ∃c' rest,q≤c'∧c'≤maxLen∧rest.length=(c'-q)*m∧σ'=⟨N,(t,.o t q c')::tm,(t,e,ys++rest)::bx⟩):=by
 intro av w0 β a w hrel htn
 have hs:=Sees.of hrel.sees (L:=gy ops ⟨some t,.call ⟨.builtin .append,#[x,y],#[U,U]⟩,ty,pos,af,g⟩) (fun _ _=>trivial) (fun _ _ _ h=>h) (fun _ _ h=>h)
 refine⟨d8 hs hg,?_⟩
 have e1:a.eval x=.slice none 0 0:=aS hs (x:=x) (by simp[Op.operands,Call.operands]) hx
 have h2:=aS hs (x:=y) (by simp[Op.operands,Call.operands]) hy
 obtain⟨news,hsrc,hrn⟩:=no hU h2 hys
 obtain⟨hu,i,z,hi,hz,hsz,hby,hzl,hzr⟩:=gI hU
 subst hsz
 have ht:t<N:=htn t rfl
 unfold Gives
 have hold:(Builtin.firstCells i.size 0 (.slice none 0 0)).run P w.drew=.ok ([]:List Value).toArray w.drew:=rfl
 have hgrow:0<0+q:=by omega
 have hrun:=run_append_grow_src (P:=P) (w:=w) U U ty e i z hu hi hz none 0 0 _ hold (a.eval y) q news hsrc hgrow (by have:maxLen=9223372036854775807:=rfl;omega) (growslice_fits hgrow (by rw[hby,Nat.zero_add];exact hbytes))
 rw[Nat.zero_add] at hrun
 generalize hcap:grownCap w q 0 e=c' at hrun
 have hc1:q≤c':=by rw[←hcap];exact grownCap_ge _ _ _ _
 have hc2:c'≤maxLen:=by rw[←hcap];exact grownCap_le_maxLen _ _ _ _ h63
 have hexec:(execOp a.eval ⟨some t,.call ⟨.builtin .append,#[x,y],#[U,U]⟩,ty,pos,af,g⟩).run P w=.ok (.value (.slice (some ⟨w.heap.size,0,none⟩) q c'))
  (w.drew.alloc (.cells (([]++news).toArray++Builtin.zeroCells z.cells (c'-q)) e)):=by
  simp only[execOp,resolve,invoke,builtin,Sem.run_bind,Sem.run_pure,Result.andThen_ok,List.map_toArray,List.map_cons,List.map_nil,e1]
  rw[hrun]
  rfl
 rw[hexec]
 obtain⟨rest,hrl,hrz⟩:=Kh hzl hzr (c'-q)
 have hrd:RdCs (fun b=>av b∨ ∃k,aT k bx≠none∧β k=b) w.drew (([]++news).toArray++Builtin.zeroCells z.cells (c'-q)).toList (ys++rest):=by
  have h1:RdCs (fun b=>av b∨ ∃k,aT k bx≠none∧β k=b) w.drew (news++(Builtin.zeroCells z.cells (c'-q)).toList) (ys++rest):=RdCs.append (RdCs.keep (Keep.below (Below.refl _ w).drew) hrn) (hrz (fun b=>av b∨ ∃k,aT k bx≠none∧β k=b) w.drew)
  simpa using h1
 have hbox:=hrel.drew.box (d:=t) ht hd (U:=e) (sl:=some c') hrd
 refine⟨⟨N,(t,.o t q c')::tm,(t,e,ys++rest)::bx⟩,fun l=>if l=t then w.drew.heap.size else β l,⟨c',_,hc1,hc2,hrl,rfl⟩,rfl,?_⟩
 have hval:=hbox.value (d:=some t) (x:=.o t q c') (v:=.slice (some ⟨w.heap.size,0,none⟩) q c') (by intro s hs;injection hs with hs;subst hs;exact ht) (Below.refl _ _) (by show _=Value.slice (some ⟨if t=t then w.drew.heap.size else β t,0,none⟩) _ _;rw[if_pos rfl];rfl) (by intro l hl;injection hl with hl;subst hl;rw[if_pos rfl];simp)
 rw[uO] at hval
 refine hval.congr (fun s=>?_) (fun l=>?_)
 ·show aT s ((t,DV.o t q c')::tm)=(if some t=some s then _ else if some t=some s then _ else aT s tm)
  rw[bq]
  by_cases e:t=s
  ·rw[if_pos e,if_pos (by rw[e])]
  ·rw[if_neg e,if_neg (show ¬some t=some s by simpa using e),if_neg (show ¬some t=some s by simpa using e)]
 ·show aT l ((t,e,ys++rest)::bx)=(if some t=some l then _ else aT l bx)
  rw[bq]
  by_cases e:t=l
  ·rw[if_pos e,if_pos (by rw[e])]
  ·rw[if_neg e,if_neg (show ¬some t=some l by simpa using e)]
variable {os:List Oper}{K:St→Prop}
theorem mQ {t:Nat}{x y:Operand}{U e:TypeId}{n c q m by_ k:Nat}{us rest ys zs:List CellD}
 (hU:pc P U=some (e,m,by_,zs)) (hx:di (fun s=>aT s tm) x=some (.o k n c)) (hy:di (fun s=>aT s tm) y=some (.v (.c (.s q ys)))) (hb:aT k bx=some (e,us++rest)) (hus:us.length=n*m) (hr:rest.length=(c-n)*m)
 (hys:ys.length=q*m) (hm:0<m) (hnc:n≤c) (hcm:c≤maxLen) (hbytes:(n+q)*by_≤140737488355328) (h63:n+q≤maxLen) (hd:t=k∨aT t bx=none)
 (hg:gd ops ⟨some t,.call ⟨.builtin .append,#[x,y],#[U,U]⟩,ty,pos,af,g⟩ (fun s=>aT s tm)=some true)
 (hk: ∀c' rest',n+q≤c'→c'≤maxLen→rest'.length=(c'-(n+q))*m→dl P ops os ⟨N,(t,.o t (n+q) c')::jg k tm,(t,e,us++ys++rest')::iK k bx⟩ K):
 dl P ops (⟨some t,.call ⟨.builtin .append,#[x,y],#[U,U]⟩,ty,pos,af,g⟩::os) ⟨N,tm,bx⟩ K:=
 .inr ⟨_,tE (pre:=us) hU hx hy hb (by rw[List.length_append,hus,hr,←Nat.add_mul];congr 1;omega) hys hm hnc hcm hbytes h63 (by rw[←hus];simp) hd hg,fun σ' ⟨c',rest',h1,h2,h3,e⟩=>by subst e;exact hk c' rest' h1 h2 h3⟩
theorem mm {t:Nat}{x y:Operand}{U e:TypeId}{q m by_:Nat}{ys zs:List CellD}
 (hU:pc P U=some (e,m,by_,zs)) (hx:di (fun s=>aT s tm) x=some .z) (hy:di (fun s=>aT s tm) y=some (.v (.c (.s q ys)))) (hys:ys.length=q*m) (hq:0<q)
 (hbytes:q*by_≤140737488355328) (h63:q≤maxLen) (hd:aT t bx=none)
 (hg:gd ops ⟨some t,.call ⟨.builtin .append,#[x,y],#[U,U]⟩,ty,pos,af,g⟩ (fun s=>aT s tm)=some true)
 (hk: ∀c' rest',q≤c'→c'≤maxLen→rest'.length=(c'-q)*m→dl P ops os ⟨N,(t,.o t q c')::tm,(t,e,ys++rest')::bx⟩ K):
 dl P ops (⟨some t,.call ⟨.builtin .append,#[x,y],#[U,U]⟩,ty,pos,af,g⟩::os) ⟨N,tm,bx⟩ K:=
 .inr ⟨_,zu hU hx hy hys hq hbytes h63 hd hg,fun σ' ⟨c',rest',h1,h2,h3,e⟩=>by subst e;exact hk c' rest' h1 h2 h3⟩
theorem fF {T:TF}{B:BF}
 (hg:gd ops ⟨dst,.assign (.const (.slice none 0 0)),ty,pos,af,g⟩ T=some true):Sem P ops ⟨dst,.assign (.const (.slice none 0 0)),ty,pos,af,g⟩ T B (.r .z):=
 bO hg (fun k e=>by cases e) (fun V β a w hs=>⟨.slice none 0 0,rfl,rfl⟩)
theorem DI {c:Code}{Q:Exit→St→Prop}{t:Nat}(ht:aT t tm=some .z) (h:Dw P c ⟨N,(t,.v (.c (.s 0 [])))::tm,bx⟩ Q):Dw P c ⟨N,tm,bx⟩ Q:=fun av w0 β a w hr=>by
 obtain⟨v,hv,hx⟩:=hr.sees.tmp t _ trivial ht
 have hx:v=.slice none 0 0:=hx
 subst hx
 have h2:=hr.upd (t:=t) (x:=.v (.c (.s 0 []))) hv (.s0 _ _ (by decide)) rfl
 refine h av w0 β a w (h2.congr (fun s=>?_) (fun _=>rfl))
 show aT s ((t,.v (.c (.s 0 [])))::tm)=_
 rw[bq];rfl
theorem n6 {ι:Type}{c:Code}{σ:St}{Q:Exit→St→Prop}(I:ι→St) (μ:ι→Nat) (M:Nat)
 (first:Dw P c σ (Cy (fun σ'=> ∃j,Sub σ' (I j)∧μ j<M) Q)) (round: ∀i,Dw P c (I i) (Cy (fun σ'=> ∃j,Sub σ' (I j)∧μ j<μ i) Q)):Dw P (.loop c) σ Q:=fun av w0 β a w hr=>by
 refine bD (ι:=Option ι) (fun i=>match i with|none=>σ|some i=>I i) (fun i=>match i with|none=>M|some i=>μ i) none ⟨rfl,fun _ _ h=>h,fun _ _ h=>h,hr.wf⟩ (fun i=>?_) av w0 β a w hr
 cases i with
 |none=>
  refine first.mono fun e σ' h=>?_
  cases e with
  |normal=>obtain⟨j,h1,h2⟩:=h;exact⟨some j,h1,h2⟩
  |_=>exact h
 |some i=>
  refine(round i).mono fun e σ' h=>?_
  cases e with
  |normal=>obtain⟨j,h1,h2⟩:=h;exact⟨some j,h1,h2⟩
  |_=>exact h
theorem iY {us rest:List CellD}{n c m:Nat}(h:us.length=n*m) (hr:rest.length=(c-n)*m) (hn:n≤c):(us++rest).length=c*m:=by
 rw[List.length_append,h,hr,←Nat.add_mul];congr 1;omega
theorem fX {us rest:List CellD}{n m:Nat}(h:us.length=n*m):(us++rest).take (n*m)=us:=by rw[←h];simp
theorem gP {n:Nat}(h:n≤1000000):n≤maxLen:=Nat.le_trans h (by decide)
end
structure Pt where
 a1:Rat
 b1:Rat
 a2:Rat
 b2:Rat
 c:Rat
structure Ln where
 a:Rat
 b:Rat
 c:Rat
structure Ci where
 x:Rat
 y:Rat
 q:Rat
inductive Cv where
 |seg (l:Ln) (p q:Pt)
 |arc (k:Ci) (w:Bool) (p q:Pt)
def ua:List CellD:=[.b false,.s 0 [],.b false,.s 0 []]
def cS:List CellD:=ua++ua++ua
def au (p:Pt):List CellD:=cR p.a1++cR p.b1++cR p.a2++cR p.b2++cR p.c
def dV (l:Ln):List CellD:=cR l.a++cR l.b++cR l.c
def ca (k:Ci):List CellD:=cR k.x++cR k.y++cR k.q
def aB:Cv→List CellD
 | .seg l p q=>[.b false]++dV l++cS++[.b false]++au p++au q
 | .arc k w p q=>[.b true]++cS++ca k++[.b w]++au p++au q
theorem aO (p:Pt):(au p).length=20:=rfl
theorem ak (c:Cv):(aB c).length=66:=by cases c<;>rfl
section
variable {α:Type}
def aI (enc:α→List CellD):List α→List CellD
 |[]=>[]
 |x::l=>enc x++aI enc l
variable {enc:α→List CellD}{m:Nat}
theorem aG (h: ∀x,(enc x).length=m): ∀l:List α,(aI enc l).length=l.length*m
 |[]=>by simp[aI]
 |x::l=>by
  show(enc x++aI enc l).length=(l.length+1)*m
  rw[List.length_append,h,aG h l,Nat.add_mul];omega
theorem fA: ∀l r:List α,aI enc (l++r)=aI enc l++aI enc r
 |[],r=>rfl
 |x::l,r=>by
  show enc x++aI enc (l++r)=enc x++aI enc l++aI enc r
  rw[fA l r,List.append_assoc]
theorem iH (x:α):aI enc [x]=enc x:=List.append_nil _
theorem lJ (h: ∀x,(enc x).length=m) (l:List α) (j:Nat):(aI enc l).drop (j*m)=aI enc (l.drop j):=by
 by_cases hj:j≤l.length
 ·have e:aI enc l=aI enc (l.take j)++aI enc (l.drop j):=by rw[←fA,List.take_append_drop]
  have hl:(aI enc (l.take j)).length=j*m:=by rw[aG h,List.length_take,Nat.min_eq_left hj]
  rw[e,←hl,List.drop_left]
 ·rw[List.drop_eq_nil_of_le (by rw[aG h];exact Nat.mul_le_mul_right _ (by omega)),List.drop_eq_nil_of_le (by omega)];rfl
theorem lK (h: ∀x,(enc x).length=m) (l:List α) (j:Nat):(aI enc l).take (j*m)=aI enc (l.take j):=by
 by_cases hj:j≤l.length
 ·have e:aI enc l=aI enc (l.take j)++aI enc (l.drop j):=by rw[←fA,List.take_append_drop]
  have hl:(aI enc (l.take j)).length=j*m:=by rw[aG h,List.length_take,Nat.min_eq_left hj]
  rw[e,←hl,List.take_left]
 ·rw[List.take_of_length_le (by rw[aG h];exact Nat.mul_le_mul_right _ (by omega)),List.take_of_length_le (by omega)]
theorem bz (h: ∀x,(enc x).length=m) {l:List α}{j:Nat}{x:α}(hj:l[j]? =some x):(aI enc l).drop (j*m)=enc x++aI enc (l.drop (j+1)):=by
 obtain⟨h1,h2⟩:=List.getElem?_eq_some_iff.1 hj
 rw[lJ h,List.drop_eq_getElem_cons h1,h2];rfl
theorem bi {l:List α}{j:Nat}{d:α}(h:j<l.length):l[j]? =some (l.getD j d):=by
 rw[List.getD,List.getElem?_eq_getElem h];rfl
theorem jN {l:List α}{j:Nat}{d:α}(h:j<l.length):l.take (j+1)=l.take j++[l.getD j d]:=by
 rw[List.take_add_one,List.getD,List.getElem?_eq_getElem h];rfl
theorem b8 {l:List α}{j:Nat}{d:α}(h:j<l.length):l.getD j d∈l:=by
 rw[List.getD,List.getElem?_eq_getElem h];exact List.getElem_mem h
end
def dPt:Pt:=⟨0,0,0,0,0⟩
def bn:Cv:=.seg ⟨0,0,0⟩ dPt dPt
def Cv.p:Cv→Pt
 | .seg _ p _=>p
 | .arc _ _ p _=>p
def Cv.q:Cv→Pt
 | .seg _ _ q=>q
 | .arc _ _ _ q=>q
def Cv.isArc:Cv→Bool
 | .seg ..=>false
 | .arc ..=>true
def Cv.cw:Cv→Bool
 | .seg ..=>false
 | .arc _ w _ _=>w
def Cv.ends:Cv→Pt→Pt→Cv
 | .seg l _ _,p,q=>.seg l p q
 | .arc k w _ _,p,q=>.arc k w p q
def Cv.rev:Cv→Cv
 | .seg l p q=>.seg l q p
 | .arc k w p q=>.arc k (!w) q p
def vA (l:Ln) (p:Pt):Rat:=l.a*p.a1+l.b*p.a2-l.c
def vB (l:Ln) (p:Pt):Rat:=l.a*p.b1+l.b*p.b2
def d9 (l:Ln) (p:Pt):Int:=s3 (vA l p) (rB (vB l p) p.c) (rC (vB l p) p.c)
def Gu (k:Ci) (p:Pt):Rat:=F8 (p.a1-k.x) (p.a2-k.y) p.b1 p.b2 p.c+ -k.q
def Al (k:Ci) (p:Pt):Rat:=HH (p.a1-k.x) (p.a2-k.y) p.b1 p.b2
def iu (k:Ci) (p:Pt):Int:= -s3 (Gu k p) (Al k p) (zc (Al k p) p.c)
def Cv.supp:Cv→Pt→Bool
 | .seg l _ _,p=>d9 l p==0
 | .arc k _ _ _,p=>iu k p==0
def lH (p:Pt) (v:Rat):Int:=cm (p.a1-v) p.b1 (zc p.b1 p.c)
def fT (p:Pt) (v:Rat):Int:=cm (p.a2-v) p.b2 (zc p.b2 p.c)
def ji (k:Ci) (p:Pt):Bool:=decide (fT p k.y>0)||(fT p k.y==0&&decide (lH p k.x>0))
def cx (p q:Pt):Int:=rH p.a1 p.b1 p.c q.a1 q.b1 q.c
def cy (p q:Pt):Int:=rH p.a2 p.b2 p.c q.a2 q.b2 q.c
def cP (p q:Pt):Int:=jZ p.a1 p.b1 p.a2 p.b2 p.c q.a1 q.b1 q.a2 q.b2 q.c
def fJ (k:Ci) (p q:Pt):Int:=if ji k p !=ji k q then(if ji k q then-1 else 1) else if ji k p then-cx p q else cx p q
def qE (k:Ci) (f p q:Pt):Int:=if decide (fJ k p f<0) !=decide (fJ k q f<0) then(if decide (fJ k q f<0) then-1 else 1) else fJ k p q
def Pt.flip (p:Pt):Pt:=⟨-p.a1,-p.b1,p.a2,p.b2,p.c⟩
def Ci.mir (k:Ci):Ci:=⟨-k.x,k.y,k.q⟩
def Cv.ord:Cv→Pt→Pt→Int
 | .seg _ f t,p,q=>if decide (cP f t>0) then-cP p q else cP p q
 | .arc k w f _,p,q=>if !w then qE k f p q else qE k.mir f.flip p.flip q.flip
def Cv.on (c:Cv) (p:Pt):Bool:=c.supp p&&decide (c.ord c.p p≤0)&&decide (c.ord p c.q≤0)
def jd (c:Cv) (x:Pt):List Pt→Nat
 |[]=>0
 |o::l=>if c.ord o x<0 then jd c x l+1 else 0
def gp (c:Cv) (out:List Pt) (x:Pt):List Pt:=
 if jd c x out<out.length∧cP (out.getD (jd c x out) dPt) x=0 then out else out.take (jd c x out)++x::out.drop (jd c x out)
def cr (c:Cv) (l:List Pt):List Pt:=l.foldl (gp c) []
def gT (c:Cv):List Pt→List Cv
 |p::q::l=>c.ends p q::gT c (q::l)
 |_=>[]
def eE (c:Cv) (l:List Pt):List Cv:=gT c (cr c ([c.p,c.q]++l))
def pf (x y:Rat):Bool:=aV x y==0
def fV:Cv→Cv→Bool
 | .seg l _ _,.seg m _ _=>pf (l.a*m.b) (l.b*m.a)&&pf (l.a*m.c) (l.c*m.a)&&pf (l.b*m.c) (l.c*m.b)
 | .arc k _ _ _,.arc d _ _ _=>pf k.x d.x&&pf k.y d.y&&pf k.q d.q
 |_,_=>false
def fv (a1 b1 a2 b2 c:Rat):Pt:=if go c then⟨a1+b1*rt c,0,a2+b2*rt c,0,0⟩ else⟨a1,b1,a2,b2,c⟩
def oO (l m:Ln):Rat:=l.a*m.b-m.a*l.b
def MA (l m:Ln):Rat:=l.c*m.b-m.c*l.b
def MM (l m:Ln):Rat:=l.a*m.c-m.a*l.c
def jy (l m:Ln):List Pt:=if aV (oO l m) 0≠0 then[⟨MA l m/oO l m,0,MM l m/oO l m,0,0⟩] else[]
def ny (l m:Ln):Int:=if aV (oO l m) 0≠0 then 0 else if aV (MA l m) 0=0∧aV (MM l m) 0=0 then 10 else 0
def i7 (l:Ln):Rat:=l.a*l.a+l.b*l.b
def pd (l:Ln) (x y:Rat):Rat:=l.a*x+l.b*y-l.c
def oE (l:Ln) (k:Ci):Rat:=i7 l*k.q-pd l k.x k.y*pd l k.x k.y
def Ct (l:Ln) (k:Ci):Rat:=k.x-pd l k.x k.y/i7 l*l.a
def BC (l:Ln) (k:Ci):Rat:=k.y-pd l k.x k.y/i7 l*l.b
def L7 (l:Ln) (k:Ci):Pt:=fv (Ct l k) (-(l.b/i7 l)) (BC l k) (-(-l.a/i7 l)) (oE l k)
def L9 (l:Ln) (k:Ci):Pt:=fv (Ct l k) (l.b/i7 l) (BC l k) (-l.a/i7 l) (oE l k)
def iw (l:Ln) (k:Ci):List Pt:=
 if aV (oE l k) 0<0 then[] else if aV (oE l k) 0=0 then[⟨Ct l k,0,BC l k,0,0⟩]
 else if cP (L7 l k) (L9 l k)>0 then[L9 l k,L7 l k] else[L7 l k,L9 l k]
def tg (k d:Ci):Bool:=pf k.x d.x&&pf k.y d.y
def Ij (k:Ci):Rat:=k.x*k.x+k.y*k.y-k.q
def NF (k d:Ci):Ln:=⟨2*(d.x-k.x),2*(d.y-k.y),Ij d-Ij k⟩
def oa (k d:Ci):List Pt:=if tg k d then[] else iw (NF k d) k
def tM (k d:Ci):Int:=if tg k d then(if aV k.q d.q=0 then 10 else 0) else 0
def ms:Cv→Cv→List Pt
 | .arc k _ _ _,.arc d _ _ _=>oa k d
 | .arc k _ _ _,.seg l _ _=>iw l k
 | .seg l _ _,.arc k _ _ _=>iw l k
 | .seg l _ _,.seg m _ _=>jy l m
def Bg:Cv→Cv→Int
 | .arc k _ _ _,.arc d _ _ _=>tM k d
 | .seg l _ _,.seg m _ _=>ny l m
 |_,_=>0
theorem mA (c:Cv):(aB c)[0]? =some (.b c.isArc):=by cases c<;>rfl
theorem qA (c:Cv):(aB c)[25]? =some (.b c.cw):=by cases c<;>rfl
theorem dW (c:Cv):((aB c).drop 26).take 20=au c.p:=by cases c<;>rfl
theorem dY (c:Cv):((aB c).drop 46).take 20=au c.q:=by cases c<;>rfl
theorem bv (c:Cv):List.take 66 (List.drop 0 (aB c))=aB c:=by rw[List.drop_zero,←ak c];exact List.take_length
def Cv.qc:Cv→List CellD
 | .seg _ _ _=>ua
 | .arc k _ _ _=>cR k.q
theorem nn (c:Cv):c.qc.length=4:=by cases c<;>rfl
theorem kn (c:Cv):((aB c).drop 21).take 4=c.qc:=by cases c<;>rfl
theorem o7 {m:Nat}{zs xs:List CellD}(hz:zs.length=m) (hx:xs.length=m):qG (fun i=>some (i*m,m)) (List.replicate 1 zs).flatten [(0,.a xs)]=some xs:=by
 subst hz
 simp[qG,D0.cells,hx]
theorem EB {m:Nat}{xs ys:List CellD}(hx:xs.length=m):(xs++ys).drop (1*m)=ys++[]:=by rw[Nat.one_mul,←hx,List.drop_left,List.append_nil]
theorem dE {m:Nat}{xs:List CellD}(hx:xs.length=m):xs.length=1*m:=by omega
def Cv.setp:Cv→Pt→Cv
 | .seg l _ q,p=>.seg l p q
 | .arc k w _ q,p=>.arc k w p q
theorem qj (c:Cv) (p:Pt):(aB c).take 26++au p++(aB c).drop 46=aB (c.setp p):=by cases c<;>rfl
theorem x5 (c:Cv) (p q:Pt):(aB (c.setp p)).take 46++au q++(aB (c.setp p)).drop 66=aB (c.ends p q):=by cases c<;>rfl
def dC (c d:Cv) (p:Pt):Bool:=c.on p&&d.on p
def a8 (c d:Cv):List Pt:=if fV c d then[c.p,c.q,d.p,d.q] else ms c d
def cT (c d:Cv):List Pt:=cr c ((a8 c d).filter (dC c d))
def fU (c d:Cv):Cv:=if (c.isArc&&d.isArc&&(c.cw !=d.cw))||(!c.isArc&&(cP c.p c.q !=cP d.p d.q)) then d.rev else d
def FT (d:Cv) (l:List Pt):Nat→Bool
 |0=>false
 |i+1=>FT d l i||decide (d.ord (l.getD i dPt) (l.getD (i+1) dPt)<0)
def wu (c d:Cv):Bool:=if fV c d then FT (fU c d) (cT c d) ((cT c d).length-1) else false
section
variable {c d:Cv}
theorem UT (h:c.isArc=false) (g:(cP c.p c.q !=cP d.p d.q)=true):fU c d=d.rev:=by unfold fU;rw[h,g];rfl
theorem VE (h:c.isArc=false) (g:(cP c.p c.q !=cP d.p d.q)=false):fU c d=d:=by unfold fU;rw[h,g];rfl
theorem U5 (h:c.isArc=true) (g:d.isArc=false):fU c d=d:=by unfold fU;rw[h,g];rfl
theorem Vb (h:c.isArc=true) (g:d.isArc=true) (e:(!(c.cw==d.cw))=true):fU c d=d.rev:=by unfold fU;rw[h,g,show(c.cw !=d.cw)=true from e];rfl
theorem VF (h:c.isArc=true) (g:d.isArc=true) (e:(!(c.cw==d.cw))=false):fU c d=d:=by unfold fU;rw[h,g,show(c.cw !=d.cw)=false from e];rfl
end
structure GP (p:Pt):Prop where
 a1:Rz 113 p.a1
 b1:Rz 21 p.b1
 a2:Rz 113 p.a2
 b2:Rz 21 p.b2
 c:Rz 78 p.c
 ir:p.c≠0→Rz 52 p.a1∧Rz 52 p.a2
 v:sI p.b1 p.b2 p.c=true
structure GL (l:Ln):Prop where
 a:Rz 4 l.a
 b:Rz 4 l.b
 c:Rz 17 l.c
 n:i7 l≠0
structure GK (k:Ci):Prop where
 x:Rz 1 k.x
 y:Rz 1 k.y
 q:Rz 2 k.q
def Cv.good:Cv→Prop
 | .seg l p q=>GL l∧GP p∧GP q
 | .arc k _ p q=>GK k∧GP p∧GP q
theorem Ng {b1 b2 c:Rat}(h:sI b1 b2 c=true):sI (-b1) b2 c=true:=by
 unfold sI at*
 by_cases h1:b1=0
 ·rw[show-b1=b1 by grind];exact h
 ·rw[if_neg (by grind)] at h;rw[if_neg (by grind)];exact h
theorem GP.flip {p:Pt}(h:GP p):GP p.flip:=⟨h.a1.neg,h.b1.neg,h.a2,h.b2,h.c,fun e=>⟨(h.ir e).1.neg,(h.ir e).2⟩,Ng h.v⟩
theorem GK.mir {k:Ci}(h:GK k):GK k.mir:=⟨h.x.neg,h.y,h.q⟩
theorem GP.rat {v w:Rat}(h:Rz 113 v) (g:Rz 113 w):GP ⟨v,0,w,0,0⟩:=⟨h,Rz.zero (by decide),g,Rz.zero (by decide),Rz.zero (by decide),fun e=>absurd rfl e,by unfold sI;rw[if_pos ⟨rfl,rfl⟩];exact decide_eq_true rfl⟩
theorem GP.dPt:GP dPt:=GP.rat (Rz.zero (by decide)) (Rz.zero (by decide))
theorem GP.getD {l:List Pt}(h: ∀p∈l,GP p) (j:Nat):GP (l.getD j Go.Proofs.YtkmdgigkbhmilaaGreat.dPt):=by
 by_cases hj:j<l.length
 ·exact h _ (b8 hj)
 ·rw[List.getD,List.getElem?_eq_none (by omega)];exact GP.dPt
section
variable {c:Cv}{x:Pt}
theorem EP: ∀l:List Pt,jd c x l≤l.length
 |[]=>Nat.le_refl _
 |o::l=>by
  show(if c.ord o x<0 then jd c x l+1 else 0)≤l.length+1
  have:=EP l
  split<;>omega
theorem Ao: ∀ {l:List Pt}{k:Nat},k≤l.length→(∀j,j<k→c.ord (l.getD j dPt) x<0)→(k=l.length∨ ¬c.ord (l.getD k dPt) x<0)→jd c x l=k
 |[],k,h,_,_=>by
  have:k=0:=by simpa using h
  subst this;rfl
 |o::l,k,h,h1,h2=>by
  show(if c.ord o x<0 then jd c x l+1 else 0)=k
  match k with
  |0=>
   rcases h2 with h2|h2
   ·simp at h2
   ·exact if_neg (show ¬c.ord o x<0 from h2)
  |k+1=>
   rw[if_pos (show c.ord o x<0 from h1 0 (by omega)),Ao (l:=l) (k:=k) (by simpa using h) (fun j hj=>h1 (j+1) (by omega)) (h2.imp (fun e=>by simpa using e) id)]
theorem rr {out:List Pt}{y:Pt}(h:y∈gp c out x):y∈out∨y=x:=by
 unfold gp at h
 split at h
 ·exact .inl h
 ·rcases List.mem_append.1 h with h|h
  ·exact .inl (List.mem_of_mem_take h)
  ·rcases List.mem_cons.1 h with h|h
   ·exact .inr h
   ·exact .inl (List.mem_of_mem_drop h)
theorem KY {out:List Pt}:out.length≤(gp c out x).length∧(gp c out x).length≤out.length+1:=by
 unfold gp
 split
 ·omega
 ·rw[List.length_append,List.length_cons,List.length_take,List.length_drop]
  omega
end
theorem Bh {c:Cv}: ∀(l out:List Pt) {y:Pt},y∈l.foldl (gp c) out→y∈out∨y∈l
 |[],out,y,h=>.inl h
 |x::l,out,y,h=>by
  rcases Bh l (gp c out x) h with h|h
  ·exact(rr h).imp id fun e=>by rw[e];exact List.mem_cons_self
  ·exact .inr (List.mem_cons_of_mem _ h)
theorem j7 {c:Cv}{l:List Pt}{y:Pt}(h:y∈cr c l):y∈l:=(Bh l [] h).elim (fun e=>by cases e) id
theorem vw {c:Cv}: ∀(l out:List Pt),out.length≤(l.foldl (gp c) out).length∧(l.foldl (gp c) out).length≤out.length+l.length
 |[],out=>⟨Nat.le_refl _,Nat.le_refl _⟩
 |x::l,out=>by
  have h1:=KY (c:=c) (x:=x) (out:=out)
  have h2:=vw (c:=c) l (gp c out x)
  show out.length≤(l.foldl (gp c) (gp c out x)).length∧(l.foldl (gp c) (gp c out x)).length≤out.length+(l.length+1)
  omega
theorem nC {c:Cv}{l:List Pt}:(cr c l).length≤l.length:=by
 have:=(vw (c:=c) l []).2
 rw[List.length_nil,Nat.zero_add] at this
 exact this
theorem nF {c:Cv}{l:List Pt}{i:Nat}(h:i<l.length):cr c (l.take (i+1))=gp c (cr c (l.take i)) (l.getD i dPt):=by
 unfold cr
 rw[jN (d:=dPt) h,List.foldl_append];rfl
theorem Gs {c:Cv}{l:List Pt}{i:Nat}(h:l.length≤i):cr c (l.take i)=cr c l:=by rw[List.take_of_length_le h]
theorem Ou {c:Cv}{out:List Pt}{x:Pt}{k:Nat}(hs:jd c x out=k) (h:k<out.length) (he:cP (out.getD k dPt) x=0):gp c out x=out:=by
 unfold gp;rw[hs,if_pos ⟨h,he⟩]
theorem sA {c:Cv}{out:List Pt}{x:Pt}{k:Nat}(hs:jd c x out=k) (h: ¬(k<out.length∧cP (out.getD k dPt) x=0)):gp c out x=out.take k++x::out.drop k:=by
 unfold gp;rw[hs,if_neg h]
theorem sb {out:List Pt}{x:Pt}{k:Nat}:aI au (out.take k++x::out.drop k)=aI au (out.take k)++au x++aI au (out.drop k):=by
 rw[fA]
 show _++(au x++aI au (out.drop k))=_
 rw[List.append_assoc]
theorem ju {out:List Pt}{x:Pt}{k:Nat}(h:k≤out.length):(out.take k++x::out.drop k).length=out.length+1:=by
 rw[List.length_append,List.length_cons,List.length_take,List.length_drop];omega
theorem fZ (c:Cv): ∀l:List Pt,(gT c l).length=l.length-1
 |[]=>rfl
 |[_]=>rfl
 |p::q::l=>by
  show(gT c (q::l)).length+1=l.length+1+1-1
  rw[fZ c (q::l)]
  show l.length+1-1+1=_
  omega
theorem tp (c:Cv): ∀ {l:List Pt}{i:Nat},i+1<l.length→gT c (l.take (i+2))=gT c (l.take (i+1))++[c.ends (l.getD i dPt) (l.getD (i+1) dPt)]
 |p::q::l,0,_=>rfl
 |p::q::l,i+1,h=>by
  show c.ends p q::gT c ((q::l).take (i+2))=c.ends p q::gT c ((q::l).take (i+1))++_
  rw[tp c (l:=q::l) (i:=i) (by simpa using h)];rfl
 |[_],i,h=>by simp at h
 |[],i,h=>by simp at h
theorem Gy (c:Cv) {l:List Pt}:gT c (l.take 1)=[]:=by
 match l with
 |[]=>rfl
 |p::l=>rfl
theorem cn {c:Cv}(h:c.good):GP c.p:=by cases c<;>exact h.2.1
theorem cH {c:Cv}(h:c.good):GP c.q:=by cases c<;>exact h.2.2
theorem yG {c:Cv}(h:c.good) {p q:Pt}(hp:GP p) (hq:GP q):(c.ends p q).good:=by cases c<;>exact⟨h.1,hp,hq⟩
theorem wn {c:Cv}(h:c.good):c.rev.good:=by cases c<;>exact⟨h.1,h.2.2,h.2.1⟩
theorem rG (A B C D M N:Rat): -1≤iX A B C D M N∧iX A B C D M N≤1:=by
 unfold iX
 split
 ·decide
 ·exact EN (fq _ _ _) (ei (fq _ _ _) (dm _ _)) (fq _ _ _)
theorem H0 (a b c:Rat): -1≤s3 a b c∧s3 a b c≤1:=by
 unfold s3
 have h1:=dm a 0
 have h2:=dm b 0
 split
 ·exact h1
 ·split
  ·exact h2
  ·split
   ·exact h1
   ·exact h2
theorem fC (p q:Pt): -1≤cx p q∧cx p q≤1:=rG _ _ _ _ _ _
theorem OD (p q:Pt): -1≤cP p q∧cP p q≤1:=by
 unfold cP jZ
 split
 ·exact rG _ _ _ _ _ _
 ·exact rG _ _ _ _ _ _
theorem Tq {k:Nat}{b c:Rat}(h:Rz k b) (hk:1≤k):Rz k (rB b c):=by
 unfold rB
 split
 ·exact Rz.zero hk
 ·exact h
theorem Tu {k:Nat}{b c:Rat}(h:Rz k c) (hk:1≤k):Rz k (rC b c):=by
 unfold rC
 split
 ·exact Rz.zero hk
 ·exact h
theorem lm {x:Int}(h: -1000000000<x) (h':x<1000000000):Sz 1 x:=by
 have e:pw 1=1000000000:=by decide+kernel
 exact⟨by omega,by omega⟩
theorem mN {n:Int}(h: -1≤n∧n≤1):IntKind.i64.wrap (0-n)= -n:=by rw[Int.zero_sub];exact iU (by omega) (by omega)
theorem UU {p q:Pt}(h:(cx p q !=0)=true):cP p q=cx p q:=Og h
theorem VH {p q:Pt}(h:(cx p q !=0)=false):cP p q=cy p q:=Nf h
theorem Pa {k:Ci}{p:Pt}(h:decide (fT p k.y>0)=true):ji k p=true:=by unfold ji;rw[h];rfl
theorem IM {k:Ci}{p:Pt}(h:decide (fT p k.y>0)=false) (g:(fT p k.y==0)=false):ji k p=false:=by unfold ji;rw[h,g];rfl
theorem DQ {k:Ci}{p:Pt}(h:decide (fT p k.y>0)=false) (g:(fT p k.y==0)=true):ji k p=decide (lH p k.x>0):=by unfold ji;rw[h,g];rfl
theorem Mz {k:Ci}{p q:Pt}(h:(!(ji k p==ji k q))=true) (g:ji k q=true):fJ k p q= -1:=by
 unfold fJ;rw[show(ji k p !=ji k q)=true from h,if_pos rfl,g,if_pos rfl]
theorem JF {k:Ci}{p q:Pt}(h:(!(ji k p==ji k q))=true) (g:ji k q=false):fJ k p q=1:=by
 unfold fJ;rw[show(ji k p !=ji k q)=true from h,if_pos rfl,g];rfl
theorem KU {k:Ci}{p q:Pt}(h:(!(ji k p==ji k q))=false) (g:ji k p=true):fJ k p q= -cx p q:=by
 unfold fJ;rw[show(ji k p !=ji k q)=false from h,if_neg (by decide),g,if_pos rfl]
theorem Jq {k:Ci}{p q:Pt}(h:(!(ji k p==ji k q))=false) (g:ji k p=false):fJ k p q=cx p q:=by
 unfold fJ;rw[show(ji k p !=ji k q)=false from h,if_neg (by decide),g];rfl
theorem SC {k:Ci}{f p q:Pt}(h:(!(decide (fJ k p f<0)==decide (fJ k q f<0)))=true) (g:decide (fJ k q f<0)=true):qE k f p q= -1:=by
 unfold qE;rw[show(decide (fJ k p f<0) !=decide (fJ k q f<0))=true from h,if_pos rfl,g,if_pos rfl]
theorem QB {k:Ci}{f p q:Pt}(h:(!(decide (fJ k p f<0)==decide (fJ k q f<0)))=true) (g:decide (fJ k q f<0)=false):qE k f p q=1:=by
 unfold qE;rw[show(decide (fJ k p f<0) !=decide (fJ k q f<0))=true from h,if_pos rfl,g];rfl
theorem T2 {k:Ci}{f p q:Pt}(h:(!(decide (fJ k p f<0)==decide (fJ k q f<0)))=false):qE k f p q=fJ k p q:=by
 unfold qE;rw[show(decide (fJ k p f<0) !=decide (fJ k q f<0))=false from h];rfl
theorem Qd {l:Ln}{f t p q:Pt}(h:decide (cP f t>0)=true):(Cv.seg l f t).ord p q= -cP p q:=by
 show(if _ then _ else _)=_
 rw[if_pos h]
theorem RK {l:Ln}{f t p q:Pt}(h:decide (cP f t>0)=false):(Cv.seg l f t).ord p q=cP p q:=by
 show(if _ then _ else _)=_
 rw[if_neg (by rw[h];decide)]
theorem QI {k:Ci}{w:Bool}{f t p q:Pt}(h:(!w)=true):(Cv.arc k w f t).ord p q=qE k f p q:=by
 show(if _ then _ else _)=_
 rw[if_pos h]
theorem Ru {k:Ci}{w:Bool}{f t p q:Pt}(h:(!w)=false):(Cv.arc k w f t).ord p q=qE k.mir f.flip p.flip q.flip:=by
 show(if _ then _ else _)=_
 rw[if_neg (by rw[h];decide)]
theorem RW {c:Cv}{p:Pt}(h:c.supp p=false):c.on p=false:=by unfold Cv.on;rw[h];rfl
theorem Pv {c:Cv}{p:Pt}(h:c.supp p=true) (g:decide (c.ord c.p p≤0)=false):c.on p=false:=by unfold Cv.on;rw[h,g];rfl
theorem O2 {c:Cv}{p:Pt}(h:c.supp p=true) (g:decide (c.ord c.p p≤0)=true):c.on p=decide (c.ord p c.q≤0):=by unfold Cv.on;rw[h,g];rfl
theorem QL {p:Pt}(h:sI p.b1 p.b2 p.c=true) (hs:go p.c=true):p.b1=0∧p.b2=0∧p.c=0:=by
 unfold sI at h
 split at h
 ·next e=>exact⟨e.1,e.2,of_decide_eq_true h⟩
 ·rw[hs] at h;simp at h
theorem Qy {l:Ln}{p:Pt}(h:sI p.b1 p.b2 p.c=true) (hs:go p.c=true):vA l p+vB l p*rt p.c=vA l p∧0=rB (vB l p) p.c∧0=rC (vB l p) p.c:=by
 obtain⟨h1,h2,h3⟩:=QL h hs
 have hb:vB l p=0:=by unfold vB;rw[h1,h2];grind
 rw[hb]
 exact⟨by grind,(En (.inl rfl)).symm,(Df (.inl rfl)).symm⟩
theorem FR {l:Ln}{p:Pt}(hl:GL l) (hp:GP p):Rz 1000 (vA l p):=(((hl.a.mul hp.a1).add (hl.b.mul hp.a2)).sub hl.c).mono (by decide)
theorem EA {l:Ln}{p:Pt}(hl:GL l) (hp:GP p):Rz 1000 (vB l p):=((hl.a.mul hp.b1).add (hl.b.mul hp.b2)).mono (by decide)
theorem JW {k:Ci}{p:Pt}(hk:GK k) (hp:GP p):Rz 453 (p.a1-k.x)∧Rz 453 (p.a2-k.y):=⟨(hp.a1.sub hk.x).mono (by decide),(hp.a2.sub hk.y).mono (by decide)⟩
theorem JV {k:Ci}{p:Pt}(hk:GK k) (hp:GP p):Rz 4500 (F8 (p.a1-k.x) (p.a2-k.y) p.b1 p.b2 p.c):=by
 obtain⟨h1,h2⟩:=JW hk hp
 exact((((h1.mul h1).add (h2.mul h2)).add (((hp.b1.mul hp.b1).add (hp.b2.mul hp.b2)).mul hp.c))).mono (by decide)
theorem Js {k:Ci}{p:Pt}(hk:GK k) (hp:GP p):Rz 5000 (Gu k p):=((JV hk hp).add hk.q.neg).mono (by decide)
theorem Ls {k:Ci}{p:Pt}(hk:GK k) (hp:GP p):Rz 4000 (Al k p):=by
 obtain⟨h1,h2⟩:=JW hk hp
 exact(((h1.mul hp.b1).add (h2.mul hp.b2)).add ((h1.mul hp.b1).add (h2.mul hp.b2))).mono (by decide)
theorem Nr (x:Rat):0≤x*x:=by
 rcases Rat.le_total (a:=0) (b:=x) with h|h
 ·exact Rat.mul_nonneg h h
 ·have:=Rat.mul_nonneg (a:= -x) (b:= -x) (by grind) (by grind);grind
theorem KA {x:Rat}(h:x*x=0):x=0:=by
 by_cases e:x=0
 ·exact e
 ·exact absurd (Rat.mul_eq_zero.1 h) (by simp[e])
theorem Fe {x y:Rat}(h:x*x+y*y=0):x=0∧y=0:=by
 have h1:=Nr x
 have h2:=Nr y
 exact⟨KA (by grind),KA (by grind)⟩
theorem fu {x:Rat}:aV x 0=0↔x=0:=by
 unfold aV
 constructor
 ·intro h;split at h
  ·cases h
  ·split at h
   ·cases h
   ·grind
 ·intro h;subst h;rw[if_neg (by decide),if_neg (by decide)]
theorem eG (x:Rat):aV x x=0:=by unfold aV;rw[if_neg (by grind),if_neg (by grind)]
theorem JQ {x:Rat}(h: ¬aV x 0<0):0≤x:=by
 unfold aV at h
 split at h
 ·exact absurd (by decide:(-1:Int)<0) h
 ·grind
theorem uV {x:Rat}(h: ¬aV x 0<0) (g: ¬aV x 0=0):0<x:=by
 have h1:=JQ h
 have h2:x≠0:=fun e=>g (fu.2 e)
 grind
theorem EU {k:Nat}{x:Int}(h:Sz (k+k) x):Sz k (bP x):=by
 have h0:=ep x
 rcases Int.lt_or_le x 0 with hx|hx
 ·rw[ph hx]
  have:=dJ k
  exact⟨by omega,by omega⟩
 ·have h1:=oe hx
  have h2:pw (k+k)=pw k*pw k:=qQ k k
  have h3:=h.lt
  have h4:=dJ k
  refine⟨?_,by omega⟩
  rcases Int.lt_or_le (bP x) (pw k) with g|g
  ·exact g
  ·have h5:pw k*pw k≤bP x*bP x:=Int.mul_le_mul g g (by omega) h0
   omega
theorem Kf {k:Nat}{c:Rat}(h:Rz (k+k) c):Rz k (rt c):=Rz.of (EU h.n) (EU h.d) (by have:=sB (den_pos c);omega)
theorem si {a1 b1 a2 b2 c:Rat}(h1:Rz 52 a1) (h2:Rz 21 b1) (h3:Rz 52 a2) (h4:Rz 21 b2) (h5:Rz 78 c) (h0:0<c) (hb: ¬(b1=0∧b2=0)):GP (fv a1 b1 a2 b2 c):=by
 unfold fv
 cases hs:go c with
 |true=>
  rw[if_pos rfl]
  exact GP.rat ((h1.add (h2.mul (Kf (k:=39) h5))).mono (by decide)) ((h3.add (h4.mul (Kf (k:=39) h5))).mono (by decide))
 |false=>
  rw[if_neg (by decide)]
  refine⟨h1.mono (by decide),h2.mono (by decide),h3.mono (by decide),h4.mono (by decide),h5.mono (by decide),fun _=>⟨h1,h3⟩,?_⟩
  show sI b1 b2 c=true
  unfold sI
  rw[if_neg hb,hs,decide_eq_true h0];rfl
section
variable {l m:Ln}{k d:Ci}
theorem oY (hl:GL l) (hk:GK k):Rz 29 (pd l k.x k.y):=(((hl.a.mul hk.x).add (hl.b.mul hk.y)).sub hl.c).mono (by decide)
theorem oB (hl:GL l):Rz 17 (i7 l):=((hl.a.mul hl.a).add (hl.b.mul hl.b)).mono (by decide)
theorem BQ (hl:GL l) (hk:GK k):Rz 46 (pd l k.x k.y/i7 l):=(oY hl hk).div (oB hl) hl.n
theorem pW (hl:GL l) (hk:GK k):Rz 52 (Ct l k):=(hk.x.sub ((BQ hl hk).mul hl.a)).mono (by decide)
theorem pO (hl:GL l) (hk:GK k):Rz 52 (BC l k):=(hk.y.sub ((BQ hl hk).mul hl.b)).mono (by decide)
theorem ui (hl:GL l) (hk:GK k):Rz 78 (oE l k):=(((oB hl).mul hk.q).sub ((oY hl hk).mul (oY hl hk))).mono (by decide)
theorem Be (hl:GL l):Rz 21 (l.b/i7 l):=(hl.b.div (oB hl) hl.n).mono (by decide)
theorem CG (hl:GL l):Rz 21 (-l.a/i7 l):=(hl.a.neg.div (oB hl) hl.n).mono (by decide)
theorem Pq (hl:GL l): ¬(l.b/i7 l=0∧ -l.a/i7 l=0):=by
 rintro⟨h1,h2⟩
 have hn:=hl.n
 have e1:l.b=0:=by
  have:l.b/i7 l*i7 l=l.b:=Rat.div_mul_cancel hn
  rw[h1] at this;grind
 have e2: -l.a=0:=by
  have: -l.a/i7 l*i7 l= -l.a:=Rat.div_mul_cancel hn
  rw[h2] at this;grind
 refine hn ?_
 unfold i7
 rw[show l.a=0 by grind,e1];grind
theorem Ef (hl:GL l) (hk:GK k) (h: ¬aV (oE l k) 0<0) (g: ¬aV (oE l k) 0=0):GP (L9 l k):=
 si (pW hl hk) (Be hl) (pO hl hk) (CG hl) (ui hl hk) (uV h g) (Pq hl)
theorem D4 (hl:GL l) (hk:GK k) (h: ¬aV (oE l k) 0<0) (g: ¬aV (oE l k) 0=0):GP (L7 l k):=
 si (pW hl hk) (Be hl).neg (pO hl hk) (CG hl).neg (ui hl hk) (uV h g) (fun e=>Pq hl ⟨by grind,by grind⟩)
theorem sO (hl:GL l) (hk:GK k): ∀p∈iw l k,GP p:=by
 intro p hp
 unfold iw at hp
 split at hp
 ·cases hp
 ·rename_i h
  split at hp
  ·rw[List.mem_singleton] at hp;subst hp
   exact GP.rat ((pW hl hk).mono (by decide)) ((pO hl hk).mono (by decide))
  ·rename_i g
   split at hp
   ·rcases List.mem_cons.1 hp with e|e
    ·rw[e];exact Ef hl hk h g
    ·rw[List.mem_singleton] at e;rw[e];exact D4 hl hk h g
   ·rcases List.mem_cons.1 hp with e|e
    ·rw[e];exact D4 hl hk h g
    ·rw[List.mem_singleton] at e;rw[e];exact Ef hl hk h g
theorem yW (hl:GL l) (hm:GL m):Rz 17 (oO l m):=((hl.a.mul hm.b).sub (hm.a.mul hl.b)).mono (by decide)
theorem Lf (hl:GL l) (hm:GL m):Rz 43 (MA l m):=((hl.c.mul hm.b).sub (hm.c.mul hl.b)).mono (by decide)
theorem K7 (hl:GL l) (hm:GL m):Rz 43 (MM l m):=((hl.a.mul hm.c).sub (hm.a.mul hl.c)).mono (by decide)
theorem HD (hl:GL l) (hm:GL m): ∀p∈jy l m,GP p:=by
 intro p hp
 unfold jy at hp
 split at hp
 ·rename_i h
  have h0:oO l m≠0:=fun e=>h (fu.2 e)
  rw[List.mem_singleton] at hp;subst hp
  exact GP.rat (((Lf hl hm).div (yW hl hm) h0).mono (by decide)) (((K7 hl hm).div (yW hl hm) h0).mono (by decide))
 ·cases hp
theorem uk (hk:GK k):Rz 8 (Ij k):=(((hk.x.mul hk.x).add (hk.y.mul hk.y)).sub hk.q).mono (by decide)
theorem Ej:Rz 1 (2:Rat):=⟨by rw[show(2:Rat).num=2 from rfl];exact lm (by decide) (by decide),by rw[show((2:Rat).den:Int)=1 from rfl];exact Sz.one (by decide)⟩
theorem FJ (hk:GK k) (hd:GK d) (h:tg k d=false):GL (NF k d):=by
 refine⟨(Ej.mul (hd.x.sub hk.x)).mono (by decide),(Ej.mul (hd.y.sub hk.y)).mono (by decide),((uk hd).sub (uk hk)).mono (by decide),fun e=>?_⟩
 have e1:=Fe (show(2*(d.x-k.x))*(2*(d.x-k.x))+(2*(d.y-k.y))*(2*(d.y-k.y))=0 from e)
 have hx:k.x=d.x:=by grind
 have hy:k.y=d.y:=by grind
 unfold tg pf at h
 rw[hx,hy] at h
 simp[eG] at h
theorem Lr (hk:GK k) (hd:GK d): ∀p∈oa k d,GP p:=by
 intro p hp
 unfold oa at hp
 split at hp
 ·cases hp
 ·rename_i h
  exact sO (FJ hk hd (by simpa using h)) hk p hp
theorem KS {a c:Cv}(ha:a.good) (hc:c.good): ∀p∈ms a c,GP p:=by
 intro p hp
 cases a<;>cases c
 ·exact HD ha.1 hc.1 p hp
 ·exact sO ha.1 hc.1 p hp
 ·exact sO hc.1 ha.1 p hp
 ·exact Lr ha.1 hc.1 p hp
theorem ya {a c:Cv}(ha:a.good) (hc:c.good): ∀p∈a8 a c,GP p:=by
 intro p hp
 unfold a8 at hp
 split at hp
 ·simp only[List.mem_cons,List.not_mem_nil,or_false] at hp
  rcases hp with e|e|e|e
  ·rw[e];exact cn ha
  ·rw[e];exact cH ha
  ·rw[e];exact cn hc
  ·rw[e];exact cH hc
 ·exact KS ha hc p hp
theorem nM {a c:Cv}(ha:a.good) (hc:c.good): ∀p∈cT a c,GP p:=fun p hp=>ya ha hc p (List.mem_filter.1 (j7 hp)).1
theorem rg:(iw l k).length≤2:=by
 unfold iw
 repeat' split
 all_goals simp
theorem Hi {a c:Cv}:(ms a c).length≤2:=by
 cases a<;>cases c
 ·show(jy _ _).length≤2
  unfold jy;split<;>simp
 ·exact rg
 ·exact rg
 ·show(oa _ _).length≤2
  unfold oa;split
  ·simp
  ·exact rg
theorem vr {a c:Cv}:(a8 a c).length≤4:=by
 unfold a8
 split
 ·simp
 ·have:=Hi (a:=a) (c:=c);omega
theorem jI {a c:Cv}:(cT a c).length≤4:=by
 have h1:=nC (c:=a) (l:=(a8 a c).filter (dC a c))
 have h2:=List.length_filter_le (dC a c) (a8 a c)
 have h3:=vr (a:=a) (c:=c)
 unfold cT;omega
end
def vv (k d:Ci):Bool:=pf k.x d.x&&pf k.y d.y&&pf k.q d.q
def wI (l m:Ln):Bool:=pf (l.a*m.b) (l.b*m.a)&&pf (l.a*m.c) (l.c*m.a)&&pf (l.b*m.c) (l.c*m.b)
section
variable {l m:Ln}{k d:Ci}
theorem KI (h:decide (aV (oE l k) 0<0)=true):iw l k=[]:=by unfold iw;rw[if_pos (of_decide_eq_true h)]
theorem H9 (h:decide (aV (oE l k) 0<0)=false) (g:(aV (oE l k) 0==0)=true):iw l k=[⟨Ct l k,0,BC l k,0,0⟩]:=by
 unfold iw;rw[if_neg (of_decide_eq_false h),if_pos (by simpa using g)]
theorem Ik (h:decide (aV (oE l k) 0<0)=false) (g:(aV (oE l k) 0==0)=false) (q:decide (cP (L7 l k) (L9 l k)>0)=true):iw l k=[L9 l k,L7 l k]:=by
 unfold iw;rw[if_neg (of_decide_eq_false h),if_neg (by simpa using g),if_pos (of_decide_eq_true q)]
theorem I2 (h:decide (aV (oE l k) 0<0)=false) (g:(aV (oE l k) 0==0)=false) (q:decide (cP (L7 l k) (L9 l k)>0)=false):iw l k=[L7 l k,L9 l k]:=by
 unfold iw;rw[if_neg (of_decide_eq_false h),if_neg (by simpa using g),if_neg (of_decide_eq_false q)]
theorem AP (h:(aV (oO l m) 0 !=0)=true):jy l m=[⟨MA l m/oO l m,0,MM l m/oO l m,0,0⟩]∧ny l m=0:=by
 unfold jy ny;rw[if_pos (by simpa using h),if_pos (by simpa using h)];exact⟨rfl,rfl⟩
theorem yw (h:(aV (oO l m) 0 !=0)=false) (g:(aV (MA l m) 0==0)=true) (q:(aV (MM l m) 0==0)=true):jy l m=[]∧ny l m=10:=by
 unfold jy ny;rw[if_neg (by simpa using h),if_neg (by simpa using h),if_pos ⟨by simpa using g,by simpa using q⟩];exact⟨rfl,rfl⟩
theorem xD (h:(aV (oO l m) 0 !=0)=false) (g:(aV (MA l m) 0==0)=false):jy l m=[]∧ny l m=0:=by
 unfold jy ny;rw[if_neg (by simpa using h),if_neg (by simpa using h),if_neg (fun e=>by simp[e.1] at g)];exact⟨rfl,rfl⟩
theorem yE (h:(aV (oO l m) 0 !=0)=false) (q:(aV (MM l m) 0==0)=false):jy l m=[]∧ny l m=0:=by
 unfold jy ny;rw[if_neg (by simpa using h),if_neg (by simpa using h),if_neg (fun e=>by simp[e.2] at q)];exact⟨rfl,rfl⟩
theorem IK (h:tg k d=true) (g:(aV k.q d.q==0)=true):oa k d=[]∧tM k d=10:=by
 unfold oa tM;rw[if_pos h,if_pos h,if_pos (by simpa using g)];exact⟨rfl,rfl⟩
theorem LB (h:tg k d=true) (g:(aV k.q d.q==0)=false):oa k d=[]∧tM k d=0:=by
 unfold oa tM;rw[if_pos h,if_pos h,if_neg (by simpa using g)];exact⟨rfl,rfl⟩
theorem IY (h:tg k d=false):oa k d=iw (NF k d) k∧tM k d=0:=by
 unfold oa tM;rw[if_neg (by rw[h];decide),if_neg (by rw[h];decide)];exact⟨rfl,rfl⟩
end
theorem RdC.clo_eq {V:Nat→Prop}{w:World}{v:Value}{g:FuncId}{xs:List CellD}(h:RdC V w v (.k g xs)): ∃cs:Array Value,v=.func (.func g) #[] cs∧RdCs V w cs.toList xs:=by
 cases h with
 |k _ cs _ h1 h2=>exact⟨cs,rfl,by simpa using h1,fun j v u hv hu=>h2 j v u (by simpa using hv) hu⟩
theorem RdC.ptr_eq {V:Nat→Prop}{w:World}{v:Value}{us:List CellD}(h:RdC V w v (.p us)):
 ∃b off,∃vs:List Value,v=.pointer (some ⟨b,off,none⟩)∧b<w.heap.size∧ ¬V b∧RdCs V w vs us∧ ∀(j:Nat) (u:Value),vs[j]? =some u→w.cell? ⟨b,off+j,none⟩=some u:=by
 cases h with
 |p b off _ cv h1 h2 h3 h4=>
  refine⟨b,off,(List.range us.length).map cv,rfl,h1,h2,⟨by simp,fun j v u hv hu=>?_⟩,fun j u hu=>?_⟩
  ·rw[List.getElem?_map] at hv
   have hlt:j<us.length:=(List.getElem?_eq_some_iff.1 hu).1
   rw[List.getElem?_range hlt] at hv
   injection hv with hv;subst hv
   exact h4 j u hu
  ·have hlt:j<us.length:=by
    have:=(List.getElem?_eq_some_iff.1 hu).1;simpa using this
   rw[List.getElem?_map,List.getElem?_range hlt] at hu
   injection hu with hu;subst hu
   exact h3 j hlt
section
variable {P:Program}{ops:Array Oper}{T:TF}{B:BF}
theorem iN {U:TypeId}{x:Operand}{n:Nat}{cs us:List CellD}
 (hU:nv P U=some (true,n)) (hx:di T x=some (.v (.c (.p cs)))) (hu:cs.take n=us) (hn:us.length=n) (hg:gd ops ⟨dst,.load U x,ty,pos,af,g⟩ T=some true):
 Sem P ops ⟨dst,.load U x,ty,pos,af,g⟩ T B (.r (.v (.a us))):=
 bO hg (mG rfl) (fun V β a w hs=>by
  obtain⟨b,off,vs,hp,_,_,hr,hc⟩:=RdC.ptr_eq (aS hs (by simp[Op.operands]) hx)
  have hr2:=hr.take n
  rw[hu] at hr2
  have hrun:=jv (w:=w) hU (b:=b) (off:=off) (vs:=vs.take n) (by rw[hr2.1,hn]) (fun j v hv=>by
   rw[List.getElem?_take] at hv
   split at hv
   ·exact hc j v hv
   ·cases hv)
  refine⟨_,?_,_,rfl,by simpa using hr2⟩
  simp only[execOp,Instr.loadAt,hp,Instr.sureAddr,Sem.run_bind,Sem.run_pure,Result.andThen_ok,hrun])
theorem vO {U:TypeId}{x:Operand}{n:Nat}{cs:List CellD}{u:CellD}
 (hU:nv P U=some (false,n)) (hx:di T x=some (.v (.c (.p cs)))) (hu:cs[0]? =some u) (hg:gd ops ⟨dst,.load U x,ty,pos,af,g⟩ T=some true):
 Sem P ops ⟨dst,.load U x,ty,pos,af,g⟩ T B (.r (.v (.c u))):=
 bO hg (mG rfl) (fun V β a w hs=>by
  obtain⟨b,off,vs,hp,_,_,hr,hc⟩:=RdC.ptr_eq (aS hs (by simp[Op.operands]) hx)
  have hlt:0<cs.length:=(List.getElem?_eq_some_iff.1 hu).1
  have hv:vs[0]? =some (vs[0]'(by rw[hr.1];exact hlt)):=List.getElem?_eq_getElem _
  have hrun:=js (P:=P) (w:=w) hU (b:=b) (off:=off) (by have:=hc 0 _ hv;simpa using this)
  refine⟨_,?_,hr.2 0 _ _ hv hu⟩
  simp only[execOp,Instr.loadAt,hp,Instr.sureAddr,Sem.run_bind,Sem.run_pure,Result.andThen_ok,hrun])
def FD (T:TF):List Operand→Option (List CellD)
 |[]=>some []
 |x::xs=>match di T x,FD T xs with
  |some (.v (.c u)),some us=>some (u::us)
  |_,_=>none
theorem tC {o:Oper}{V:Nat→Prop}{β:Nat→Nat}{a:Act}{w:World}(hs:Sees V (gy ops o) T B β a w): ∀(xs:List Operand) (us:List CellD),(∀x∈xs,x∈o.op.operands)→FD T xs=some us→RdCs V w (xs.map a.eval) us
 |[],us,_,h=>by injection h with h;subst h;exact RdCs.nil
 |x::xs,us,hx,h=>by
  unfold FD at h
  split at h
  ·rename_i u us' hu hus
   injection h with h
   subst h
   exact RdCs.cons (aS hs (hx x (by simp)) hu) (tC hs xs us' (fun y hy=>hx y (by simp[hy])) hus)
  ·cases h
theorem kU {f:FuncId}{cap:Array Operand}{us:List CellD}
 (ha:FD T cap.toList=some us) (hg:gd ops ⟨dst,.makeFunc (.func f) #[] cap,ty,pos,af,g⟩ T=some true):
 Sem P ops ⟨dst,.makeFunc (.func f) #[] cap,ty,pos,af,g⟩ T B (.r (.v (.c (.k f us)))):=
 bO hg (mG rfl) (fun V β a w hs=>by
  have h2:=tC hs cap.toList us (fun x hx=>by have hx2:=Array.mem_toList_iff.1 hx;simp[Op.operands,hx2]) ha
  refine⟨.func (.func f) #[] (cap.map a.eval),by simp[execOp,Instr.makeFunc],.k f _ us (by have:=h2.1;simpa using this) (fun j v u hv hu=>h2.2 j v u ?_ hu)⟩
  rw[←Array.toList_map,Array.getElem?_toList];exact hv)
theorem RdL.append {V:Nat→Prop}{w:World}: ∀ {vs vs':List Value}{ds ds':List D0},RdL V w vs ds→RdL V w vs' ds'→RdL V w (vs++vs') (ds++ds')
 |[],vs',[],ds',_,h'=>h'
 |[],_,_::_,_,h,_=>by have:=h.1;simp at this
 |_::_,_,[],_,h,_=>by have:=h.1;simp at this
 |v::vs,vs',d::ds,ds',h,h'=>by
  obtain⟨h1,h2⟩:=h.uncons
  exact RdL.cons h1 (RdL.append h2 h')
theorem RdCs.toL {V:Nat→Prop}{w:World}{vs:List Value}{us:List CellD}(h:RdCs V w vs us):RdL V w vs (us.map .c):=by
 refine⟨by simp[h.1],fun j v d hv hd=>?_⟩
 rw[List.getElem?_map] at hd
 cases hu:us[j]? with
 |none=>rw[hu] at hd;cases hd
 |some u=>rw[hu] at hd;injection hd with hd;subst hd;exact h.2 j v u hv hu
theorem gK {fo:Operand}{args:Array Operand}{at_:Array TypeId}{f:FuncId}{ds rs:List D0}{us:List CellD}
 (hf:di T fo=some (.v (.c (.k f us)))) (ha:nI T args.toList=some ds) (hok:Ok P f (ds++us.map .c) rs) (hg:gd ops ⟨dst,.call ⟨.value fo,args,at_⟩,ty,pos,af,g⟩ T=some true):
 Sem P ops ⟨dst,.call ⟨.value fo,args,at_⟩,ty,pos,af,g⟩ T B (.r (s8 rs)):=by
 refine⟨mG (by unfold s8;split<;>rfl),fun V β a w hs=>⟨d8 hs hg,?_⟩⟩
 obtain⟨cs,h1,h1r⟩:=RdC.clo_eq (aS hs (x:=fo) (by simp[Op.operands,Call.operands]) hf)
 have h2:=gU hs args.toList ds (fun x hx=>by have hx2:=Array.mem_toList_iff.1 hx;simp[Op.operands,Call.operands,hx2]) ha
 have hc:=hok.cal
 unfold fg at hc
 cases hfn:P.funcs[f]? with
 |none=>rw[hfn] at hc;cases hc
 |some fn=>
  rw[hfn] at hc
  simp only[Bool.and_eq_true,bne_iff_ne,ne_eq,Bool.not_eq_true'] at hc
  have hrun:(execOp a.eval ⟨dst,.call ⟨.value fo,args,at_⟩,ty,pos,af,g⟩).run P w=.ok (.enter f (args.map a.eval++cs)) w:=by
   have hb2:fn.body≠none:=by have:=hc.2;cases hbb:fn.body with
    |none=>rw[hbb] at this;cases this
    |some c=>simp
   simp[execOp,resolve,h1,Deferred.ofValue,invoke,callFunc,program,Sem.run,hfn,hc.1,hb2]
  unfold Gives
  rw[hrun]
  refine(hok.run V (args.map a.eval++cs) w hs.av (by rw[Array.toList_append,Array.toList_map];exact h2.append h1r.toL)).mono ?_
  rintro e w' ⟨v,rfl,hr,hb⟩
  refine⟨v,rfl,?_,hb⟩
  unfold OY at hr
  split at hr
  ·exact hr
  ·rename_i hne
   have e2:s8 rs=.t rs:=by
    unfold s8
    split
    ·rename_i d;exact absurd rfl (hne d)
    ·rfl
   rw[e2];exact hr
end
section
variable {P:Program}{σ:St}{Q:Exit→St→Prop}
theorem jD {c:Code}{N t k:Nat}{tm:List (Nat×DV)}{bx:List (Nat×TypeId×List CellD)}{U:TypeId}{cs:List CellD}
 (ht:aT t tm=some (.p k 0)) (hb:aT k bx=some (U,cs))
 (h:Dw P c ⟨N,(t,.v (.c (.p cs)))::jg k tm,iK k bx⟩ Q):Dw P c ⟨N,tm,bx⟩ Q:=fun av w0 β a w hr=>by
 obtain⟨v,hv,hx⟩:=hr.sees.tmp t _ trivial ht
 have hx:v=.pointer (some ⟨β k,0,none⟩):=hx
 subst hx
 obtain⟨hvk,vs,ev,hrd⟩:=hr.sees.box k U cs hb
 have hk0:(St.B ⟨N,tm,bx⟩) k≠none:=by rw[show(St.B ⟨N,tm,bx⟩) k=some (U,cs) from hb];simp
 have e:=Ad hr hk0
 have hkeep:Keep (fun b=>av b∨ ∃l,(St.B ⟨N,tm,bx⟩) l≠none∧β l=b) (fun b=>(av b∨ ∃l,(St.B ⟨N,tm,bx⟩) l≠none∧β l=b)∧b≠β k) w w:=⟨Nat.le_refl _,fun _ _ _=>rfl,fun _ _ h=>h.1⟩
 have hread:RdC (fun b=>(av b∨ ∃l,(St.B ⟨N,tm,bx⟩) l≠none∧β l=b)∧b≠β k) w (.pointer (some ⟨β k,0,none⟩)) (.p cs):=by
  have hr2:=hrd.keep hkeep
  refine .p (β k) 0 cs (fun j=>vs.getD j undef) (hr.sees.av _ hvk) (fun h=>h.2 rfl) (fun j hj=>?_) (fun j u hj=>?_)
  ·rw[Nat.zero_add,cE ev]
   have:j<vs.size:=by have:=hrd.1;simp at this;omega
   simp[Array.getD,this]
  ·have hlt:j<cs.length:=(List.getElem?_eq_some_iff.1 hj).1
   refine hr2.2 j _ u ?_ hj
   rw[Array.getElem?_toList]
   have:j<vs.size:=by have:=hrd.1;simp at this;omega
   simp[Array.getD,this]
 have h2:=(hr.drop k).upd (t:=t) (x:=.v (.c (.p cs))) hv (by rw[e];exact hread) rfl
 refine h av w0 β a w (h2.congr (fun s=>?_) (fun l=>?_))
 ·show aT s ((t,.v (.c (.p cs)))::jg k tm)=_
  rw[bq]
  split
  ·rfl
  ·rw[jC]
   show _=kV k (fun s=>aT s tm) s
   unfold kV
   try (dsimp only)
   try (generalize aT s tm=q;cases q<;>rfl)
 ·exact iE k l bx
end
structure OkS (P:Program) (f:FuncId) (U:TypeId) (n c:Nat) (cs0 cs1:List CellD) (ds:List D0):Prop where
 cal:fg P f=true
 run: ∀(V:Nat→Prop) (b:Nat) (bs vs:Array Value) (vl:List Value) (w:World),vs.toList=.slice (some ⟨b,0,none⟩) n c::vl→(∀x,V x→x<w.heap.size)→V b→w.heap[b]? =some (.cells bs U (0,0))→RdCs V w bs.toList cs0→RdL V w vl ds→
  Calls P f vs w fun e w'=> ∃bs':Array Value,e=.returned (.tuple #[])∧w'.heap[b]? =some (.cells bs' U (0,0))∧Mid b w w'∧RdCs V w' bs'.toList cs1
section
variable {P:Program}
theorem O1 {V:Nat→Prop}{b:Nat}{bs vs:Array Value}{vl:List Value}{w:World}{U:TypeId}{n m N K:Nat}{cs0:List CellD}{ds:List D0}(hlen:ds.length+1≤N) (hK:N≤K) (hvs:vs.toList=.slice (some ⟨b,0,none⟩) n m::vl) (hV: ∀x,V x→x<w.heap.size) (hVb:V b)
 (hbl:w.heap[b]? =some (.cells bs U (0,0))) (hcs:RdCs V w bs.toList cs0) (hds:RdL V w vl ds):
 Rel (fun x=>V x∧x≠b) ⟨w,fun x=>x=b,K⟩ (St.n ⟨N,(0,.o K n m)::jX 1 ds,[(K,U,cs0)]⟩) (St.T ⟨N,(0,.o K n m)::jX 1 ds,[(K,U,cs0)]⟩) (St.B ⟨N,(0,.o K n m)::jX 1 ds,[(K,U,cs0)]⟩) (fun _=>b)
  {tmps:=vs++Array.replicate (N-vs.size) undef,defers:=[]} w:=by
 have hvl:vs.size=ds.length+1:=by
  have h1:vs.toList.length=ds.length+1:=by rw[hvs,List.length_cons,hds.1]
  simpa using h1
 have hT: ∀(k:Nat) (ds:List D0) (t:Nat) (x:DV),aT t (jX k ds)=some x→ ∃j d,t=k+j∧ds[j]? =some d∧x=.v d:=by
  intro k ds
  induction ds generalizing k with
  |nil=>intro t x h;cases h
  |cons d ds ih=>
   intro t x h
   unfold jX at h
   rw[bq] at h
   split at h
   ·rename_i e;injection h with h;exact⟨0,d,by omega,rfl,h.symm⟩
   ·obtain⟨j,d',e1,e2,e3⟩:=ih (k+1) t x h
    exact⟨j+1,d',by omega,by simpa using e2,e3⟩
 have hT0: ∀t x,aT t ((0,DV.o K n m)::jX 1 ds)=some x→(t=0∧x=.o K n m)∨ ∃j d,t=1+j∧ds[j]? =some d∧x=.v d:=by
  intro t x h
  rw[bq] at h
  split at h
  ·rename_i e;injection h with h;exact .inl ⟨e.symm,h.symm⟩
  ·exact .inr (hT 1 ds t x h)
 have hB: ∀k y,aT k [(K,U,cs0)]=some y→k=K∧y=(U,cs0):=by
  intro k y h
  rw[bq] at h
  split at h
  ·rename_i e;injection h with h;exact⟨e.symm,h.symm⟩
  ·cases h
 have hBn: ∀k,aT k [(K,U,cs0)]≠none→k=K:=by
  intro k hk
  cases e:aT k [(K,U,cs0)] with
  |none=>exact absurd e hk
  |some y=>exact(hB k y e).1
 have hKb:aT K [(K,U,cs0)]=some (U,cs0):=by rw[bq,if_pos rfl]
 have hkeep:Keep V (fun x=>(V x∧x≠b)∨ ∃k,(St.B ⟨N,(0,.o K n m)::jX 1 ds,[(K,U,cs0)]⟩) k≠none∧b=x) w w:=
  ⟨Nat.le_refl _,fun _ _ _=>rfl,fun x _ hx=>by
   rcases hx with hx|⟨k,_,hx⟩
   ·exact hx.1
   ·rw[←hx];exact hVb⟩
 refine⟨rfl,by simp;omega,BelE.refl _,fun x hx=>hV x hx.1,fun x hx e=>hx.2 e,hK,fun x hx _=>hx.symm,fun k l hk hl _=>(hBn k hk).trans (hBn l hl).symm,fun k _=>.inr rfl,?_,?_,?_,?_⟩
 ·intro t x k ht hx
  rcases hT0 t x ht with⟨_,rfl⟩|⟨j,d,_,_,rfl⟩
  ·injection hx with hx
   subst hx
   show aT K [(K,U,cs0)]≠none
   rw[hKb];simp
  ·cases hx
 ·rintro x (hx|⟨k,hk,hx⟩)
  ·exact hV x hx.1
  ·have hx:b=x:=hx
   rw[←hx];exact hV b hVb
 ·intro k U' cs hk
  obtain⟨rfl,e⟩:=hB k _ hk
  injection e with e1 e2
  subst e1 e2
  exact⟨.inr ⟨k,by show aT k [(k,U',cs)]≠none;rw[hKb];simp,rfl⟩,bs,hbl,hcs.keep hkeep⟩
 ·intro t x _ ht
  rcases hT0 t x ht with⟨rfl,rfl⟩|⟨j,d,e1,e2,rfl⟩
  ·have hv:vs.toList[0]? =some (.slice (some ⟨b,0,none⟩) n m):=by rw[hvs];rfl
   refine⟨.slice (some ⟨b,0,none⟩) n m,?_,rfl⟩
   show(vs++Array.replicate (N-vs.size) undef)[0]? =_
   rw[Array.getElem?_append_left (by omega),←Array.getElem?_toList];exact hv
  ·have hlt:j<vl.length:=by rw[hds.1];exact(List.getElem?_eq_some_iff.1 e2).1
   have hv:vl[j]? =some vl[j]:=List.getElem?_eq_getElem hlt
   have hv2:vs.toList[t]? =some vl[j]:=by rw[hvs,e1,Nat.add_comm 1 j,List.getElem?_cons_succ];exact hv
   have hlt2:t<vs.size:=by have:=(List.getElem?_eq_some_iff.1 hv2).1;simpa using this
   refine⟨vl[j],?_,(hds.2 j _ d hv e2).keep hkeep⟩
   show(vs++Array.replicate (N-vs.size) undef)[t]? =_
   rw[Array.getElem?_append_left hlt2,←Array.getElem?_toList];exact hv2
theorem OH {V:Nat→Prop}{b K:Nat}{w w':World}{N:Nat}{T:TF}{B:BF}{β:Nat→Nat}{a:Act}{U:TypeId}{cs1:List CellD}(hr:Rel (fun x=>V x∧x≠b) ⟨w,fun x=>x=b,K⟩ N T B β a w') (hbx:B K=some (U,cs1)):
 β K=b∧ ∃bs':Array Value,w'.heap[b]? =some (.cells bs' U (0,0))∧Mid b w w'∧RdCs V w' bs'.toList cs1:=by
 obtain⟨hvv,bs',ebl,hrd⟩:=hr.sees.box K U cs1 hbx
 have hBK:B K≠none:=by rw[hbx];simp
 have hfix:β K=b:=hr.fix b rfl hBK
 rw[hfix] at ebl
 have hkeep2:Keep (fun x=>(V x∧x≠b)∨ ∃l,B l≠none∧β l=x) V w' w':=⟨Nat.le_refl _,fun _ _ _=>rfl,fun x _ hx=>by
  by_cases e:x=b
  ·exact .inr ⟨K,hBK,hfix.trans e.symm⟩
  ·exact .inl ⟨hx,e⟩⟩
 exact⟨hfix,bs',ebl,⟨hr.bel.os,hr.bel.tape,hr.bel.output,hr.bel.size,fun c hc hne=>hr.bel.block c hc hne⟩,hrd.keep hkeep2⟩
theorem OkS.of {f:FuncId}{fn:Func}{c:Code}{U:TypeId}{n m K:Nat}{cs0 cs1:List CellD}{ds:List D0}(hcal:fg P f=true) (hf:P.funcs[f]? =some fn) (hb:fn.body=some c) (hlen:Nat.ble (ds.length+1) fn.ntmps=true) (hK:Nat.ble fn.ntmps K=true) (hres:fn.results= #[])
 (h:Dw P c ⟨fn.ntmps,(0,.o K n m)::jX 1 ds,[(K,U,cs0)]⟩ fun e σ=>(e=.normal∨e=.ret)∧aT K σ.bx=some (U,cs1)):OkS P f U n m cs0 cs1 ds:=by
 refine⟨hcal,fun V b bs vs vl w hvs hV hVb hbl hcs hds=>calls_of_wp hf hb ?_⟩
 refine Code.wp_mono ?_ (h _ _ (fun _=>b) _ w (O1 (Nat.le_of_ble_eq_true hlen) (Nat.le_of_ble_eq_true hK) hvs hV hVb hbl hcs hds))
 rintro e a' w' ⟨σ',β',hn,⟨he,hbx⟩,hr⟩
 have hresults:(results fn a'.tmps).run P w'=.ok (.tuple #[]) w':=by
  unfold results
  rw[hres]
  simp[Array.mapM_eq_mapM_toList]
 obtain⟨_,bs',ebl,hm,hrd⟩:=OH hr hbx
 rcases he with rfl|rfl
 ·exact⟨hr.dfr,_,hresults,bs',rfl,ebl,hm,hrd⟩
 ·exact⟨hr.dfr,_,hresults,bs',rfl,ebl,hm,hrd⟩
variable {ops:Array Oper}{T:TF}{B:BF}
theorem j5 {fo x:Operand}{xs:List Operand}{args:Array Operand}{at_:Array TypeId}{f:FuncId}{k n c:Nat}{U:TypeId}{cs0 cs1:List CellD}{ds:List D0}
 (hf:di T fo=some (.v (.c (.f f)))) (hargs:args.toList=x::xs) (hx:di T x=some (.o k n c)) (ha:nI T xs=some ds) (hb:B k=some (U,cs0)) (hok:OkS P f U n c cs0 cs1 ds) (hg:gd ops ⟨dst,.call ⟨.value fo,args,at_⟩,ty,pos,af,g⟩ T=some true):
 Sem P ops ⟨dst,.call ⟨.value fo,args,at_⟩,ty,pos,af,g⟩ T B (.rs k U cs1 (.t [])):=by
 refine⟨rfl,⟨_,hb⟩,fun V β a w hs=>⟨d8 hs hg,?_⟩⟩
 have hin: ∀y∈x::xs,y∈(⟨dst,.call ⟨.value fo,args,at_⟩,ty,pos,af,g⟩:Oper).op.operands:=fun y hy=>by
  have hx2:y∈args:=Array.mem_toList_iff.1 (by rw[hargs];exact hy)
  simp[Op.operands,Call.operands,hx2]
 have h1:=RdC.func_eq (aS hs (x:=fo) (by simp[Op.operands,Call.operands]) hf)
 have h2:=gU hs xs ds (fun y hy=>hin y (List.mem_cons_of_mem _ hy)) ha
 have h3:a.eval x=.slice (some ⟨β k,0,none⟩) n c:=aS hs (hin x (List.mem_cons_self ..)) hx
 obtain⟨hV,bs,e,hr⟩:=hs.box k U cs0 hb
 have hc:=hok.cal
 unfold fg at hc
 cases hfn:P.funcs[f]? with
 |none=>rw[hfn] at hc;cases hc
 |some fn=>
  rw[hfn] at hc
  simp only[Bool.and_eq_true,bne_iff_ne,ne_eq,Bool.not_eq_true'] at hc
  have hrun:(execOp a.eval ⟨dst,.call ⟨.value fo,args,at_⟩,ty,pos,af,g⟩).run P w=.ok (.enter f (args.map a.eval)) w:=by
   have hb2:fn.body≠none:=by have:=hc.2;cases hbb:fn.body with
    |none=>rw[hbb] at this;cases this
    |some c=>simp
   simp[execOp,resolve,h1,Deferred.ofValue,invoke,callFunc,program,Sem.run,hfn,hc.1,hb2]
  unfold Gives
  rw[hrun]
  refine(hok.run V (β k) bs (args.map a.eval) (xs.map a.eval) w (by rw[Array.toList_map,hargs,List.map_cons,h3]) hs.av hV e hr h2).mono ?_
  rintro e w' ⟨bs',rfl,hbl,hm,hr1⟩
  exact⟨.tuple #[],rfl,bs',hbl,hm,hr1,_,rfl,RdL.nil⟩
end
section
variable {P:Program}{ops:Array Oper}{T:TF}{B:BF}
theorem iI {x h:Operand}{U:TypeId}{k n c q m:Nat}{ki:IntKind}
 (hU:qP P U=some m) (hx:di T x=some (.o k n c)) (hh:di T h=some (.v (.c (.i ki q)))) (hq:q≤n) (hnc:n≤c) (hg:gd ops ⟨dst,.slice U x (some h) none none,ty,pos,af,g⟩ T=some true):
 Sem P ops ⟨dst,.slice U x (some h) none none,ty,pos,af,g⟩ T B (.r (.w k (if q<c then q*m else 0) (n-q) (c-q))):=
 bO hg (fun k' e=>by
  obtain rfl:k=k':=by injection e
  exact mX (ops:=ops) (o:=⟨dst,.slice U x (some h) none none,ty,pos,af,g⟩) (by simp[Op.operands]) hx rfl) (fun V β a w hs=>by
  have e:a.eval x=.slice (some ⟨β k,0,none⟩) n c:=aS hs (x:=x) (by simp[Op.operands]) hx
  have h2:=RdC.int_eq (aS hs (x:=h) (by simp[Op.operands]) hh)
  unfold qP at hU
  split at hU
  case h_2=>cases hU
  rename_i el hul
  cases hinf:P.info? el with
  |none=>rw[hinf] at hU;cases hU
  |some inf=>
   rw[hinf] at hU
   simp at hU
   have hso: ∀w,(sizeOf el).run P w=.ok m w:=fun w=>by unfold sizeOf typeInfo;simp[program,Sem.run,hinf,hU]
   refine⟨.slice (some ⟨β k,if q<c then q*m else 0,none⟩) (n-q) (c-q),?_,rfl⟩
   by_cases hqc:q<c
   ·simp[execOp,Instr.sliceAt,Instr.slice,run_underlying hul,e,h2,Instr.sliceBounds,Instr.sliceBound,asIntOf,hq,hso,Addr.add,hqc,Nat.ne_of_gt hqc]
    exact fun h=>h.symm
   ·have hce:c=q:=by omega
    simp[execOp,Instr.sliceAt,Instr.slice,run_underlying hul,e,h2,Instr.sliceBounds,Instr.sliceBound,asIntOf,hq,hso,Addr.add,hce])
theorem Fa {V L:Nat→Prop}{w:World}{β:Nat→Nat}{a:Act}{k off q c m:Nat}{U:TypeId}{cs ys:List CellD}(hs:Sees V L T B β a w) (hb:B k=some (U,cs)) (hys:(cs.drop off).take (q*m)=ys)
 (hoff:0<q→off+q*m≤cs.length) (hqc:q≤c) (hc:c≤9223372036854775807):RdC (fun x=>V x∧x≠β k) w (.slice (some ⟨β k,off,none⟩) q c) (.s q ys):=by
 obtain⟨hV,bs,e,hr⟩:=hs.box k U cs hb
 rcases Nat.eq_zero_or_pos q with h0|h0
 ·subst h0
  rw[←hys];simp
  exact .s0 _ _ hc
 ·have hoff:=hoff h0
  have hkeep:Keep V (fun x=>V x∧x≠β k) w w:=⟨Nat.le_refl _,fun _ _ _=>rfl,fun _ _ h=>h.1⟩
  have hbl:bs.size=cs.length:=by have:=hr.1;simpa using this
  have hr2:=((hr.drop off).take (q*m)).keep hkeep
  rw[hys] at hr2
  refine .s (β k) off c m q ys (fun j=>bs.getD (off+j) undef) h0 hqc hc ?_ (hs.av _ hV) (fun h=>h.2 rfl) (fun j hj=>?_) (fun j u hj=>?_)
  ·rw[←hys,List.length_take,List.length_drop];omega
  ·rw[cE e]
   have:off+j<bs.size:=by omega
   simp[Array.getD,this]
  ·have hlt:j<ys.length:=(List.getElem?_eq_some_iff.1 hj).1
   have hlt2:j<q*m:=by rw[←hys,List.length_take] at hlt;omega
   refine hr2.2 j _ u ?_ hj
   rw[List.getElem?_take,if_pos hlt2,List.getElem?_drop,Array.getElem?_toList]
   have:off+j<bs.size:=by omega
   simp[Array.getD,this]
end
end Go.Proofs.YtkmdgigkbhmilaaGreat
