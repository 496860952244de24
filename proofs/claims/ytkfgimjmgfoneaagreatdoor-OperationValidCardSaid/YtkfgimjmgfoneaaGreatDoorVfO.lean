/-Data:the end of an own slice,as a slice of its own:its elements,its length. -/
import Derived.Test.YtkfgimjmgfoneaaGreatDoorVfN
import Derived.Deep.DeepAppendWide
namespace Go.Proofs.YtkfgimjmgfoneaaGreatDoor
open Go Go.RowKit
variable {a:Act}{B:BF}{w w2:Bool}{d k:Ci}{w0:Ent}{j:Int}{cs rest us ys zs:List CellD}{l m:Ln}{by_ c2 n off:Nat}{β:Nat→Nat}{av:Nat→Prop}{ax fo:Operand}{f p q t u:Pt}{a1 a2 b1 b2 c x y:Rat}{T:TF}{U V V0 W e ty:TypeId}{v:Value}
theorem fm:type_of% @Nat.lt_succ_iff_lt_or_eq:=@Nat.lt_succ_iff_lt_or_eq
def SQ (P:Program) (U:TypeId):Option (Nat×Nat):=
 match P.underlying U with
 |some (.array n e)=>(P.info? e).map fun i=>(n,i.size)
 |_=>none
section
variable {P:Program}{ops:Array Oper}{o:Oper}{os:List Oper}{K:St→Prop}{N:Nat}{tm:List (Nat×DV)}{bx:List (Nat×TypeId×List CellD)}
theorem Rel.updR {w:World}(h:Rel av w0 n T B β a w) {t:Nat}{x:DV}(hv:a.tmps[t]? =some v)
 (hx:RdX (fun b=>av b∨ ∃k,B k≠none∧β k=b) w β v x) (hr: ∀k,gB x=some k→B k≠none):Rel av w0 n (fun s=>if t=s then some x else T s) B β a w:=
 ⟨h.dfr,h.siz,h.bel,h.avl,h.avE,h.big,h.fix,h.inj,h.own,fun s y k hs hy=>by
  try dsimp only at hs
  split at hs
  ·injection hs with hs;subst hs;exact hr k hy
  ·exact h.wf s y k hs hy,h.sees.av,h.sees.box,fun s y hL hs=>by
  try dsimp only at hs
  split at hs
  ·rename_i e;injection hs with hs;subst hs;subst e;exact⟨v,hv,hx⟩
  ·exact h.sees.tmp s y hL hs⟩
theorem RdC.e_eq {w:World}{u:Value}(h:RdC av w v (.e u)):v=u:=by cases h;rfl
theorem Px {t:Nat}{x:DV}:(fun s=>an s ((t,x)::tm))=fun s=>if t=s then some x else an s tm:=funext fun _s=>aF ..
theorem J1 {t:Nat}{x:DV}(hs:Sem P ops o (fun s=>an s tm) (fun l=>an l bx) (.r x)) (hd:o.dst=some t) (F:St→Prop)
 (hc: ∀av w0 β a w,Rel av w0 N (fun s=>an s ((t,x)::tm)) (fun l=>an l bx) β a w→ ∃σ',F σ'∧σ'.n=N∧Rel av w0 N σ'.T σ'.B β a w) (hk: ∀σ',F σ'→dl P ops os σ' K):dl P ops (o::os) ⟨N,tm,bx⟩ K:=by
 refine .inr ⟨F,fun av w0 β a w hr htn=>?_,hk⟩
 obtain⟨hp,hs⟩:=hs
 have hr:Rel av w0 N (fun s=>an s tm) (fun l=>an l bx) β a w:=hr
 obtain⟨hw,hg⟩:=hs _ β a w (Sees.of hr.sees (fun _ _=>trivial) (fun _ _ _ h=>h) (fun _ _ h=>h))
 refine⟨hw,hg.mono fun v w' ⟨hx,hb⟩=>?_⟩
 have h2:=hr.value (d:=o.dst) (x:=x) htn hb hx (fun k e=>by
  obtain⟨t,y,_,ht,hy⟩:=hp k e
  exact hr.wf t y k ht hy)
 obtain⟨σ',h3,h4,h5⟩:=hc av w0 β _ w' (h2.congr (fun s=>by rw[aF,hd];simp) (fun _=>rfl))
 exact⟨σ',β,h3,h4,h5⟩
theorem BZ {t:Nat}(s:Nat) {k c:Nat}{x:DV}(hs:Sem P ops o (fun s=>an s tm) (fun l=>an l bx) (.r x)) (hd:o.dst=some t) (hl:an s ((t,x)::tm)=some (.o k n c))
 (hk: ∀v,dl P ops os ⟨N,(s,.oe k n c v)::(t,x)::tm,bx⟩ K):dl P ops (o::os) ⟨N,tm,bx⟩ K:=by
 refine J1 hs hd (fun σ'=> ∃v,σ'=⟨N,(s,.oe k n c v)::(t,x)::tm,bx⟩) (fun av w0 β a w hr=>?_) (fun σ' ⟨v,e⟩=>e▸hk v)
 obtain⟨v,hv,hx⟩:=hr.sees.tmp s _ trivial hl
 refine⟨_,⟨v,rfl⟩,rfl,?_⟩
 show Rel av w0 N (fun s'=>an s' ((s,DV.oe k n c v)::(t,x)::tm)) _ β a w
 rw[Px]
 exact hr.updR hv ⟨hx,rfl⟩ (fun l e=>hr.wf s _ l hl e)
theorem JX {t:Nat}(s:Nat) {k c:Nat}(hs:Sem P ops o (fun s=>an s tm) (fun l=>an l bx) (.r (.v (.c (.e v))))) (hd:o.dst=some t) (hne:s≠t) (hl:an s tm=some (.oe k n c v))
 (hk:dl P ops os ⟨N,(t,.o k n c)::tm,bx⟩ K):dl P ops (o::os) ⟨N,tm,bx⟩ K:=by
 refine J1 hs hd (fun σ'=>σ'=⟨N,(t,.o k n c)::tm,bx⟩) (fun av w0 β a w hr=>?_) (fun σ' e=>e▸hk)
 ·obtain⟨u,hu,hx⟩:=hr.sees.tmp t _ trivial (show an t ((t,DV.v (.c (.e v)))::tm)=_ by rw[aF,if_pos rfl])
  have hl2:an s ((t,DV.v (.c (.e v)))::tm)=some (.oe k n c v):=by rw[aF,if_neg (Ne.symm hne)];exact hl
  obtain⟨u2,hu2,hx2⟩:=hr.sees.tmp s _ trivial hl2
  have hx:RdC _ w u (.e v):=hx
  have e:u=v:=hx.e_eq
  refine⟨_,rfl,rfl,?_⟩
  refine(hr.updR (t:=t) (x:=.o k n c) hu (by show u=_;rw[e,←hx2.2];exact hx2.1) (fun l e=>hr.wf s _ l hl2 e)).congr (fun s'=>?_) (fun _=>rfl)
  show an s' ((t,DV.o k n c)::tm)=_
  rw[aF,aF]
  split<;>simp_all
theorem Ls {t:Nat}(hs:Sem P ops o (fun s=>an s tm) (fun l=>an l bx) (.r (.v (.c (.e (.slice none 0 0)))))) (hd:o.dst=some t) (hk:dl P ops os ⟨N,(t,.z)::tm,bx⟩ K):dl P ops (o::os) ⟨N,tm,bx⟩ K:=by
 refine J1 hs hd (fun σ'=>σ'=⟨N,(t,.z)::tm,bx⟩) (fun av w0 β a w hr=>?_) (fun σ' e=>e▸hk)
 obtain⟨u,hu,hx⟩:=hr.sees.tmp t _ trivial (show an t ((t,DV.v (.c (.e (.slice none 0 0))))::tm)=_ by rw[aF,if_pos rfl])
 have hx:RdC _ w u (.e (.slice none 0 0)):=hx
 have e:u=.slice none 0 0:=hx.e_eq
 refine⟨_,rfl,rfl,?_⟩
 refine(hr.updR (t:=t) (x:=.z) hu e (fun l e=>nomatch e)).congr (fun s'=>?_) (fun _=>rfl)
 show an s' ((t,DV.z)::tm)=_
 rw[aF,aF]
 split<;>simp_all
theorem wi {x:Operand}{pos:String}{af:Array Edge}{g:Option (Nat×Bool)}{p k c:Nat}
 (hU:kM P U=some (false,1)) (ha:bH T ax=some (.p p off)) (hx:bH T x=some (.oe k n c v)) (hb:B p=some (W,cs)) (ho:off+1≤cs.length) (hu:cs.take off++[.e v]++cs.drop (off+1)=us)
 (hg:gd ops ⟨none,.store U ax x,ty,pos,af,g⟩ T=some true):Sem P ops ⟨none,.store U ax x,ty,pos,af,g⟩ T B (.s p W us):=by
 refine⟨rfl,⟨cs,hb⟩,fun V β a w hs=>⟨dK hs hg,?_⟩⟩
 have hp:a.eval ax=.pointer (some ⟨β p,off,none⟩):=aw hs (by simp[Op.operands]) ha
 obtain⟨h1,h2⟩:a.eval x=.slice (some ⟨β k,0,none⟩) n c∧a.eval x=v:=aw hs (x:=x) (by simp[Op.operands]) hx
 obtain⟨_,vs,e,hr⟩:=hs.box p W cs hb
 obtain⟨_,hsz⟩:=pN hU w
 have hcell:(a.eval x).cells= #[v]:=by rw[h1,←h2,h1];rfl
 have hvl:vs.size=cs.length:=by rw[←hr.1];simp
 have hst:=run_storeCells_at (P:=P) (β p) off W (a.eval x).cells.toList 0 vs w e (by rw[hcell];simp;omega) (by rw[hcell];intro u hu;simp at hu;rw[hu,←h2,h1];rfl)
 have hrun:(execOp a.eval ⟨none,.store U ax x,ty,pos,af,g⟩).run P w=.ok .skip (w.setRow (β p) (vs.toList.take (off+0)++(a.eval x).cells.toList++vs.toList.drop (off+0+(a.eval x).cells.toList.length)).toArray):=by
  simp only[execOp,Instr.storeAt,hp,Instr.sureAddr,storeVar,ed,fq,eb,hsz]
  rw[if_neg (by simp[hcell])]
  rw[hst]
  rfl
 unfold Gives
 rw[hrun]
 refine⟨_,km e,rfl,rfl,rfl,?_⟩
 rw[←hu,hcell]
 exact dm (dm (hr.take off) (j5 (.e _ (by rw[←h2,h1];exact fun _ e=>nomatch e) (by rw[←h2,h1];exact fun _ e=>nomatch e)) lu)) (hr.drop (off+1))
variable {Q:Exit→St→Prop}{c:Code}
theorem Rel.cell {w:World}(h:Rel av w0 n T B β a w) {p:Nat}{u:CellD}(hb:B p=some (W,cs)) (hc:cs[off]? =some (.e v))
 (hu:RdC (fun b=>av b∨ ∃k,B k≠none∧β k=b) w v u):Rel av w0 n T (fun l=>if p=l then some (W,cs.take off++u::cs.drop (off+1)) else B l) β a w:=by
 have hB: ∀l,(if p=l then some (W,cs.take off++u::cs.drop (off+1)) else B l)≠none↔B l≠none:=by grind
 have hV:(fun b=>av b∨ ∃l,(if p=l then some (W,cs.take off++u::cs.drop (off+1)) else B l)≠none∧β l=b)=(fun b=>av b∨ ∃l,B l≠none∧β l=b):=by grind
 refine⟨h.dfr,h.siz,h.bel,h.avl,h.avE,h.big,fun b hb hK=>h.fix b hb ((hB _).1 hK),fun l m hl hm=>h.inj l m ((hB l).1 hl) ((hB m).1 hm),fun l hl=>h.own l ((hB l).1 hl),fun t x l hT hx=>(hB l).2 (h.wf t x l hT hx),?_⟩
 rw[hV]
 refine⟨h.sees.av,fun l U cs' hl=>?_,h.sees.tmp⟩
 by_cases e:p=l
 ·subst e
  rw[if_pos rfl] at hl
  injection hl with hl
  injection hl with h1 h2
  subst h1 h2
  obtain⟨hv,vs,e',hr⟩:=h.sees.box p W cs hb
  refine⟨hv,vs,e',?_⟩
  have hlt:off<cs.length:=(gF.1 hc).1
  have hlv:off<vs.toList.length:=by rw[hr.1];exact hlt
  have ev:vs.toList[off]=v:=by
   have h3:=hr.2 off _ _ (d7 hlv) hc
   exact h3.e_eq
  have key:=dm (hr.take off) (j5 (ev▸hu) (hr.drop (off+1)))
  rw[←kY hlv,vF] at key
  exact key
 ·rw[if_neg e] at hl
  exact h.sees.box l U cs' hl
theorem I6 {p:Nat}{u:CellD}(hb:an p bx=some (W,cs)) (hc:cs[off]? =some (.e v)) (hu: ∀V w,RdC V w v u) (hs:cs.take off++u::cs.drop (off+1)=us)
 (h:Dw P c ⟨N,tm,(p,W,us)::bx⟩ Q):Dw P c ⟨N,tm,bx⟩ Q:=fun av w0 β a w hr=>by
 have h2:=hr.cell (p:=p) (off:=off) (u:=u) hb hc (hu _ _)
 refine h av w0 β a w (h2.congr (fun _=>rfl) (fun l=>?_))
 show an l ((p,W,us)::bx)=_
 rw[aF,hs];rfl
theorem L1 {s p k n' c' m:Nat}{ds vs:List CellD}(hl:an s tm=some (.oe k n' c' v)) (hb:an k bx=some (U,cs)) (hpb:an p bx=some (W,ds)) (hpk:p≠k) (hc0:ds[off]? =some (.e v))
 (hm:cs.length=c'*m) (hn:n'≤c') (hc:c'≤9223372036854775807) (hu:cs.take (n'*m)=us) (hs:ds.take off++ .s n' us::ds.drop (off+1)=vs)
 (h:Dw P c ⟨N,(s,.v (.c (.s n' us)))::eY k tm,(p,W,vs)::eo k bx⟩ Q):Dw P c ⟨N,tm,bx⟩ Q:=fun av w0 β a w hr=>by
 obtain⟨u,hu1,hx⟩:=hr.sees.tmp s _ trivial hl
 have h1:=hr.updR (t:=s) (x:=.o k n' c') hu1 hx.1 (fun l e=>hr.wf s _ l hl e)
 have h2:Rel av w0 N (St.T ⟨N,(s,.o k n' c')::tm,bx⟩) (St.B ⟨N,(s,.o k n' c')::tm,bx⟩) β a w:=h1.congr (fun s'=>by show an s' ((s,DV.o k n' c')::tm)=_;rw[aF];rfl) (fun _=>rfl)
 have h3:=h2.release (t:=s) (by rw[aF,if_pos rfl]) hb hm hn hc hu
 obtain⟨u2,hu2,hx2⟩:=h3.sees.tmp s (.v (.c (.s n' us))) trivial (by show an s ((s,_)::_)=_;rw[aF,if_pos rfl])
 have e:u2=v:=by rw[hu1] at hu2;injection hu2 with hu2;rw[←hu2];exact hx.2
 have hx2:RdC _ w u2 (.s n' us):=hx2
 have h4:=h3.cell (p:=p) (off:=off) (cs:=ds) (W:=W) (u:=.s n' us) (by show an p (eo k bx)=_;rw[f9,if_neg hpk];exact hpb) hc0 (e▸hx2)
 refine h av w0 β a w (h4.congr (fun s'=>?_) (fun l=>?_))
 ·show an s' ((s,_)::eY k tm)=an s' ((s,_)::eY k ((s,_)::tm))
  rw[aF,aF,ga,ga,aF]
  split<;>rfl
 ·show an l ((p,W,vs)::eo k bx)=_
  rw[aF,hs];rfl
variable {T:TF}{B:BF}{dst:Option Nat}{x i:Operand}{U:TypeId}{ty:TypeId}{pos:String}{af:Array Edge}{g:Option (Nat×Bool)}{s r:ByteArray}{ki:IntKind}
theorem nN (hU:P.underlying U=some .string) (hx:bH T x=some (.v (.c (.e (.string s))))) (hg:gd ops ⟨dst,.call ⟨.builtin .len,#[x],#[U]⟩,ty,pos,af,g⟩ T=some true):
 Sem P ops ⟨dst,.call ⟨.builtin .len,#[x],#[U]⟩,ty,pos,af,g⟩ T B (.r (.v (.c (.i .i64 s.size)))):=
 bp hg (oD rfl) (fun V β a w hs=>by
  have h1:RdC V w (a.eval x) (.e (.string s)):=aw hs (x:=x) (by simp[Op.operands,Call.operands]) hx
  have e:a.eval x=.string s:=h1.e_eq
  refine⟨.int .i64 s.size,?_,.i _ _⟩
  simp[execOp,resolve,invoke,builtin,Builtin.len_,e,run_underlying hU,goInt])
theorem mT {b:UInt8}(hU:P.underlying U=some .string) (hx:bH T x=some (.v (.c (.e (.string s))))) (hi:bH T i=some (.v (.c (.i ki j)))) (hj:0≤j) (hb:s[j.toNat]? =some b)
 (hg:gd ops ⟨dst,.index U x i,ty,pos,af,g⟩ T=some true):Sem P ops ⟨dst,.index U x i,ty,pos,af,g⟩ T B (.r (.v (.c (.i .u8 b.toNat)))):=
 bp hg (oD rfl) (fun V β a w hs=>by
  have h1:RdC V w (a.eval x) (.e (.string s)):=aw hs (x:=x) (by simp[Op.operands]) hx
  have h2:=iM (aw hs (x:=i) (by simp[Op.operands]) hi)
  have e:a.eval x=.string s:=h1.e_eq
  refine⟨.int .u8 b.toNat,?_,.i _ _⟩
  have hj2: ¬j<0:=by omega
  simp[execOp,Instr.index,e,h2,asIntOf,run_underlying hU,hb,hj])
theorem Fy (_hU:P.underlying U=some .string) (hx:bH T x=some (.v (.c (.e (.string s))))) (hi:bH T i=some (.v (.c (.e (.string r))))) (hg:gd ops ⟨dst,.binOp .eql U x i U,ty,pos,af,g⟩ T=some true):
 Sem P ops ⟨dst,.binOp .eql U x i U,ty,pos,af,g⟩ T B (.r (.v (.c (.b (s.toList==r.toList))))):=
 bp hg (oD rfl) (fun V β a w hs=>by
  have h1:RdC V w (a.eval x) (.e (.string s)):=aw hs (x:=x) (by simp[Op.operands]) hx
  have h2:RdC V w (a.eval i) (.e (.string r)):=aw hs (x:=i) (by simp[Op.operands]) hi
  have e:a.eval x=.string s:=h1.e_eq
  have e2:a.eval i=.string r:=h2.e_eq
  refine⟨.bool (s.toList==r.toList),?_,.b _⟩
  have h3:(eqGuard .eql U x i (.string s) (.string r)).run P w=.ok () w:=by simp[eqGuard]
  simp[execOp,e,e2,h3,binOp,Op.stringOp])
theorem O4 {t:Nat}{x y:Operand}{U:TypeId}{c q m k:Nat}
 (hU:mx P U=some (e,m,by_,zs)) (hx:bH (fun s=>an s tm) x=some (.o k n c)) (hy:bH (fun s=>an s tm) y=some (.w k off q c2)) (hb:an k bx=some (e,cs)) (hcs:cs=us++rest) (hus:us.length=n*m) (hr:rest.length=(c-n)*m)
 (hys:(cs.drop off).take (q*m)=ys) (hoff:0<q→off+q*m≤cs.length) (hm:0<m) (hnc:n≤c) (hcm:c≤maxLen) (hbytes:(n+q)*by_≤140737488355328) (h63:n+q≤maxLen) (hd:t=k∨an t bx=none)
 (hg:gd ops ⟨some t,.call ⟨.builtin .append,#[x,y],#[U,U]⟩,ty,pos,af,g⟩ (fun s=>an s tm)=some true)
 (hk: ∀c' rest',n+q≤c'→c'≤maxLen→rest'.length=(c'-(n+q))*m→dl P ops os ⟨N,(t,.o t (n+q) c')::eY k tm,(t,e,us++ys++rest')::eo k bx⟩ K):
 dl P ops (⟨some t,.call ⟨.builtin .append,#[x,y],#[U,U]⟩,ty,pos,af,g⟩::os) ⟨N,tm,bx⟩ K:=by
 have hyl:ys.length=q*m:=by
  rw[←hys,cX,dz]
  rcases fQ q with h0|h0
  ·rw[h0];simp
  ·have:=hoff h0;omega
 refine .inr ⟨_,nL (pre:=us) (ys:=ys) (q:=q) hU hx (fun V β a w hs=>?_) hb (by rw[hcs,bN,hus,hr,←gP];congr 1;omega) hyl hm hnc hcm (fun h=>growslice_fits h hbytes) h63 (by rw[hcs,←hus];simp) hd hg,fun σ' ⟨c',rest',h1,h2,h3,e⟩=>by subst e;exact hk c' rest' h1 h2 h3⟩
 have e1:a.eval y=.slice (some ⟨β k,off,none⟩) q c2:=aw hs (x:=y) (by simp[Op.operands,Call.operands]) hy
 obtain⟨_,vs,ev,hrd⟩:=hs.box k e cs hb
 obtain⟨hu,_⟩:=fD hU
 have h5:=(hrd.drop off).take (q*m)
 rw[hys] at h5
 refine⟨(vs.toList.drop off).take (q*m),?_,h5⟩
 rw[e1]
 have hcells: ∀w',(∀a:Addr,w'.cell? a=w.cell? a)→(Builtin.firstCells m q (.slice (some ⟨β k,off,none⟩) q c2)).run P w'=.ok ((vs.toList.drop off).take (q*m)).toArray w':=by
  intro w' hw
  have:=run_loadCells_list (P:=P) w' ⟨β k,off,none⟩ ((vs.toList.drop off).take (q*m)) (fun j u hj=>by
   rw[gT,hw,co ev]
   rw[lg] at hj
   split at hj
   ·rw[vb] at hj;simpa using hj
   ·cases hj)
  rw[h5.1,hyl] at this
  exact this
 exact⟨.inl ⟨e,hu⟩,fun w'=>by simp[Builtin.lenOf],hcells w (fun _=>rfl),hcells w.drew (fun _=>rfl),by rw[h5.1,hyl],JY h5⟩
theorem G7 {t:Nat}{x y:Operand}{U:TypeId}{c q m k:Nat}
 (hU:mx P U=some (e,m,by_,zs)) (hx:bH (fun s=>an s tm) x=some (.o k n c)) (hy:bH (fun s=>an s tm) y=some (.v (.c (.s q ys)))) (hb:an k bx=some (e,us++rest)) (hus:us.length=n*m) (hr:rest.length=(c-n)*m)
 (hys:ys.length=q*m) (hm:0<m) (hnc:n≤c) (hcm:c≤maxLen) (hbytes:((n+q)+(n+q)/4+192)*by_≤281474976710656) (h63:n+q≤maxLen) (hd:t=k∨an t bx=none)
 (hg:gd ops ⟨some t,.call ⟨.builtin .append,#[x,y],#[U,U]⟩,ty,pos,af,g⟩ (fun s=>an s tm)=some true)
 (hk: ∀c' rest',n+q≤c'→c'≤maxLen→rest'.length=(c'-(n+q))*m→dl P ops os ⟨N,(t,.o t (n+q) c')::eY k tm,(t,e,us++ys++rest')::eo k bx⟩ K):
 dl P ops (⟨some t,.call ⟨.builtin .append,#[x,y],#[U,U]⟩,ty,pos,af,g⟩::os) ⟨N,tm,bx⟩ K:=
 .inr ⟨_,nL (pre:=us) hU hx (fun V β a w hs=>by
  obtain⟨news,hsrc,hrn⟩:=lW hU (aw hs (x:=y) (by simp[Op.operands,Call.operands]) hy) hys
  exact⟨news,hsrc,hrn⟩) hb (by rw[bN,hus,hr,←gP];congr 1;omega) hys hm hnc hcm (fun h=>growslice_fits_wide h hbytes) h63 (by rw[←hus];simp) hd hg,fun σ' ⟨c',rest',h1,h2,h3,e⟩=>by subst e;exact hk c' rest' h1 h2 h3⟩
theorem Mv {t k d:Nat}(hd:Nat.blt d N=true) (hl:an t tm=some (.o k n c2)) (hb:an k bx=some (V,cs)) (hn:an d bx=none) (h:Dw P c ⟨N,(t,.o d n c2)::eY k tm,(d,V,cs)::eo k bx⟩ Q):Dw P c ⟨N,tm,bx⟩ Q:=fun av w0 β a w hr=>by
 obtain⟨u,hu,hx⟩:=hr.sees.tmp t _ trivial hl
 have hk0:an k bx≠none:=by rw[hb];simp
 have h1:=hr.ren (k:=k) (d:=d) (eH.1 hd) hk0 (.inr hn)
 have h2:=h1.updR (t:=t) (x:=.o d n c2) hu (by show u=.slice (some ⟨if d=d then β k else β d,0,none⟩) n c2;rw[if_pos rfl];exact hx) (fun l e=>by injection e with e;subst e;rw[if_pos rfl];exact hk0)
 refine h av w0 _ a w (h2.congr (fun s=>?_) (fun l=>?_))
 ·show an s ((t,DV.o d n c2)::eY k tm)=_
  rw[aF,ga];rfl
 ·show an l ((d,V,cs)::eo k bx)=(if l=d then an k bx else if l=k then none else an l bx)
  rw[aF,f9,hb]
  by_cases e:d=l
  ·rw[if_pos e,if_pos e.symm]
  ·rw[if_neg e,if_neg (Ne.symm e)]
theorem kH {m:Nat}(hU:SQ P U=some (n,m)) (hx:bH T x=some (.q cs)) (hi:bH T i=some (.v (.c (.i ki j)))) (hj:0≤j∧j<n) (hu:cs.drop (j.toNat*m)=us) (hg:gd ops ⟨dst,.indexAddr U x i,ty,pos,af,g⟩ T=some true):
 Sem P ops ⟨dst,.indexAddr U x i,ty,pos,af,g⟩ T B (.r (.q us)):=
 bp hg (oD rfl) (fun V β a w hs=>by
  obtain⟨b,off,vs,h1,hb,hv,hr,hc⟩:=aw hs (x:=x) (by simp[Op.operands]) hx
  have h2:=iM (aw hs (x:=i) (by simp[Op.operands]) hi)
  unfold SQ at hU
  split at hU
  case h_2=>cases hU
  rename_i n' el hul
  cases hinf:P.info? el with
  |none=>rw[hinf] at hU;cases hU
  |some inf=>
   rw[hinf] at hU
   simp at hU
   obtain⟨rfl,rfl⟩:=hU
   have hso: ∀w,(sizeOf el).run P w=.ok inf.size w:=fun w=>by unfold sizeOf typeInfo;simp[program,Sem.run,hinf]
   refine⟨.pointer (some ⟨b,off+j.toNat*inf.size,none⟩),?_,b,off+j.toNat*inf.size,vs.drop (j.toNat*inf.size),rfl,hb,hv,by rw[←hu];exact hr.drop _,fun l u hl=>?_⟩
   ·simp[execOp,Instr.indexAt,h1,h2,asIntOf,run_underlying hul,Instr.sureAddr,hj.1,hj.2,hso,gT]
   ·rw[vb] at hl
    rw[Nat.add_assoc];exact hc _ u hl)
theorem xR {xs:List Operand}{args:Array Operand}{at_:Array TypeId}{f:FuncId}{k c m:Nat}{ds:List D0}{d:D0}
 (hf:bH T fo=some (.v (.c (.f f)))) (hargs:args.toList=x::xs) (hx:bH T x=some (.o k n c)) (ha:tA T xs=some ds) (hb:B k=some (V0,cs)) (hus:cs.take (n*m)=us) (hl:n*m≤cs.length) (hnc:n≤c) (hc:c≤maxLen) (hok:Ok P f (.c (.s n us)::ds) [d])
 (hg:gd ops ⟨dst,.call ⟨.value fo,args,at_⟩,ty,pos,af,g⟩ T=some true):Sem P ops ⟨dst,.call ⟨.value fo,args,at_⟩,ty,pos,af,g⟩ T B (.c k (.v d)):=by
 refine⟨rfl,by rw[hb];simp,fun V β a w hs=>⟨dK hs hg,?_⟩⟩
 have hin: ∀y∈x::xs,y∈(⟨dst,.call ⟨.value fo,args,at_⟩,ty,pos,af,g⟩:Oper).op.operands:=fun y hy=>by
  have hx2:y∈args:=by grind
  simp[Op.operands,Call.operands,hx2]
 have h1:=RdC.func_eq (aw hs (x:=fo) (by simp[Op.operands,Call.operands]) hf)
 have h2:=o9 hs xs ds (fun y hy=>hin y (gi _ hy)) ha
 have h3:a.eval x=.slice (some ⟨β k,0,none⟩) n c:=aw hs (hin x (fW ..)) hx
 have hmax:maxLen=9223372036854775807:=rfl
 have h4:=Ex (q:=n) (c:=c) (m:=m) (off:=0) (ys:=us) hs hb (by rw[od];exact hus) (fun _=>by omega) hnc (by omega)
 have hkeep:Keep V (fun x=>V x∧x≠β k) w w:=⟨Nat.le_refl _,fun _ _ _=>rfl,fun _ _ h=>h.1⟩
 have hcl:=hok.cal
 unfold m5 at hcl
 cases hfn:P.funcs[f]? with
 |none=>rw[hfn] at hcl;cases hcl
 |some fn=>
  rw[hfn] at hcl
  simp only[dU,bne_iff_ne,ne_eq,Bool.not_eq_true'] at hcl
  have hrun:(execOp a.eval ⟨dst,.call ⟨.value fo,args,at_⟩,ty,pos,af,g⟩).run P w=.ok (.enter f (args.map a.eval)) w:=by
   have hb2:fn.body≠none:=by have:=hcl.2;cases hbb:fn.body with
    |none=>rw[hbb] at this;cases this
    |some c=>simp
   simp[execOp,resolve,h1,Deferred.ofValue,invoke,callFunc,program,Sem.run,hfn,hcl.1,hb2]
  unfold Gives
  rw[hrun]
  refine(hok.run (fun x=>V x∧x≠β k) (args.map a.eval) w (fun b hb=>hs.av b hb.1) (by rw[Array.toList_map,hargs,mR,h3];exact ou h4 (h2.keep hkeep))).mono ?_
  rintro e w' ⟨v,rfl,hr,hb⟩
  exact⟨v,rfl,hr,hb⟩
theorem mJ (h:n≤4000000000000):n≤maxLen:=iz h (by decide)
end
theorem NB {c:Int}:Ok Tryz.prog 66 [.c (.i .u8 c)] [.c (.b (sV c))]:=by
 refine bS Tryz.func66 rfl ?_
 refine dF (au rfl) (fun c1 hb1=>?_)
 cases c1
 ·refine ar (au rfl) ?_
  refine dF (au rfl) (fun c2 hb2=>?_)
  cases c2
  ·refine ag ?_
   rw[show sV c=false from by unfold sV;rw[hb1,hb2];rfl]
   exact am aa
  ·refine ag ?_
   rw[show sV c=decide (c≤90) from by unfold sV;rw[hb1,hb2];rfl]
   exact am aa
 ·refine dF (au rfl) (fun c3 hb3=>?_)
  cases c3
  ·refine dF (au rfl) (fun c4 hb4=>?_)
   cases c4
   ·refine ag ?_
    rw[show sV c=false from by unfold sV;rw[hb1,hb3,hb4];rfl]
    exact am aa
   ·refine ag ?_
    rw[show sV c=decide (c≤90) from by unfold sV;rw[hb1,hb3,hb4];rfl]
    exact am aa
  ·refine DL.mk<|jN (eB rfl)<|dC ?_
   refine ag ?_
   rw[show sV c=true from by unfold sV;rw[hb1,hb3];rfl]
   exact am aa
theorem RL {c:Int}:Ok Tryz.prog 106 [.c (.i .u8 c)] [.c (.b (FK c))]:=by
 refine bS Tryz.func106 rfl ?_
 refine dF (au rfl) (fun c1 hb1=>?_)
 cases c1
 ·refine ag ?_
  rw[show FK c=false from by unfold FK;rw[hb1];rfl]
  exact am aa
 ·refine ag ?_
  rw[show FK c=decide (c≤57) from by unfold FK;rw[hb1];rfl]
  exact am aa
theorem Rh {s:ByteArray}(ls:s.size≤1000):Ok Tryz.prog 67 [.c (.e (.string s))] [.c (.i .i64 (Me s:Int))]:=by
 refine bS Tryz.func67 rfl ?_
 refine DW.mk<|aY (ι:={n:Nat // n≤s.size∧ ∀i,i<n→zJ (lj s i)=true}) (fun i=>⟨35,[(0,.v (.c (.e (.string s)))),(3,.v (.c (.i .i64 (i.1:Int))))],[]⟩) (fun i=>s.size-i.1) ⟨0,cY _,fun i hi=>absurd hi (by omega)⟩ (ak ⟨rfl,rfl,trivial⟩ trivial rfl) ?_
 rintro⟨n,h2,hn⟩
 replace h2:n≤s.size:=h2
 replace hn: ∀i,i<n→zJ (lj s i)=true:=hn
 dsimp only
 refine jt<|ar (nN Ks rfl rfl) ?_
 refine dF (au rfl) (fun c1 hb1=>?_)
 cases c1
 ·have e0:Me s=n:=ME (by have:=of_decide_eq_false hb1;omega) hn
  refine DL.mk<|jN (eB rfl)<|dC ?_
  refine DL.mk<|jN (eB rfl)<|dC ?_
  refine DL.mk<|jN (eB rfl)<|dC ?_
  refine nE rfl<|ag ?_
  rw[e0]
  exact am aa
 ·have g1:n<s.size:=by have:=of_decide_eq_true hb1;omega
  refine ar (mT (b:=M7 s n) Ks rfl rfl (by omega) (u7 g1) rfl) ?_
  refine ac rfl (NB) ?_
  refine dF (au rfl) (fun c2 hb2=>?_)
  cases c2
  ·refine ar (mT (b:=M7 s n) Ks rfl rfl (by omega) (u7 g1) rfl) ?_
   refine ac rfl (RL) ?_
   refine dF (au rfl) (fun c3 hb3=>?_)
   cases c3
   ·refine ar (mT (b:=M7 s n) Ks rfl rfl (by omega) (u7 g1) rfl) ?_
    refine dF (au rfl) (fun c4 hb4=>?_)
    cases c4
    ·refine ar (mT (b:=M7 s n) Ks rfl rfl (by omega) (u7 g1) rfl) ?_
     refine cd rfl (fun hc5=>?_) (fun hc5=>?_)
     ·have g2:zJ (lj s n)=true:=by unfold zJ lj;rw[hb2,hb3,hb4,hc5];rfl
      refine ar (ba (by omega) rfl) ?_
      exact⟨⟨n+1,g1,fun i hi=>(fm.1 hi).elim (hn i) fun e=>by rw[e];exact g2⟩,ak ⟨rfl,rfl,trivial⟩ trivial rfl,by show s.size-(n+1)<s.size-n;omega⟩
     ·have g2:zJ (lj s n)=false:=by unfold zJ lj;rw[hb2,hb3,hb4,hc5];rfl
      have e0:Me s=n:=OK g1 hn g2
      refine ag ?_
      rw[e0]
      exact am aa
    ·have g2:zJ (lj s n)=true:=by unfold zJ lj;rw[hb2,hb3,hb4];rfl
     refine kG rfl<|ar (ba (by omega) rfl) ?_
     exact⟨⟨n+1,g1,fun i hi=>(fm.1 hi).elim (hn i) fun e=>by rw[e];exact g2⟩,ak ⟨rfl,rfl,trivial⟩ trivial rfl,by show s.size-(n+1)<s.size-n;omega⟩
   ·have g2:zJ (lj s n)=true:=by unfold zJ lj;rw[hb2,hb3];rfl
    refine ar (au rfl)<|kG rfl<|ar (ba (by omega) rfl) ?_
    exact⟨⟨n+1,g1,fun i hi=>(fm.1 hi).elim (hn i) fun e=>by rw[e];exact g2⟩,ak ⟨rfl,rfl,trivial⟩ trivial rfl,by show s.size-(n+1)<s.size-n;omega⟩
  ·have g2:zJ (lj s n)=true:=by unfold zJ lj;rw[hb2];rfl
   refine ar (au rfl)<|ar (au rfl)<|kG rfl<|ar (ba (by omega) rfl) ?_
   exact⟨⟨n+1,g1,fun i hi=>(fm.1 hi).elim (hn i) fun e=>by rw[e];exact g2⟩,ak ⟨rfl,rfl,trivial⟩ trivial rfl,by show s.size-(n+1)<s.size-n;omega⟩
theorem Rl {s:ByteArray}(ls:s.size≤1000):Ok Tryz.prog 40 [.c (.e (.string s))] [.c (.b (xx s))]:=by
 refine bS Tryz.func40 rfl<|ar (nN Ks rfl rfl) ?_
 refine dF (au rfl) (fun c1 hb1=>?_)
 cases c1
 ·refine ar (au rfl)<|ar (au rfl)<|ag ?_
  rw[show xx s=false from by unfold xx lj;rw[hb1];rfl]
  exact am aa
 ·have g1:0<s.size:=by have:=of_decide_eq_true hb1;omega
  refine ar (nN Ks rfl rfl) ?_
  refine dF (au rfl) (fun c2 hb2=>?_)
  cases c2
  ·refine ar (au rfl)<|ag ?_
   rw[show xx s=false from by unfold xx lj;rw[hb1,hb2];rfl]
   exact am aa
  ·refine ar (mT (b:=M7 s 0) Ks rfl rfl (by omega) (u7 g1) rfl) ?_
   refine ac rfl (NB) ?_
   refine dF (au rfl) (fun c3 hb3=>?_)
   cases c3
   ·refine ag ?_
    rw[show xx s=false from by unfold xx lj;rw[hb1,hb2,hb3];rfl]
    exact am aa
   ·refine ac rfl (Rh ls)<|ar (nN Ks rfl rfl) ?_
    refine ag ?_
    rw[show xx s=((Me s:Int)==(s.size:Int)) from by unfold xx lj;rw[hb1,hb2,hb3];rfl]
    exact am aa
theorem R9 {a b d:Rat}(ha:Rz 600 a) (hb:Rz 600 b) (hc:Rz 600 c) (hd:Rz 600 d):Ok Tryz.prog 223 [.a ((cR a++cR b++cR c)),dR d] [.c (.i .i64 (cT (a-d) b c))]:=by
 refine bS Tryz.func223 rfl<|cS 10 [] ?_
 refine aO rfl (lq (bd ha) (bd hd)) ?_
 refine aO rfl (rJ (bd (jA ha hd)) (bd hb) (bd hc)) ?_
 exact ag (am aa)
theorem Sn (hp:GP p) {v:Rat}(hv:Rz 600 v):Ok Tryz.prog 223 [.a ((cR p.a1++cR p.b1++cR (zc p.b1 p.c))),dR v] [.c (.i .i64 (uJ p v))]:=R9 (hp.a1.mono (by decide)) (hp.b1.mono (by decide)) (Rz.zc (hp.c.mono (by decide)) (by decide)) hv
theorem SL (hp:GP p) {v:Rat}(hv:Rz 600 v):Ok Tryz.prog 223 [.a ((cR p.a2++cR p.b2++cR (zc p.b2 p.c))),dR v] [.c (.i .i64 (lZ p v))]:=R9 (hp.a2.mono (by decide)) (hp.b2.mono (by decide)) (Rz.zc (hp.c.mono (by decide)) (by decide)) hv
theorem SX (hp:GP p) (hq:GP q):Ok Tryz.prog 160 [.a ((cR p.a1++cR p.b1++cR (zc p.b1 p.c))),.a ((cR q.a1++cR q.b1++cR (zc q.b1 q.c)))] [.c (.i .i64 (cx p q))]:=Al (hp.a1.mono (by decide)) (hp.b1.mono (by decide)) (Rz.zc (hp.c.mono (by decide)) (by decide)) (hq.a1.mono (by decide)) (hq.b1.mono (by decide)) (Rz.zc (hq.c.mono (by decide)) (by decide))
theorem Ti (hp:GP p) (hq:GP q):Ok Tryz.prog 160 [.a ((cR p.a2++cR p.b2++cR (zc p.b2 p.c))),.a ((cR q.a2++cR q.b2++cR (zc q.b2 q.c)))] [.c (.i .i64 (cy p q))]:=Al (hp.a2.mono (by decide)) (hp.b2.mono (by decide)) (Rz.zc (hp.c.mono (by decide)) (by decide)) (hq.a2.mono (by decide)) (hq.b2.mono (by decide)) (Rz.zc (hq.c.mono (by decide)) (by decide))
theorem kg (hp:GP p) (hq:GP q):Ok Tryz.prog 131 [.a (al p),.a (al q)] [.c (.i .i64 (cP p q))]:=by
 refine bS Tryz.func131 rfl<|cS 6 [] ?_
 refine aO rfl (mK) ?_
 refine aO rfl (mK) ?_
 refine aO rfl (SX hp hq) ?_
 refine cd rfl (fun hc1=>?_) (fun hc1=>?_)
 ·refine ag ?_
  rw[Sm (p:=p) (q:=q) hc1]
  exact am aa
 ·refine cS 6 [] ?_
  refine aO rfl (sJ) ?_
  refine aO rfl (sJ) ?_
  refine aO rfl (Ti hp hq)<|ag ?_
  rw[SD (p:=p) (q:=q) hc1]
  exact am aa
theorem mn (hp:GP p) (hq:GP q):Ok Tryz.prog 93 [.a (al p),.a (al q)] [.c (.b (cP p q==0))]:=by
 refine bS Tryz.func93 rfl ?_
 refine ac rfl (kg hp hq) ?_
 exact ag (am aa)
theorem mW (hx:Rz 6000000 x) (hy:Rz 6000000 y):Ok Tryz.prog 186 [dR x,dR y] [dR (x+y)]:=by
 refine bS Tryz.func186 rfl<|ac rfl (fa (bd hx) (bd hy)) ?_
 exact ag (bb bZ rfl aa)
theorem mP (hx:Rz 6000000 x) (hy:Rz 6000000 y):Ok Tryz.prog 185 [dR x,dR y] [dR (x-y)]:=by
 refine bS Tryz.func185 rfl<|ac rfl (lq (bd hx) (bd hy)) ?_
 exact ag (bb bZ rfl aa)
theorem dr (hx:Rz 6000000 x) (hy:Rz 6000000 y):Ok Tryz.prog 165 [dR x,dR y] [dR (x*y)]:=by
 refine bS Tryz.func165 rfl<|ac rfl (bV (bd hx) (bd hy)) ?_
 exact ag (bb bZ rfl aa)
theorem mO (hx:Rz 6000000 x) (hy:Rz 6000000 y):Ok Tryz.prog 141 [dR x,dR y] [dR (x+y)]:=by
 refine bS Tryz.func141 rfl<|ac rfl (fa (bd hx) (bd hy)) ?_
 exact ag (bb bZ rfl aa)
theorem gh (hx:Rz 6000000 x) (hy:Rz 6000000 y):Ok Tryz.prog 204 [dR x,dR y] [dR (x-y)]:=by
 refine bS Tryz.func204 rfl<|ac rfl (lq (bd hx) (bd hy)) ?_
 exact ag (bb bZ rfl aa)
theorem cD (hx:Rz 6000000 x) (hy:Rz 6000000 y):Ok Tryz.prog 142 [dR x,dR y] [dR (x*y)]:=by
 refine bS Tryz.func142 rfl<|ac rfl (bV (bd hx) (bd hy)) ?_
 exact ag (bb bZ rfl aa)
theorem oJ (hx:Rz 6000000 x) (hy:Rz 6000000 y) (h0:y≠0):Ok Tryz.prog 202 [dR x,dR y] [dR (x/y)]:=by
 refine bS Tryz.func202 rfl<|ac rfl (we hx hy h0) ?_
 exact ag (bb bZ rfl aa)
theorem si (hx:Rz 6000000 x):Ok Tryz.prog 101 [dR x] [dR (-x)]:=by
 refine bS Tryz.func101 rfl<|ac rfl (dP (bd hx)) ?_
 exact ag (bb bZ rfl aa)
theorem LX {v w:Rat}(hv:Rz 6000000 v) (hw:Rz 6000000 w):Ok Tryz.prog 212 [.a ((cR v++cR w))] [.a ((cR (-v)++cR (-w)))]:=by
 refine bS Tryz.func212 rfl<|cS 7 [] ?_
 refine aO rfl (dP (bd hv)) ?_
 refine aO rfl (dP (bd hw)) ?_
 refine aq (aG (us:=(cR (-v)++cR (-w))) xP vi rfl rfl rfl) ?_
 exact ag (bb oW rfl aa)
theorem HS {v w:Rat}(hv:Rz 6000000 v) (hw:Rz 6000000 w) (ha1:Rz 6000000 a1) (ha2:Rz 6000000 a2):Ok Tryz.prog 211 [.a ((cR a1++cR b1++cR a2++cR b2++cR c)),.a ((cR v++cR w))] [.a ((cR (a1+v)++cR b1++cR (a2+w)++cR b2++cR c))]:=by
 refine eG Tryz.func211 22 [.cell 4 84] rfl<|ab<|ah<|ab<|nj 17 rfl rfl<|dO 1<|bA (qw (cR a1) bZ rfl)<|dO 1<|bA (qw (cR v) bZ rfl)<|bA (mg rfl (fa (bd ha1) (bd hv)))<|dO 1<|bA (qw (cR b1) bZ rfl)<|dO 1<|bA (qw (cR a2) bZ rfl) ?_
 refine dO 1<|bA (qw (cR w) bZ rfl)<|bA (mg rfl (fa (bd ha2) (bd hw)))<|dO 1<|bA (qw (cR b2) bZ rfl)<|dO 1<|bA (qw (cR c) bZ rfl)<|bA (aG (us:=(cR (a1+v)++cR b1++cR (a2+w)++cR b2++cR c)) OD MA rfl rfl rfl) ?_
 refine nW<|dh<|jq<|bh ?_
 exact ag (bb bm rfl aa)
theorem yx (ha1:Rz 60000 a1) (hb1:Rz 60000 b1) (ha2:Rz 60000 a2) (hb2:Rz 60000 b2) (hc:Rz 60000 c) (v1:tq b1 b2 c=true) {d e:Rat}(hd:Rz 60000 d) (he:Rz 60000 e):Ok Tryz.prog 184 [.a ((cR a1++cR b1++cR a2++cR b2++cR c)),.a ((cR d++cR e))] [.a ((cR (Ge (a1-d) (a2-e) b1 b2 c)++cR (FO (a1-d) (a2-e) b1 b2)++cR (zc (FO (a1-d) (a2-e) b1 b2) c)))]:=by
 have ka1:Rz 6000000 a1:=ha1.m_
 have kb1:Rz 6000000 b1:=hb1.m_
 have ka2:Rz 6000000 a2:=ha2.m_
 have kb2:Rz 6000000 b2:=hb2.m_
 have kc:Rz 6000000 c:=hc.m_
 have kd:Rz 6000000 d:=hd.m_
 have ke:Rz 6000000 e:=he.m_
 have u1:Rz 140000 (a1-d):=(ha1.sub hd).m_
 have u2:Rz 140000 (a2-e):=(ha2.sub he).m_
 have k3:Rz 6000000 (-d):=kd.neg
 have k4:Rz 6000000 (-e):=ke.neg
 have nz:=QT v1
 have x1:Rz 1000000 (a1-d):=u1.m_
 have x2:Rz 1000000 (a2-e):=u2.m_
 have y1:Rz 1000000 b1:=hb1.m_
 have y2:Rz 1000000 b2:=hb2.m_
 have hC:Rz 1000000 c:=hc.m_
 have z1:Rz 1000000 (zc b1 c):=Rz.zc hC (by decide)
 have z2:Rz 1000000 (zc b2 c):=Rz.zc hC (by decide)
 have A1:Rz 1000000 ((a1-d)*(a1-d)+b1*b1*c):=((u1.mul u1).add ((hb1.mul hb1).mul hc)).m_
 have A2:Rz 1000000 ((a2-e)*(a2-e)+b2*b2*c):=((u2.mul u2).add ((hb2.mul hb2).mul hc)).m_
 have B1:Rz 1000000 ((a1-d)*b1+(a1-d)*b1):=((u1.mul hb1).add (u1.mul hb1)).m_
 have B2:Rz 1000000 ((a2-e)*b2+(a2-e)*b2):=((u2.mul hb2).add (u2.mul hb2)).m_
 have C1:Rz 1000000 (zc ((a1-d)*b1+(a1-d)*b1) c):=Rz.zc hC (by decide)
 have C2:Rz 1000000 (zc ((a2-e)*b2+(a2-e)*b2) c):=Rz.zc hC (by decide)
 have nS:((a1-d)*b1+(a1-d)*b1)+((a2-e)*b2+(a2-e)*b2)≠0→c≠0:=fun h=>by rw[Jm] at h;have:=(JO v1 h).1;grind
 refine bS Tryz.func184 rfl<|cS 5 [] ?_
 refine aO rfl (LX (by assumption) (by assumption)) ?_
 refine aO rfl (HS (by assumption) (by assumption) (by assumption) (by assumption))<|cS 13 [6,999999] ?_
 refine aO rfl (nT mK (xb _ _) rfl rfl) ?_
 refine aO rfl (nT (Bi x1 y1 z1) RC (QN nz.1) (QH nz.1)) ?_
 refine aO rfl (nT sJ (xb _ _) rfl rfl) ?_
 refine aO rfl (nT (Bi x2 y2 z2) RC (QN nz.2) (QH nz.2)) ?_
 refine aO rfl (yq (FS A1 B1 C1 A2 B2 C2 PB) (Rp _ _ _ _ _) ((SS nS).trans (Jm _ _ _ _)) ((Ss nS).trans (by rw[Jm]))) ?_
 refine DQ.mk<|kq (fI fR rfl) rfl rfl rfl rfl<|ez ?_
 exact ag (bb fR rfl aa)
theorem RS (hk:GK k) (hp:GB p):Ok Tryz.prog 184 [.a (al p),.a ((cR k.x++cR k.y))] [.a ((cR (Ge (p.a1-k.x) (p.a2-k.y) p.b1 p.b2 p.c)++cR (F6 k p)++cR (zc (F6 k p) p.c)))]:=yx (hp.a1.mono (by decide)) (hp.b1.mono (by decide)) (hp.a2.mono (by decide)) (hp.b2.mono (by decide)) (hp.c.mono (by decide)) hp.v (hk.x.mono (by decide)) (hk.y.mono (by decide))
theorem Q9 (hk:GK k) (hp:GB p):Ok Tryz.prog 158 [.a (cr k),.a (al p)] [.a ((cR (PX k p)++cR (F6 k p)++cR (zc (F6 k p) p.c)))]:=by
 have s1:Rz 6000000 (Ge (p.a1-k.x) (p.a2-k.y) p.b1 p.b2 p.c):=(JU hk hp).m_
 have s2:Rz 6000000 k.q:=hk.q.m_
 have s3:Rz 6000000 (-k.q):=s2.neg
 refine bS Tryz.func158 rfl<|cS 11 [] ?_
 refine aq (aG (us:=(cR k.x++cR k.y)) xP vi rfl rfl rfl) ?_
 refine aO rfl (RS hk hp) ?_
 refine aO rfl (dP (MC)) ?_
 refine aO rfl (jf (by assumption) (by assumption)) ?_
 exact ag (bb fR rfl aa)
theorem Pz (hk:GK k) (hp:GB p):Ok Tryz.prog 129 [.a (cr k),.a (al p)] [.c (.i .i64 (sP k p))]:=by
 refine bS Tryz.func129 rfl ?_
 refine ac rfl (Q9 hk hp) ?_
 refine ac rfl (lJ ((PD hk hp).m_) ((PM hk hp).m_) (Rz.zc (hp.c.m_) (by decide))) ?_
 refine ar (oN (r:= -s3 (PX k p) (F6 k p) (zc (F6 k p) p.c)) rfl (DZ (RU _ _ _)) rfl) ?_
 exact ag (am aa)
theorem Ra (hk:GK k) (hp:GP p):Ok Tryz.prog 129 [.a (cr k),.a (al p)] [.c (.i .i64 (sP k p))]:=Pz hk hp.gb
theorem Kk (hl:GL l) (hp:GP p) (hs:j9 p.c=true):Ok Tryz.prog 159 [.a (dZ l),.a (al p)] [.a ((cR (vA l p+vB l p*rt p.c)++cR 0++cR 0))]:=by
 refine bS Tryz.func159 rfl<|cS 15 [] ?_
 refine aO rfl (dr (bd (hl.a)) (bd (hp.a1))) ?_
 refine aO rfl (dr (bd (hl.b)) (bd (hp.a2))) ?_
 refine aO rfl (mW (bd (bj (hl.a) (hp.a1))) (bd (bj (hl.b) (hp.a2)))) ?_
 refine aO rfl (mP (bd (Rz.add (bj (hl.a) (hp.a1)) (bj (hl.b) (hp.a2)))) (bd (hl.c)))<|cS 21 [6,999999] ?_
 refine aO rfl (dr (bd (hl.a)) (bd (hp.b1))) ?_
 refine aO rfl (dr (bd (hl.b)) (bd (hp.b2))) ?_
 refine aO rfl (mW (bd (bj (hl.a) (hp.b1))) (bd (bj (hl.b) (hp.b2)))) ?_
 refine aO rfl (Cg ((IM hl hp).m_) ((Je hl hp).m_) (hp.c.m_) (fun h=>absurd h (Rat.not_lt.2 (Aj hp.v))) hs) ?_
 refine DQ.mk<|kq (fI fR rfl) rfl rfl rfl rfl<|ez ?_
 exact ag (bb fR rfl aa)
theorem J9 (hl:GL l) (hp:GP p) (hs:j9 p.c=false):Ok Tryz.prog 159 [.a (dZ l),.a (al p)] [.a ((cR (vA l p)++cR (rB (vB l p) p.c)++cR (rC (vB l p) p.c)))]:=by
 refine bS Tryz.func159 rfl<|cS 15 [] ?_
 refine aO rfl (dr (bd (hl.a)) (bd (hp.a1))) ?_
 refine aO rfl (dr (bd (hl.b)) (bd (hp.a2))) ?_
 refine aO rfl (mW (bd (bj (hl.a) (hp.a1))) (bd (bj (hl.b) (hp.a2)))) ?_
 refine aO rfl (mP (bd (Rz.add (bj (hl.a) (hp.a1)) (bj (hl.b) (hp.a2)))) (bd (hl.c)))<|cS 21 [6,999999] ?_
 refine aO rfl (dr (bd (hl.a)) (bd (hp.b1))) ?_
 refine aO rfl (dr (bd (hl.b)) (bd (hp.b2))) ?_
 refine aO rfl (mW (bd (bj (hl.a) (hp.b1))) (bd (bj (hl.b) (hp.b2)))) ?_
 refine aO rfl (Cn ((IM hl hp).m_) ((Je hl hp).m_) (hp.c.m_) (fun h=>absurd h (Rat.not_lt.2 (Aj hp.v))) hs) ?_
 refine DQ.mk<|kq (fI fR rfl) rfl rfl rfl rfl<|ez ?_
 exact ag (bb fR rfl aa)
theorem RZ (hl:GL l) (hp:GP p):Ok Tryz.prog 159 [.a (dZ l),.a (al p)] [.a ((cR (vA l p)++cR (rB (vB l p) p.c)++cR (rC (vB l p) p.c)))]:=by
 cases hs:j9 p.c with
 |true=>obtain⟨e1,e2,e3⟩:=Pr (l:=l) hp.v hs;exact nT (Kk hl hp hs) e1 e2 e3
 |false=>exact J9 hl hp hs
theorem Oz (hl:GL l) (hp:GP p):Ok Tryz.prog 130 [.a (dZ l),.a (al p)] [.c (.i .i64 (ph l p))]:=by
 refine bS Tryz.func130 rfl ?_
 refine ac rfl (RZ hl hp) ?_
 refine ac rfl (lJ ((IM hl hp).m_) (QP ((Je hl hp).m_) (by decide)) (Qv (hp.c.m_) (by decide))) ?_
 exact ag (am aa)
theorem MU (hk:GK k) (hp:GP p):Ok Tryz.prog 222 [.a (cr k),.a (al p)] [.c (.b (jn k p))]:=by
 refine bS Tryz.func222 rfl<|cS 6 [] ?_
 refine aO rfl (sJ) ?_
 refine aO rfl (SL hp (hk.y.m_))<|cS 15 [] ?_
 refine pr (au rfl) (fun c1 hb1=>?_)
 cases c1
 ·refine pr (au rfl) (fun c2 hb2=>?_)
  cases c2
  ·refine ag ?_
   rw[NJ (k:=k) (p:=p) hb1 hb2]
   exact am aa
  ·refine aO rfl (mK) ?_
   refine aO rfl (Sn hp (hk.x.m_))<|ag ?_
   rw[On (k:=k) (p:=p) hb1 hb2]
   exact am aa
 ·refine DQ.mk<|kN (eB rfl)<|ez ?_
  refine ag ?_
  rw[R2 (k:=k) (p:=p) hb1]
  exact am aa
theorem HQ (hk:GK k) (hp:GP p) (hq:GP q):Ok Tryz.prog 206 [.a (cr k),.a (al p),.a (al q)] [.c (.i .i64 (eh k p q))]:=by
 refine bS Tryz.func206 rfl<|cS 8 [] ?_
 refine aO rfl (MU hk hp) ?_
 refine aO rfl (MU hk hq) ?_
 refine ar (fL rfl rfl fi rfl) ?_
 refine cd rfl (fun hc1=>?_) (fun hc1=>?_)
 ·refine cd rfl (fun hc2=>?_) (fun hc2=>?_)
  ·refine ag ?_
   rw[KO (k:=k) (p:=p) (q:=q) hc1 hc2]
   exact am aa
  ·refine ag ?_
   rw[JR (k:=k) (p:=p) (q:=q) hc1 hc2]
   exact am aa
 ·refine cS 6 [] ?_
  refine aO rfl (mK) ?_
  refine aO rfl (mK) ?_
  refine aO rfl (SX hp hq) ?_
  refine cd rfl (fun hc3=>?_) (fun hc3=>?_)
  ·refine ar (oN (r:= -cx p q) rfl (DZ (dN p q)) rfl) ?_
   refine ag ?_
   rw[G0 (k:=k) (p:=p) (q:=q) hc1 hc3]
   exact am aa
  ·refine ag ?_
   rw[IP (k:=k) (p:=p) (q:=q) hc1 hc3]
   exact am aa
theorem Nz (hk:GK k) (hf:GP f) (hp:GP p) (hq:GP q):Ok Tryz.prog 169 [.a (cr k),.a (al f),.a (al p),.a (al q)] [.c (.i .i64 (oO k f p q))]:=by
 refine bS Tryz.func169 rfl<|cS 12 [] ?_
 refine aO rfl (HQ hk hp hf) ?_
 refine aO rfl (HQ hk hq hf) ?_
 refine ar (fL rfl rfl fi rfl) ?_
 refine cd rfl (fun hc1=>?_) (fun hc1=>?_)
 ·refine cd rfl (fun hc2=>?_) (fun hc2=>?_)
  ·refine ag ?_
   rw[QY (k:=k) (f:=f) (p:=p) (q:=q) hc1 hc2]
   exact am aa
  ·refine ag ?_
   rw[Ot (k:=k) (f:=f) (p:=p) (q:=q) hc1 hc2]
   exact am aa
 ·refine ac rfl (HQ hk hp hq)<|ag ?_
  rw[QS (k:=k) (f:=f) (p:=p) (q:=q) hc1]
  exact am aa
theorem zh (hp:GP p):Ok Tryz.prog 171 [.a (al p)] [.a (al p.flip)]:=by
 refine bS Tryz.func171 rfl<|cS 7 [] ?_
 refine aO rfl (dP (hp.a1.m_)) ?_
 refine aO rfl (dP (hp.b1.m_)) ?_
 refine om (aV (us:=(cR (-p.a1)++cR p.b1++cR p.a2++cR p.b2++cR p.c)) bZ rfl rfl rfl rfl (dG rfl) rfl rfl) ?_
 refine om (aV (us:=(cR (-p.a1)++cR (-p.b1)++cR p.a2++cR p.b2++cR p.c)) bZ rfl rfl rfl rfl (dG rfl) rfl rfl) ?_
 exact ag (bb bm rfl aa)
theorem Qj (hk:GK k) (hf:GP f) (ht:GP t):Ok Tryz.prog 170 [.a (([.b true]++pZ++cr k++[.b w]++al f++al t))] [.a (([.b true]++pZ++cr k.mir++[.b (!w)]++al f.flip++al t.flip))]:=by
 refine eG Tryz.func170 22 [.cell 2 86] rfl<|ab<|ah<|ab<|ah ?_
 refine ar (dy (cR k.x) bZ rfl (by kernel_rfl)) ?_
 refine ac rfl (dP (hk.x.m_)) ?_
 refine om (aV (us:=([.b true]++pZ++(cR k.mir.x++cR k.y++cR k.q)++[.b w]++al f++al t)) bZ rfl rfl rfl rfl (dG (by kernel_rfl)) (by kernel_rfl) rfl) ?_
 refine ab<|pC 13 [1,999999] cZ (by kernel_rfl) rfl rfl<|dO 1<|A8 (by kernel_rfl) (dy (al f) bm rfl (by kernel_rfl))<|bA (mg rfl (zh hf))<|dO 1<|A8 (by kernel_rfl) (dy (al t) bm rfl (by kernel_rfl))<|bA (mg rfl (zh ht))<|dO 1<|A8 (by kernel_rfl) (eL iX rfl)<|dO 2<|il (aV (us:=([.b true]++pZ++(cR k.mir.x++cR k.y++cR k.q)++[.b w]++al f.flip++al t)) bm rfl rfl rfl rfl (dG (by kernel_rfl)) (by kernel_rfl) rfl) rfl rfl rfl rfl ?_
 refine dO 1<|DC (aV (us:=([.b true]++pZ++(cR k.mir.x++cR k.y++cR k.q)++[.b w]++al f.flip++al t.flip)) bm rfl rfl rfl rfl (dG (by kernel_rfl)) (by kernel_rfl) rfl) rfl rfl (by kernel_rfl) rfl ?_
 refine nW<|Fp<|fK 1<|fV (aV (us:=([.b true]++pZ++(cR k.mir.x++cR k.y++cR k.q)++[.b (!w)]++al f.flip++al t.flip)) iX rfl rfl rfl rfl (dG (by kernel_rfl)) (by kernel_rfl) rfl) ?_
 refine bv<|ab<|ah ?_
 refine ar (jo aZ rfl) ?_
 refine om (fI aZ rfl)<|bh ?_
 exact ag (kX (us:=([.b true]++pZ++(cR k.mir.x++cR k.y++cR k.q)++[.b (!w)]++al f.flip++al t.flip)) aZ rfl rfl (by kernel_rfl) (by kernel_rfl) aa)
theorem Dg (_hl:GL l) (hf:GP f) (ht:GP t) (hp:GP p) (hq:GP q):Ok Tryz.prog 139 [.a (([.b false]++dZ l++kW++[.b false]++al f++al t)),.a (al p),.a (al q)] [.c (.i .i64 ((Cv.seg l f t).ord p q))]:=by
 refine bS Tryz.func139 rfl ?_
 refine ar (eL iX rfl) ?_
 refine kG rfl ?_
 refine ac rfl (kg hp hq) ?_
 refine ar (dy (al f) bm rfl (by kernel_rfl)) ?_
 refine ar (dy (al t) bm rfl (by kernel_rfl)) ?_
 refine ac rfl (kg hf ht) ?_
 refine cd rfl (fun hc1=>?_) (fun hc1=>?_)
 ·refine ar (oN (r:= -cP p q) rfl (DZ (QM p q)) rfl) ?_
  refine ag ?_
  rw[Pp (l:=l) (f:=f) (t:=t) (p:=p) (q:=q) hc1]
  exact am aa
 ·refine ag ?_
  rw[Ph (l:=l) (f:=f) (t:=t) (p:=p) (q:=q) hc1]
  exact am aa
theorem CW (hk:GK k) (hf:GP f) (ht:GP t) (hp:GP p) (hq:GP q):Ok Tryz.prog 139 [.a (([.b true]++pZ++cr k++[.b w]++al f++al t)),.a (al p),.a (al q)] [.c (.i .i64 ((Cv.arc k w f t).ord p q))]:=by
 refine bS Tryz.func139 rfl ?_
 refine ar (eL iX rfl) ?_
 refine nE rfl ?_
 refine ar (eL iX rfl) ?_
 refine cd rfl (fun hc1=>?_) (fun hc1=>?_)
 ·refine ar (dy (cr k) sf rfl (by kernel_rfl)) ?_
  refine ar (dy (al f) bm rfl (by kernel_rfl)) ?_
  refine ac rfl (Nz hk hf hp hq)<|ag ?_
  rw[NI (k:=k) (w:=w) (f:=f) (t:=t) (p:=p) (q:=q) hc1]
  exact am aa
 ·refine ar (jo aZ rfl)<|ac rfl (Qj hk hf ht)<|om (fI aZ rfl)<|cS 10 [] ?_
  refine aq (dy (cr k.mir) sf rfl (by kernel_rfl)) ?_
  refine aq (dy (al f.flip) bm rfl (by kernel_rfl)) ?_
  refine aO rfl (zh hp) ?_
  refine aO rfl (zh hq) ?_
  refine aO rfl (Nz (GK.mir hk) (GP.flip hf) (GP.flip hp) (GP.flip hq))<|ag ?_
  rw[PN (k:=k) (w:=w) (f:=f) (t:=t) (p:=p) (q:=q) hc1]
  exact am aa
theorem Dr (hl:GL l) (_hf:GP f) (_ht:GP t) (hp:GP p):Ok Tryz.prog 92 [.a (([.b false]++dZ l++kW++[.b false]++al f++al t)),.a (al p)] [.c (.b ((Cv.seg l f t).supp p))]:=by
 refine bS Tryz.func92 rfl ?_
 refine ar (eL iX rfl) ?_
 refine nE rfl ?_
 refine ar (dy (dZ l) ud rfl (by kernel_rfl)) ?_
 refine ac rfl (Oz hl hp) ?_
 exact ag (am aa)
theorem CT (hk:GK k) (_hf:GP f) (_ht:GP t) (hp:GP p):Ok Tryz.prog 92 [.a (([.b true]++pZ++cr k++[.b w]++al f++al t)),.a (al p)] [.c (.b ((Cv.arc k w f t).supp p))]:=by
 refine bS Tryz.func92 rfl ?_
 refine ar (eL iX rfl) ?_
 refine kG rfl ?_
 refine ar (dy (cr k) sf rfl (by kernel_rfl)) ?_
 refine ac rfl (Ra hk hp) ?_
 exact ag (am aa)
theorem QJ (hl:GL l) (hf:GP f) (ht:GP t) (hp:GP p):Ok Tryz.prog 137 [.a (([.b false]++dZ l++kW++[.b false]++al f++al t)),.a (al p)] [.c (.b ((Cv.seg l f t).on p))]:=by
 refine bS Tryz.func137 rfl ?_
 refine ar (jo aZ rfl) ?_
 refine ac rfl (Dr hl hf ht hp) ?_
 refine dF (au rfl) (fun c1 hb1=>?_)
 cases c1
 ·refine ar (au rfl)<|ag ?_
  rw[Rj (c:=(Cv.seg l f t)) (p:=p) hb1]
  exact am aa
 ·refine ar (jo aZ rfl) ?_
  refine ar (dy (al f) bm rfl (by kernel_rfl)) ?_
  refine ac rfl (Dg hl hf ht hf hp) ?_
  refine dF (au rfl) (fun c2 hb2=>?_)
  cases c2
  ·refine ag ?_
   rw[NF (c:=(Cv.seg l f t)) (p:=p) hb1 hb2]
   exact am aa
  ·refine ar (jo aZ rfl) ?_
   refine ar (dy (al t) bm rfl (by kernel_rfl)) ?_
   refine ac rfl (Dg hl hf ht hp ht)<|ag ?_
   rw[NA (c:=(Cv.seg l f t)) (p:=p) hb1 hb2]
   exact am aa
theorem MK (hk:GK k) (hf:GP f) (ht:GP t) (hp:GP p):Ok Tryz.prog 137 [.a (([.b true]++pZ++cr k++[.b w]++al f++al t)),.a (al p)] [.c (.b ((Cv.arc k w f t).on p))]:=by
 refine bS Tryz.func137 rfl ?_
 refine ar (jo aZ rfl) ?_
 refine ac rfl (CT hk hf ht hp) ?_
 refine dF (au rfl) (fun c1 hb1=>?_)
 cases c1
 ·refine ar (au rfl)<|ag ?_
  rw[Rj (c:=(Cv.arc k w f t)) (p:=p) hb1]
  exact am aa
 ·refine ar (jo aZ rfl) ?_
  refine ar (dy (al f) bm rfl (by kernel_rfl)) ?_
  refine ac rfl (CW hk hf ht hf hp) ?_
  refine dF (au rfl) (fun c2 hb2=>?_)
  cases c2
  ·refine ag ?_
   rw[NF (c:=(Cv.arc k w f t)) (p:=p) hb1 hb2]
   exact am aa
  ·refine ar (jo aZ rfl) ?_
   refine ar (dy (al t) bm rfl (by kernel_rfl)) ?_
   refine ac rfl (CW hk hf ht hp ht)<|ag ?_
   rw[NA (c:=(Cv.arc k w f t)) (p:=p) hb1 hb2]
   exact am aa
theorem HB (_hl:GL l) (_hf:GP f) (_ht:GP t):Ok Tryz.prog 135 [.a (([.b false]++dZ l++kW++[.b false]++al f++al t))] [.a (([.b false]++dZ l++kW++[.b false]++al t++al f))]:=by
 refine bS Tryz.func135 rfl<|ar (dy (al t) bm rfl (by kernel_rfl)) ?_
 refine ar (dy (al f) bm rfl (by kernel_rfl)) ?_
 refine om (aV (us:=([.b false]++dZ l++kW++[.b false]++al t++al t)) bm rfl rfl rfl rfl (dG (by kernel_rfl)) (by kernel_rfl) rfl) ?_
 refine om (aV (us:=([.b false]++dZ l++kW++[.b false]++al t++al f)) bm rfl rfl rfl rfl (dG (by kernel_rfl)) (by kernel_rfl) rfl) ?_
 refine ar (eL iX rfl)<|ar (au rfl) ?_
 refine om (aV (us:=([.b false]++dZ l++kW++[.b false]++al t++al f)) iX rfl rfl rfl rfl (dG (by kernel_rfl)) (by kernel_rfl) rfl) ?_
 refine ar (jo aZ rfl) ?_
 refine om (fI aZ rfl) ?_
 exact ag (kX (us:=([.b false]++dZ l++kW++[.b false]++al t++al f)) aZ rfl rfl (by kernel_rfl) (by kernel_rfl) aa)
theorem IX (_hk:GK k) (_hf:GP f) (_ht:GP t):Ok Tryz.prog 135 [.a (([.b true]++pZ++cr k++[.b w]++al f++al t))] [.a (([.b true]++pZ++cr k++[.b (!w)]++al t++al f))]:=by
 refine bS Tryz.func135 rfl<|ar (dy (al t) bm rfl (by kernel_rfl)) ?_
 refine ar (dy (al f) bm rfl (by kernel_rfl)) ?_
 refine om (aV (us:=([.b true]++pZ++cr k++[.b w]++al t++al t)) bm rfl rfl rfl rfl (dG (by kernel_rfl)) (by kernel_rfl) rfl) ?_
 refine om (aV (us:=([.b true]++pZ++cr k++[.b w]++al t++al f)) bm rfl rfl rfl rfl (dG (by kernel_rfl)) (by kernel_rfl) rfl) ?_
 refine ar (eL iX rfl)<|ar (au rfl) ?_
 refine ar (eL iX rfl) ?_
 refine om (aV (us:=([.b true]++pZ++cr k++[.b (!w)]++al t++al f)) iX rfl rfl rfl rfl (dG (by kernel_rfl)) (by kernel_rfl) rfl) ?_
 refine ar (jo aZ rfl) ?_
 refine om (fI aZ rfl) ?_
 exact ag (kX (us:=([.b true]++pZ++cr k++[.b (!w)]++al t++al f)) aZ rfl rfl (by kernel_rfl) (by kernel_rfl) aa)
theorem M9 (hl:GL l):Ok Tryz.prog 201 [.a (dZ l)] [dR (ig l)]:=by
 refine bS Tryz.func201 rfl<|cS 11 [] ?_
 refine aO rfl (cD (bd (hl.a)) (bd (hl.a))) ?_
 refine aO rfl (cD (bd (hl.b)) (bd (hl.b))) ?_
 refine aO rfl (mO (bd (bj (hl.a) (hl.a))) (bd (bj (hl.b) (hl.b)))) ?_
 exact ag (bb bZ rfl aa)
theorem Np (hl:GL l) (hk:GK k):Ok Tryz.prog 203 [.a (dZ l),dR k.x,dR k.y] [dR (oz l k.x k.y)]:=by
 refine bS Tryz.func203 rfl<|cS 12 [] ?_
 refine aO rfl (cD (bd (hl.a)) (bd (hk.x))) ?_
 refine aO rfl (cD (bd (hl.b)) (bd (hk.y))) ?_
 refine aO rfl (mO (bd (bj (hl.a) (hk.x))) (bd (bj (hl.b) (hk.y)))) ?_
 refine aO rfl (gh (bd (Rz.add (bj (hl.a) (hk.x)) (bj (hl.b) (hk.y)))) (bd (hl.c))) ?_
 exact ag (bb bZ rfl aa)
theorem PG (hl:GL l) (hk:GK k):Ok Tryz.prog 200 [.a (dZ l),.a (cr k)] [dR (nC l k)]:=by
 have v1:Rz 6000000 (oz l k.x k.y):=(nF hl hk).m_
 have n1:Rz 6000000 (ig l):=(nZ hl).m_
 have n2:Rz 6000000 k.q:=hk.q.m_
 have n3:Rz 6000000 (ig l*k.q):=((nZ hl).mul hk.q).m_
 have n4:Rz 6000000 (oz l k.x k.y*oz l k.x k.y):=((nF hl hk).mul (nF hl hk)).m_
 refine bS Tryz.func200 rfl<|ac rfl (Np hl hk)<|cS 9 [] ?_
 refine aO rfl (M9 hl) ?_
 refine aO rfl (cD (by first|assumption|exact dX (by assumption) (by decide)) (by first|assumption|exact dX (hk.q) (by decide))) ?_
 refine aO rfl (cD (by first|assumption|exact dX (by assumption) (by decide)) (by first|assumption|exact dX (by assumption) (by decide))) ?_
 refine aO rfl (gh (by first|assumption|exact dX (bj (by assumption) (hk.q)) (by decide)) (by first|assumption|exact dX (bj (by assumption) (by assumption)) (by decide))) ?_
 exact ag (bb bZ rfl aa)
theorem Qb (hl:GL l) (hm:GL m):Ok Tryz.prog 205 [.a (dZ l),.a (dZ m)] [dR (nH l m)]:=by
 refine bS Tryz.func205 rfl<|cS 11 [] ?_
 refine aO rfl (cD (bd (hl.a)) (bd (hm.b))) ?_
 refine aO rfl (cD (bd (hm.a)) (bd (hl.b))) ?_
 refine aO rfl (gh (bd (bj (hl.a) (hm.b))) (bd (bj (hm.a) (hl.b)))) ?_
 exact ag (bb bZ rfl aa)
theorem Nl (hk:GK k) (hd:GK d):Ok Tryz.prog 198 [.a (cr k),.a (cr d)] [.c (.b (sO k d))]:=by
 refine bS Tryz.func198 rfl ?_
 refine ac rfl (eF (bd (hk.x)) (bd (hd.x))) ?_
 refine dF (au rfl) (fun c1 hb1=>?_)
 cases c1
 ·refine ag ?_
  rw[show sO k d=false from by unfold sO qR;rw[hb1];rfl]
  exact am aa
 ·refine ac rfl (eF (bd (hk.y)) (bd (hd.y)))<|ag ?_
  rw[show sO k d=(aM k.y d.y==0) from by unfold sO qR;rw[hb1];rfl]
  exact am aa
theorem HJ (ha1:Rz 200 a1) (hb1:Rz 200 b1) (ha2:Rz 200 a2) (hb2:Rz 200 b2) (hc:Rz 200 c) (hs:j9 c=true):Ok Tryz.prog 100 [dR a1,dR b1,dR a2,dR b2,dR c] [.a (al (jI a1 b1 a2 b2 c))]:=by
 have kt:Rz 6000000 (rt c):=hc.rt.m_
 have k1:Rz 6000000 (b1*rt c):=(hb1.mul hc.rt).m_
 have k2:Rz 6000000 (b2*rt c):=(hb2.mul hc.rt).m_
 refine bS Tryz.func100 rfl ?_
 refine ac rfl (ny (by first|assumption|exact dX hc (by decide))) ?_
 refine DW.mk<|aB rfl (fun hc1=>?_) (fun hc1=>?_)
 ·refine Dw.weak (σ':=⟨37,[(5,.p 5 0),(6,.p 6 0),(7,.p 7 0),(8,.p 8 0),(9,.p 9 0),(10,.p 10 0),(11,.p 11 0)],[(5,70,cR a1),(6,70,cR b1),(7,70,cR a2),(8,70,cR b2),(9,70,cR c),(10,84,zP),(11,70,cR (rt c))]⟩) (ak ⟨rfl,rfl,rfl,rfl,rfl,rfl,rfl,trivial⟩ ⟨rfl,rfl,rfl,rfl,rfl,rfl,by rw[←Bv hs];rfl,trivial⟩ rfl)<|jt ?_
  refine cS 12 [] ?_
  refine aO rfl (cD (by first|assumption|exact dX hb1 (by decide)) (by first|assumption|exact dX (by assumption) (by decide))) ?_
  refine aO rfl (mO (by first|assumption|exact dX ha1 (by decide)) (by first|assumption|exact dX (bj hb1 (by assumption)) (by decide))) ?_
  refine aO rfl (cD (by first|assumption|exact dX hb2 (by decide)) (by first|assumption|exact dX (by assumption) (by decide))) ?_
  refine aO rfl (mO (by first|assumption|exact dX ha2 (by decide)) (by first|assumption|exact dX (bj hb2 (by assumption)) (by decide))) ?_
  refine aq (aG (us:=(cR (a1+(b1*(rt c)))++cR (a2+(b2*(rt c))))) xP vi rfl rfl rfl) ?_
  refine aO rfl (rU)<|ag ?_
  rw[show jI a1 b1 a2 b2 c=⟨a1+b1*rt c,0,a2+b2*rt c,0,0⟩ from by unfold jI;rw[hs];rfl]
  exact bb bm rfl aa
 ·exact absurd hc1 (by rw[hs];decide)
theorem Jf (_ha1:Rz 200 a1) (_hb1:Rz 200 b1) (_ha2:Rz 200 a2) (_hb2:Rz 200 b2) (hc:Rz 200 c) (hs:j9 c=false):Ok Tryz.prog 100 [dR a1,dR b1,dR a2,dR b2,dR c] [.a (al (jI a1 b1 a2 b2 c))]:=by
 refine eG Tryz.func100 37 [.cell 10 84] rfl<|ab<|ah<|ab<|ab<|ah ?_
 refine ac rfl (ny (bd hc))<|ab<|ah ?_
 refine aB rfl (fun hc1=>?_) (fun hc1=>?_)
 ·exact absurd hc1 (by rw[hs];decide)
 ·refine az<|ab<|bR<|fK 5<|b9 (aG (us:=(cR a1++cR b1++cR a2++cR b2++cR c)) OD MA rfl rfl rfl) ?_
  refine jq<|bh ?_
  rw[show jI a1 b1 a2 b2 c=⟨a1,b1,a2,b2,c⟩ from by unfold jI;rw[hs];rfl]
  exact ag (bb bm rfl aa)
theorem EU (ha1:Rz 200 a1) (hb1:Rz 200 b1) (ha2:Rz 200 a2) (hb2:Rz 200 b2) (hc:Rz 200 c):Ok Tryz.prog 100 [dR a1,dR b1,dR a2,dR b2,dR c] [.a (al (jI a1 b1 a2 b2 c))]:=by
 cases hs:j9 c with
 |true=>exact HJ ha1 hb1 ha2 hb2 hc hs
 |false=>exact Jf ha1 hb1 ha2 hb2 hc hs
theorem Ol (hl:GL l) (hk:GK k):Ok Tryz.prog 167 [.a (dZ l),.a (cr k)] [.c (.s ((f8 l k).length) (aj al (f8 l k)))]:=by
 have h0:=hl.n
 have z1:Rz 6000000 (oz l k.x k.y):=(nF hl hk).m_
 have z2:Rz 6000000 (ig l):=(nZ hl).m_
 have z3:Rz 6000000 (oz l k.x k.y/ig l):=(Bu hl hk).m_
 have z4:Rz 6000000 (l.b/ig l):=(zV hl).m_
 have z5:Rz 6000000 (-l.a/ig l):=(BM hl).m_
 have z6:Rz 6000000 l.a:=hl.a.m_
 have z7:Rz 6000000 l.b:=hl.b.m_
 have z8:Rz 6000000 (-l.a):=z6.neg
 have z9:Rz 6000000 (oz l k.x k.y/ig l*l.a):=((Bu hl hk).mul hl.a).m_
 have zA:Rz 6000000 (oz l k.x k.y/ig l*l.b):=((Bu hl hk).mul hl.b).m_
 have zB:Rz 6000000 k.x:=hk.x.m_
 have zC:Rz 6000000 k.y:=hk.y.m_
 refine bS Tryz.func167 rfl<|cS 7 [] ?_
 refine aO rfl (PG hl hk) ?_
 refine aO rfl (M9 hl) ?_
 refine ac rfl (bF) ?_
 refine cd rfl (fun hc1=>?_) (fun hc1=>?_)
 ·refine ag ?_
  rw[Jg hc1]
  exact am aa
 ·have g1: ¬aM (nC l k) 0<0:=of_decide_eq_false hc1
  refine cS 9 [] ?_
  refine aO rfl (Np hl hk) ?_
  refine aO rfl (oJ (by first|assumption|exact dX (by assumption) (by decide)) (by first|assumption|exact dX (by assumption) (by decide)) (by assumption)) ?_
  refine cS 16 [] ?_
  refine aO rfl (cD (by first|assumption|exact dX (Rz.div (by assumption) (by assumption) (by assumption)) (by decide)) (by first|assumption|exact dX (by assumption) (by decide))) ?_
  refine aO rfl (gh (by first|assumption|exact dX (by assumption) (by decide)) (by first|assumption|exact dX (bj (Rz.div (by assumption) (by assumption) (by assumption)) (by assumption)) (by decide))) ?_
  refine aO rfl (cD (by first|assumption|exact dX (Rz.div (by assumption) (by assumption) (by assumption)) (by decide)) (by first|assumption|exact dX (by assumption) (by decide))) ?_
  refine aO rfl (gh (by first|assumption|exact dX (by assumption) (by decide)) (by first|assumption|exact dX (bj (Rz.div (by assumption) (by assumption) (by assumption)) (by assumption)) (by decide))) ?_
  refine ac rfl (bF) ?_
  refine cd rfl (fun hc2=>?_) (fun hc2=>?_)
  ·refine ar (aG (us:=(cR (k.x-(((oz l k.x k.y)/(ig l))*l.a))++cR (k.y-(((oz l k.x k.y)/(ig l))*l.b)))) xP vi rfl rfl rfl) ?_
   refine ac rfl (rU)<|ar (aS (n:=1) (us:=(cR (k.x-(((oz l k.x k.y)/(ig l))*l.a))++cR 0++cR (k.y-(((oz l k.x k.y)/(ig l))*l.b))++cR 0++cR 0)) di rfl rfl rfl (by decide) (by decide) rfl) ?_
   refine ag ?_
   rw[GH hc1 hc2]
   exact am aa
  ·have g2: ¬aM (nC l k) 0=0:=by simpa using hc2
   refine cS 11 [] ?_
   refine aO rfl (oJ (by first|assumption|exact dX (by assumption) (by decide)) (by first|assumption|exact dX (by assumption) (by decide)) (by assumption)) ?_
   refine aO rfl (si (by first|assumption|exact dX (by assumption) (by decide))) ?_
   refine aO rfl (oJ (by first|assumption|exact dX (Rz.neg (by assumption)) (by decide)) (by first|assumption|exact dX (by assumption) (by decide)) (by assumption)) ?_
   refine cS 16 [] ?_
   refine aO rfl (si (by first|assumption|exact dX (Rz.div (by assumption) (by assumption) (by assumption)) (by decide))) ?_
   refine aO rfl (si (by first|assumption|exact dX (Rz.div (Rz.neg (by assumption)) (by assumption) (by assumption)) (by decide))) ?_
   refine aO rfl (EU ((pe hl hk).m_) ((zV hl).neg.m_) ((pg hl hk).m_) ((BM hl).neg.m_) ((uz hl hk).m_)) ?_
   refine aO rfl (EU ((pe hl hk).m_) ((zV hl).m_) ((pg hl hk).m_) ((BM hl).m_) ((uz hl hk).m_)) ?_
   refine ac rfl (kg (Cy hl hk g1 g2) (C9 hl hk g1 g2)) ?_
   refine cd rfl (fun hc3=>?_) (fun hc3=>?_)
   ·refine ar (aS (n:=2) (us:=al (Kv l k)++al (Kt l k)) di rfl rfl rfl (by decide) (by decide) rfl) ?_
    refine ag ?_
    rw[Hr hc1 hc2 hc3]
    exact am aa
   ·refine ar (aS (n:=2) (us:=al (Kt l k)++al (Kv l k)) di rfl rfl rfl (by decide) (by decide) rfl) ?_
    refine ag ?_
    rw[JK hc1 hc2 hc3]
    exact am aa
theorem Rf (hl:GL l) (hm:GL m):Ok Tryz.prog 168 [.a (dZ l),.a (dZ m)] [.c (.s ((iE l m).length) (aj al (iE l m))),.c (.i .i64 (mL l m))]:=by
 have z1:Rz 6000000 (nH l m):=(yP hl hm).m_
 have z2:Rz 6000000 (LT l m):=(IY hl hm).m_
 have z3:Rz 6000000 (My l m):=(IN hl hm).m_
 refine bS Tryz.func168 rfl ?_
 refine ac rfl (Qb hl hm)<|cS 24 [] ?_
 refine aO rfl (cD (bd (hl.c)) (bd (hm.b))) ?_
 refine aO rfl (cD (bd (hm.c)) (bd (hl.b))) ?_
 refine aO rfl (gh (bd (bj (hl.c) (hm.b))) (bd (bj (hm.c) (hl.b)))) ?_
 refine aO rfl (cD (bd (hl.a)) (bd (hm.c))) ?_
 refine aO rfl (cD (bd (hm.a)) (bd (hl.c))) ?_
 refine aO rfl (gh (bd (bj (hl.a) (hm.c))) (bd (bj (hm.a) (hl.c)))) ?_
 refine ac rfl (bF) ?_
 refine cd rfl (fun hc1=>?_) (fun hc1=>?_)
 ·have h0:nH l m≠0:=fun e=>absurd hc1 (by rw[gM.2 e];decide)
  refine cS 11 [] ?_
  refine aO rfl (oJ z2 z1 h0) ?_
  refine aO rfl (oJ z3 z1 h0) ?_
  refine aq (aG (us:=(cR (LT l m/nH l m)++cR (My l m/nH l m))) xP vi rfl rfl rfl) ?_
  refine aO rfl (rU)<|aq (aS (n:=1) (us:=(cR (LT l m/nH l m)++cR 0++cR (My l m/nH l m)++cR 0++cR 0)) di rfl rfl rfl (by decide) (by decide) rfl) ?_
  refine ag ?_
  rw[(Br hc1).1,(Br hc1).2]
  exact am (am aa)
 ·refine ac rfl (bF) ?_
  refine dF (au rfl) (fun c2 hb2=>?_)
  cases c2
  ·refine nE rfl<|ag ?_
   rw[(xq hc1 hb2).1,(xq hc1 hb2).2]
   exact am (am aa)
  ·refine ac rfl (bF) ?_
   refine cd rfl (fun hc3=>?_) (fun hc3=>?_)
   ·refine ag ?_
    rw[(xE hc1 hb2 hc3).1,(xE hc1 hb2 hc3).2]
    exact am (am aa)
   ·refine ag ?_
    rw[(xl hc1 hc3).1,(xl hc1 hc3).2]
    exact am (am aa)
theorem Qo (hk:GK k) (hd:GK d) (hn:sO k d=false):Ok Tryz.prog 199 [.a (cr k),.a (cr d)] [.a (dZ (KW k d)),.c (.i .i64 0)]:=by
 have zt:Rz 6000000 (2:Rat):=Cp.m_
 have f1:Rz 6000000 (J4 k):=(uj hk).m_
 have f2:Rz 6000000 (J4 d):=(uj hd).m_
 refine bS Tryz.func199 rfl<|ac rfl (i9 (Nl hk hd) hn)<|nE rfl<|ac rfl (ya (eu (by decide) (by decide)) (show((2:Int):Rat)=2 from rfl))<|cS 15 [] ?_
 refine aO rfl (cD (bd (hk.x)) (bd (hk.x))) ?_
 refine aO rfl (cD (bd (hk.y)) (bd (hk.y))) ?_
 refine aO rfl (mO (bd (bj (hk.x) (hk.x))) (bd (bj (hk.y) (hk.y)))) ?_
 refine aO rfl (gh (bd (Rz.add (bj (hk.x) (hk.x)) (bj (hk.y) (hk.y)))) (bd (hk.q)))<|cS 15 [] ?_
 refine aO rfl (cD (bd (hd.x)) (bd (hd.x))) ?_
 refine aO rfl (cD (bd (hd.y)) (bd (hd.y))) ?_
 refine aO rfl (mO (bd (bj (hd.x) (hd.x))) (bd (bj (hd.y) (hd.y)))) ?_
 refine aO rfl (gh (bd (Rz.add (bj (hd.x) (hd.x)) (bj (hd.y) (hd.y)))) (bd (hd.q))) ?_
 refine cS 18 [] ?_
 refine aO rfl (gh (bd (hd.x)) (bd (hk.x))) ?_
 refine aO rfl (cD (MC) (bd (jA (hd.x) (hk.x)))) ?_
 refine aO rfl (gh (bd (hd.y)) (bd (hk.y))) ?_
 refine aO rfl (cD (MC) (bd (jA (hd.y) (hk.y)))) ?_
 refine aO rfl (gh (bd (jA (Rz.add (bj (hd.x) (hd.x)) (bj (hd.y) (hd.y))) (hd.q))) (bd (jA (Rz.add (bj (hk.x) (hk.x)) (bj (hk.y) (hk.y))) (hk.q)))) ?_
 refine aq (aG (us:=(cR (2*(d.x-k.x))++cR (2*(d.y-k.y))++cR ((((d.x*d.x)+(d.y*d.y))-d.q)-(((k.x*k.x)+(k.y*k.y))-k.q)))) LA G3 rfl rfl rfl) ?_
 exact ag (bb ud rfl (am aa))
theorem Q8 (hk:GK k) (hd:GK d):Ok Tryz.prog 166 [.a (cr k),.a (cr d)] [.c (.s ((mv k d).length) (aj al (mv k d))),.c (.i .i64 (tC k d))]:=by
 refine bS Tryz.func166 rfl ?_
 refine ac rfl (Nl hk hd) ?_
 refine cd rfl (fun hc1=>?_) (fun hc1=>?_)
 ·refine ac rfl (eF (bd (hk.q)) (bd (hd.q))) ?_
  refine cd rfl (fun hc2=>?_) (fun hc2=>?_)
  ·refine ag ?_
   rw[(I9 hc1 hc2).1,(I9 hc1 hc2).2]
   exact am (am aa)
  ·refine ag ?_
   rw[(HH hc1 hc2).1,(HH hc1 hc2).2]
   exact am (am aa)
 ·refine ac rfl (Qo hk hd hc1)<|ac rfl (Ol (DX hk hd hc1) hk)<|ag ?_
  rw[(GO hc1).1,(GO hc1).2]
  exact am (am aa)
theorem MR (hk:GK k) (hd:GK d):Ok Tryz.prog 69 [.a (cr k),.a (cr d)] [.c (.b (pc k d))]:=by
 refine bS Tryz.func69 rfl ?_
 refine ac rfl (eF (bd (hk.x)) (bd (hd.x))) ?_
 refine dF (au rfl) (fun c1 hb1=>?_)
 cases c1
 ·refine ar (au rfl)<|ag ?_
  rw[show pc k d=false from by unfold pc qR;rw[hb1];rfl]
  exact am aa
 ·refine ac rfl (eF (bd (hk.y)) (bd (hd.y))) ?_
  refine dF (au rfl) (fun c2 hb2=>?_)
  cases c2
  ·refine ag ?_
   rw[show pc k d=false from by unfold pc qR;rw[hb1,hb2];rfl]
   exact am aa
  ·refine ac rfl (eF (bd (hk.q)) (bd (hd.q)))<|ag ?_
   rw[show pc k d=(aM k.q d.q==0) from by unfold pc qR;rw[hb1,hb2];rfl]
   exact am aa
theorem QW (hl:GL l) (hm:GL m):Ok Tryz.prog 133 [.a (dZ l),.a (dZ m)] [.c (.b (wM l m))]:=by
 refine bS Tryz.func133 rfl<|cS 41 [] ?_
 refine aO rfl (dr (bd (hl.a)) (bd (hm.b))) ?_
 refine aO rfl (dr (bd (hl.b)) (bd (hm.a))) ?_
 refine aO rfl (eF (bd (bj (hl.a) (hm.b))) (bd (bj (hl.b) (hm.a)))) ?_
 refine pr (au rfl) (fun c1 hb1=>?_)
 cases c1
 ·refine aq (au rfl)<|ag ?_
  rw[show wM l m=false from by unfold wM qR;rw[hb1];rfl]
  exact am aa
 ·refine aO rfl (dr (bd (hl.a)) (bd (hm.c))) ?_
  refine aO rfl (dr (bd (hl.c)) (bd (hm.a))) ?_
  refine aO rfl (eF (bd (bj (hl.a) (hm.c))) (bd (bj (hl.c) (hm.a)))) ?_
  refine pr (au rfl) (fun c2 hb2=>?_)
  cases c2
  ·refine ag ?_
   rw[show wM l m=false from by unfold wM qR;rw[hb1,hb2];rfl]
   exact am aa
  ·refine aO rfl (dr (bd (hl.b)) (bd (hm.c))) ?_
   refine aO rfl (dr (bd (hl.c)) (bd (hm.b))) ?_
   refine aO rfl (eF (bd (bj (hl.b) (hm.c))) (bd (bj (hl.c) (hm.b))))<|ag ?_
   rw[show wM l m=(aM (l.b*m.c) (l.c*m.b)==0) from by unfold wM qR;rw[hb1,hb2];rfl]
   exact am aa
theorem IL (hl:GL l) (_hf:GP f) (_ht:GP t) (hm:GL m) {v:Pt}(_hu:GP u) (_hv:GP v):Ok Tryz.prog 95 [.a (([.b false]++dZ l++kW++[.b false]++al f++al t)),.a (([.b false]++dZ m++kW++[.b false]++al u++al v))] [.c (.b (gJ (Cv.seg l f t) (Cv.seg m u v)))]:=by
 refine bS Tryz.func95 rfl ?_
 refine ar (eL iX rfl) ?_
 refine ar (eL iX rfl) ?_
 refine ar (fL rfl rfl fi rfl) ?_
 refine nE rfl<|ar (eL iX rfl)<|nE rfl<|ar (dy (dZ l) ud rfl (by kernel_rfl)) ?_
 refine ar (dy (dZ m) ud rfl (by kernel_rfl)) ?_
 refine ac rfl (QW hl hm) ?_
 exact ag (am aa)
theorem Lu (hl:GL l) (_hf:GP f) (_ht:GP t) (hm:GL m) {v:Pt}(_hu:GP u) (_hv:GP v):Ok Tryz.prog 136 [.a (([.b false]++dZ l++kW++[.b false]++al f++al t)),.a (([.b false]++dZ m++kW++[.b false]++al u++al v))] [.c (.s ((kv (Cv.seg l f t) (Cv.seg m u v)).length) (aj al (kv (Cv.seg l f t) (Cv.seg m u v)))),.c (.i .i64 (Ae (Cv.seg l f t) (Cv.seg m u v)))]:=by
 refine bS Tryz.func136 rfl ?_
 refine ar (eL iX rfl) ?_
 refine ar (au rfl) ?_
 refine nE rfl ?_
 refine ar (eL iX rfl) ?_
 refine nE rfl ?_
 refine ar (eL iX rfl) ?_
 refine nE rfl ?_
 refine ar (dy (dZ l) ud rfl (by kernel_rfl)) ?_
 refine ar (dy (dZ m) ud rfl (by kernel_rfl)) ?_
 refine ac rfl (Rf hl hm) ?_
 exact ag (am (am aa))
theorem Hh (_hl:GL l) (_hf:GP f) (_ht:GP t) (_hd:GK d) {v:Pt}(_hu:GP u) (_hv:GP v):Ok Tryz.prog 95 [.a (([.b false]++dZ l++kW++[.b false]++al f++al t)),.a (([.b true]++pZ++cr d++[.b w2]++al u++al v))] [.c (.b (gJ (Cv.seg l f t) (Cv.arc d w2 u v)))]:=by
 refine bS Tryz.func95 rfl ?_
 refine ar (eL iX rfl) ?_
 refine ar (eL iX rfl) ?_
 refine ar (fL rfl rfl fi rfl) ?_
 refine kG rfl ?_
 exact ag (am aa)
theorem K0 (hl:GL l) (_hf:GP f) (_ht:GP t) (hd:GK d) {v:Pt}(_hu:GP u) (_hv:GP v):Ok Tryz.prog 136 [.a (([.b false]++dZ l++kW++[.b false]++al f++al t)),.a (([.b true]++pZ++cr d++[.b w2]++al u++al v))] [.c (.s ((kv (Cv.seg l f t) (Cv.arc d w2 u v)).length) (aj al (kv (Cv.seg l f t) (Cv.arc d w2 u v)))),.c (.i .i64 (Ae (Cv.seg l f t) (Cv.arc d w2 u v)))]:=by
 refine bS Tryz.func136 rfl ?_
 refine ar (eL iX rfl) ?_
 refine ar (au rfl) ?_
 refine nE rfl ?_
 refine ar (eL iX rfl) ?_
 refine nE rfl ?_
 refine ar (eL iX rfl) ?_
 refine kG rfl ?_
 refine ar (dy (dZ l) ud rfl (by kernel_rfl)) ?_
 refine ar (dy (cr d) sf rfl (by kernel_rfl)) ?_
 refine ac rfl (Ol hl hd) ?_
 exact ag (am (am aa))
theorem Jt (_hk:GK k) (_hf:GP f) (_ht:GP t) (_hm:GL m) {v:Pt}(_hu:GP u) (_hv:GP v):Ok Tryz.prog 95 [.a (([.b true]++pZ++cr k++[.b w]++al f++al t)),.a (([.b false]++dZ m++kW++[.b false]++al u++al v))] [.c (.b (gJ (Cv.arc k w f t) (Cv.seg m u v)))]:=by
 refine bS Tryz.func95 rfl ?_
 refine ar (eL iX rfl) ?_
 refine ar (eL iX rfl) ?_
 refine ar (fL rfl rfl fi rfl) ?_
 refine kG rfl ?_
 exact ag (am aa)
theorem Lt (hk:GK k) (_hf:GP f) (_ht:GP t) (hm:GL m) {v:Pt}(_hu:GP u) (_hv:GP v):Ok Tryz.prog 136 [.a (([.b true]++pZ++cr k++[.b w]++al f++al t)),.a (([.b false]++dZ m++kW++[.b false]++al u++al v))] [.c (.s ((kv (Cv.arc k w f t) (Cv.seg m u v)).length) (aj al (kv (Cv.arc k w f t) (Cv.seg m u v)))),.c (.i .i64 (Ae (Cv.arc k w f t) (Cv.seg m u v)))]:=by
 refine bS Tryz.func136 rfl ?_
 refine ar (eL iX rfl) ?_
 refine ar (au rfl) ?_
 refine ar (eL iX rfl) ?_
 refine nE rfl ?_
 refine ar (eL iX rfl) ?_
 refine kG rfl ?_
 refine ar (dy (dZ m) ud rfl (by kernel_rfl)) ?_
 refine ar (dy (cr k) sf rfl (by kernel_rfl)) ?_
 refine ac rfl (Ol hm hk) ?_
 exact ag (am (am aa))
theorem JL (hk:GK k) (_hf:GP f) (_ht:GP t) (hd:GK d) {v:Pt}(_hu:GP u) (_hv:GP v):Ok Tryz.prog 95 [.a (([.b true]++pZ++cr k++[.b w]++al f++al t)),.a (([.b true]++pZ++cr d++[.b w2]++al u++al v))] [.c (.b (gJ (Cv.arc k w f t) (Cv.arc d w2 u v)))]:=by
 refine bS Tryz.func95 rfl ?_
 refine ar (eL iX rfl) ?_
 refine ar (eL iX rfl) ?_
 refine ar (fL rfl rfl fi rfl) ?_
 refine nE rfl<|ar (eL iX rfl)<|kG rfl ?_
 refine ar (dy (cr k) sf rfl (by kernel_rfl)) ?_
 refine ar (dy (cr d) sf rfl (by kernel_rfl)) ?_
 refine ac rfl (MR hk hd) ?_
 exact ag (am aa)
theorem KR (hk:GK k) (_hf:GP f) (_ht:GP t) (hd:GK d) {v:Pt}(_hu:GP u) (_hv:GP v):Ok Tryz.prog 136 [.a (([.b true]++pZ++cr k++[.b w]++al f++al t)),.a (([.b true]++pZ++cr d++[.b w2]++al u++al v))] [.c (.s ((kv (Cv.arc k w f t) (Cv.arc d w2 u v)).length) (aj al (kv (Cv.arc k w f t) (Cv.arc d w2 u v)))),.c (.i .i64 (Ae (Cv.arc k w f t) (Cv.arc d w2 u v)))]:=by
 refine bS Tryz.func136 rfl ?_
 refine ar (eL iX rfl) ?_
 refine ar (au rfl) ?_
 refine ar (eL iX rfl) ?_
 refine kG rfl ?_
 refine ar (dy (cr k) sf rfl (by kernel_rfl)) ?_
 refine ar (dy (cr d) sf rfl (by kernel_rfl)) ?_
 refine ac rfl (Q8 hk hd) ?_
 exact ag (am (am aa))
theorem I7 {c:Cv}(hc:c.good) (hp:GP p) (hq:GP q):Ok Tryz.prog 139 [.a (ao c),.a (al p),.a (al q)] [.c (.i .i64 (c.ord p q))]:=by
 cases c with
 |seg l f t=>exact Dg hc.1 hc.2.1 hc.2.2 hp hq
 |arc k w f t=>exact CW hc.1 hc.2.1 hc.2.2 hp hq
theorem BI {c:Cv}(hc:c.good) (hp:GP p):Ok Tryz.prog 137 [.a (ao c),.a (al p)] [.c (.b (c.on p))]:=by
 cases c with
 |seg l f t=>exact QJ hc.1 hc.2.1 hc.2.2 hp
 |arc k w f t=>exact MK hc.1 hc.2.1 hc.2.2 hp
theorem Eg {c:Cv}(hc:c.good) {L:List Pt}(hL: ∀p∈L,GP p) (lL:L.length≤10000):Ok Tryz.prog 138 [.a (ao c),.c (.s ((L).length) (aj al (L)))] [.c (.s ((bt c L).length) (aj al (bt c L)))]:=by
 refine eG Tryz.func138 64 [.tmp 4] rfl<|ab<|ah<|ab<|ah<|ab<|ab<|ah<|aA<|aY (ι:={n:Nat // n≤L.length}) (fun i=>⟨64,[(1,.v (.c (.s ((L).length) (aj al (L))))),(2,.p 2 0),(5,.v (.c (.s ((bt c (L.take i.1)).length) (aj al (bt c (L.take i.1)))))),(6,.v (.c (.i .i64 (i.1:Int))))],[(2,86,ao c)]⟩) (fun i=>L.length-i.1) ⟨0,cY _⟩ (ak ⟨rfl,rfl,rfl,rfl,trivial⟩ ⟨rfl,trivial⟩ rfl) ?_
 rintro⟨n,h2⟩
 replace h2:n≤L.length:=h2
 dsimp only
 refine ab<|ab<|ah ?_
 refine aB rfl (fun hc1=>?_) (fun hc1=>?_)
 ·have g1:n<L.length:=by have:=of_decide_eq_true hc1;omega
  obtain⟨O,eO⟩: ∃O,bt c (L.take n)=O:=⟨_,rfl⟩
  have hO: ∀p∈O,GP p:=fun p hp=>hL p (tB (jG (by rw[eO];exact hp)))
  have lO:O.length≤10000:=by
   have:=nk (c:=c) (l:=L.take n)
   rw[eO,cX] at this;omega
  refine Dw.weak (σ':=⟨64,[(1,.v (.c (.s ((L).length) (aj al (L))))),(2,.p 2 0),(5,.v (.c (.s ((O).length) (aj al (O))))),(6,.v (.c (.i .i64 (n:Int))))],[(2,86,ao c)]⟩) (ak ⟨rfl,rfl,by rw[←eO];rfl,rfl,trivial⟩ ⟨rfl,trivial⟩ rfl) ?_
  refine az<|ab<|aA<|ab<|ah<|ab<|aA<|aY (ι:={j:Nat // j≤O.length∧ ∀r,r<j→(c).ord (O.getD r dPt) (L.getD n dPt)<0}) (fun i=>⟨64,[(1,.v (.c (.s ((L).length) (aj al (L))))),(2,.p 2 0),(5,.v (.c (.s ((O).length) (aj al (O))))),(6,.v (.c (.i .i64 (n:Int)))),(7,.v (.c (.i .i64 (i.1:Int))))],[(2,86,ao c)]⟩) (fun i=>O.length-i.1) ⟨0,cY _,fun r h=>absurd h (Nat.not_lt_zero r)⟩ (ak ⟨rfl,rfl,rfl,rfl,rfl,trivial⟩ ⟨rfl,trivial⟩ rfl) ?_
  rintro⟨j,h3,h4⟩
  replace h3:j≤O.length:=h3
  replace h4: ∀r,r<j→(c).ord (O.getD r dPt) (L.getD n dPt)<0:=h4
  dsimp only
  refine ab<|ab<|dx 17 [] ?_
  refine pr (au rfl) (fun c2 hb2=>?_)
  cases c2
  ·have g2:O.length≤j:=by have:=of_decide_eq_false hb2;omega
   have hs:kr c (L.getD n dPt) O=j:=zD h3 h4 (.inl (by omega))
   have g4: ¬(j<O.length∧cP (O.getD j dPt) (L.getD n dPt)=0):=fun h=>by omega
   refine bT rfl<|aW<|ab<|ab<|nj 15 rfl rfl<|dO 3<|bA (sL (c:=false) (Pw rfl) (decide_eq_false (by omega))) ?_
   refine wd<|dh<|bv<|bT rfl<|az ?_
   rcases fQ j with hj0|hj0
   ·refine y8 15 [10,14] cZ (by kernel_rfl) rfl rfl<|d5 rfl (gU di rfl) rfl ?_
    refine d5 rfl (au rfl) rfl<|d5 rfl (au rfl) rfl<|d5 rfl (qE (n':=0) (us':=[]) (j8 (j:=(j:Int)) (n:=(O).length) (xs:=aj al (O)) (us:=aj al (O.take j)) ei rfl rfl (by omega) (ai aD _) (nl aD _ _) rfl) (by omega) (by rw[hj0];rfl)) rfl ?_
    refine d5 rfl (jP di rfl rfl rfl) rfl ?_
    refine d5 rfl (au rfl) rfl<|d5 rfl (au rfl) rfl<|d5 rfl (cU dPt aD g1 ei rfl) rfl<|d5 rfl (aJ (us:=al (L.getD n dPt)) bm rfl rfl rfl rfl) rfl ?_
    refine d5 rfl (aS (n:=1) (us:=al (L.getD n dPt)) di rfl rfl rfl (by decide) (by decide) rfl) rfl ?_
    refine wT rfl<|d5 rfl (au rfl) rfl<|d5 rfl (au rfl) rfl<|d5 rfl (ms (j:=(j:Int)) (n:=(O).length) (xs:=aj al (O)) (n':=O.length-j) (us:=aj al (O.drop j)) ei rfl rfl (by omega) (ai aD _) (by omega) (kV aD _ _) rfl) rfl ?_
    refine wT rfl ?_
    refine Bc (x0:=.tmp 52) (t1:=58) (y1:=.tmp 57) (t2:=62) (y2:=.tmp 61) (N':=O.length+1) (zs':=aj al (O.take j++(L.getD n dPt)::O.drop j)) di (by decide) rfl rfl rfl rfl rfl rfl (rfl) (by rw[ai aD,dz]) (by kernel_rfl) (by kernel_rfl) (by decide) rfl rfl rfl rfl (by omega) (by rw[rz,hj0];rfl) (by omega) (go (by omega)) (fun cg3 rg3 hga3 hgb3 hgc3=>?_)
    refine jq<|bI (t:=5) (m:=20) (us:=aj al (O.take j++(L.getD n dPt)::O.drop j)) rfl rfl (ia (n:=O.length+1) (by rw[ai aD,iC (by omega)]) (by assumption) (by omega)) (by omega) (by assumption) (eg (by rw[ai aD,iC (by omega)]))<|bR<|fK 1<|b9 (ba (by omega) rfl)<|jq ?_
    exact⟨⟨n+1,g1⟩,ak ⟨rfl,rfl,by rw[nB g1,eO,rc hs g4,iC h3];rfl,rfl,trivial⟩ ⟨rfl,trivial⟩ rfl,by show L.length-(n+1)<L.length-n;omega⟩
   ·refine y8 15 [4,10,14] cZ (by kernel_rfl) rfl rfl<|d5 rfl (gU di rfl) rfl ?_
    refine d5 rfl (au rfl) rfl<|d5 rfl (au rfl) rfl<|d5 rfl ((j8 (j:=(j:Int)) (n:=(O).length) (xs:=aj al (O)) (us:=aj al (O.take j)) ei rfl rfl (by omega) (ai aD _) (nl aD _ _) rfl)) rfl ?_
    refine wT rfl<|d5 rfl (au rfl) rfl<|d5 rfl (au rfl) rfl<|d5 rfl (cU dPt aD g1 ei rfl) rfl<|d5 rfl (aJ (us:=al (L.getD n dPt)) bm rfl rfl rfl rfl) rfl ?_
    refine d5 rfl (aS (n:=1) (us:=al (L.getD n dPt)) di rfl rfl rfl (by decide) (by decide) rfl) rfl ?_
    refine wT rfl<|d5 rfl (au rfl) rfl<|d5 rfl (au rfl) rfl<|d5 rfl (ms (j:=(j:Int)) (n:=(O).length) (xs:=aj al (O)) (n':=O.length-j) (us:=aj al (O.drop j)) ei rfl rfl (by omega) (ai aD _) (by omega) (kV aD _ _) rfl) rfl ?_
    refine wT rfl ?_
    refine AD (x0:=.tmp 48) (t1:=52) (y1:=.tmp 51) (t2:=58) (y2:=.tmp 57) (t3:=62) (y3:=.tmp 61) (N':=O.length+1) (zs':=aj al (O.take j++(L.getD n dPt)::O.drop j)) di (by decide) rfl rfl rfl rfl rfl rfl rfl rfl (by rw[ai aD,cX,de h3];rfl) (rfl) (by rw[ai aD,dz]) (by kernel_rfl) (by kernel_rfl) (hj0) rfl rfl rfl rfl rfl rfl (by omega) (rz.symm) (by omega) (go (by omega)) (fun cg4 rg4 hga4 hgb4 hgc4=>?_)
    refine jq<|bI (t:=5) (m:=20) (us:=aj al (O.take j++(L.getD n dPt)::O.drop j)) rfl rfl (ia (n:=O.length+1) (by rw[ai aD,iC (by omega)]) (by assumption) (by omega)) (by omega) (by assumption) (eg (by rw[ai aD,iC (by omega)]))<|ah<|ar (ba (by omega) rfl) ?_
    exact⟨⟨n+1,g1⟩,ak ⟨rfl,rfl,by rw[nB g1,eO,rc hs g4,iC h3];rfl,rfl,trivial⟩ ⟨rfl,trivial⟩ rfl,by show L.length-(n+1)<L.length-n;omega⟩
  ·have g2:j<O.length:=by have:=of_decide_eq_true hb2;omega
   refine aq (eM (ae _) aZ rfl)<|aq (cU dPt aD g2 ei rfl)<|aq (aJ (us:=al (O.getD j dPt)) bm rfl rfl rfl rfl) ?_
   refine aq (cU dPt aD g1 ei rfl)<|aq (aJ (us:=al (L.getD n dPt)) bm rfl rfl rfl rfl) ?_
   refine aO rfl (I7 hc (GP.getD hO j) (GP.getD hL n)) ?_
   refine aB rfl (fun hc5=>?_) (fun hc5=>?_)
   ·have g3:(c).ord (O.getD j dPt) (L.getD n dPt)<0:=of_decide_eq_true hc5
    refine az<|aA<|ah<|ar (ba (by omega) rfl) ?_
    exact⟨⟨j+1,g2,fun r hr=>(fm.1 hr).elim (h4 r) (fun e=>by rw[e];exact g3)⟩,ak ⟨rfl,rfl,rfl,rfl,rfl,trivial⟩ ⟨rfl,trivial⟩ rfl,by show O.length-(j+1)<O.length-j;omega⟩
   ·have g3: ¬(c).ord (O.getD j dPt) (L.getD n dPt)<0:=of_decide_eq_false hc5
    have hs:kr c (L.getD n dPt) O=j:=zD h3 h4 (.inr g3)
    refine aW<|ab<|ab<|nj 15 rfl rfl<|dO 3<|bA (sL (c:=true) (Pw rfl) (decide_eq_true (by omega))) ?_
    refine dO 3<|bA (cU dPt aD g2 ei rfl)<|bA (aJ (us:=al (O.getD j dPt)) bm rfl rfl rfl rfl) ?_
    refine dO 2<|bA (cU dPt aD g1 ei rfl)<|bA (aJ (us:=al (L.getD n dPt)) bm rfl rfl rfl rfl) ?_
    refine bA (mg rfl (mn (GP.getD hO j) (GP.getD hL n)))<|wd<|dh<|bv ?_
    refine aB rfl (fun hc6=>?_) (fun hc6=>?_)
    ·have g4:cP (O.getD j dPt) (L.getD n dPt)=0:=by simpa using hc6
     refine aW<|ah<|ar (ba (by omega) rfl) ?_
     exact⟨⟨n+1,g1⟩,ak ⟨rfl,rfl,by rw[nB g1,eO,LB hs g2 g4];rfl,rfl,trivial⟩ ⟨rfl,trivial⟩ rfl,by show L.length-(n+1)<L.length-n;omega⟩
    ·have g5:cP (O.getD j dPt) (L.getD n dPt)≠0:=by simpa using hc6
     have g4: ¬(j<O.length∧cP (O.getD j dPt) (L.getD n dPt)=0):=fun h=>g5 h.2
     refine az ?_
     rcases fQ j with hj0|hj0
     ·refine y8 15 [10,14] cZ (by kernel_rfl) rfl rfl<|d5 rfl (gU di rfl) rfl ?_
      refine d5 rfl (au rfl) rfl<|d5 rfl (au rfl) rfl<|d5 rfl (qE (n':=0) (us':=[]) (j8 (j:=(j:Int)) (n:=(O).length) (xs:=aj al (O)) (us:=aj al (O.take j)) ei rfl rfl (by omega) (ai aD _) (nl aD _ _) rfl) (by omega) (by rw[hj0];rfl)) rfl ?_
      refine d5 rfl (jP di rfl rfl rfl) rfl ?_
      refine d5 rfl (au rfl) rfl<|d5 rfl (au rfl) rfl<|d5 rfl (cU dPt aD g1 ei rfl) rfl<|d5 rfl (aJ (us:=al (L.getD n dPt)) bm rfl rfl rfl rfl) rfl ?_
      refine d5 rfl (aS (n:=1) (us:=al (L.getD n dPt)) di rfl rfl rfl (by decide) (by decide) rfl) rfl ?_
      refine wT rfl<|d5 rfl (au rfl) rfl<|d5 rfl (au rfl) rfl<|d5 rfl (ms (j:=(j:Int)) (n:=(O).length) (xs:=aj al (O)) (n':=O.length-j) (us:=aj al (O.drop j)) ei rfl rfl (by omega) (ai aD _) (by omega) (kV aD _ _) rfl) rfl ?_
      refine wT rfl ?_
      refine Bc (x0:=.tmp 52) (t1:=58) (y1:=.tmp 57) (t2:=62) (y2:=.tmp 61) (N':=O.length+1) (zs':=aj al (O.take j++(L.getD n dPt)::O.drop j)) di (by decide) rfl rfl rfl rfl rfl rfl (rfl) (by rw[ai aD,dz]) (by kernel_rfl) (by kernel_rfl) (by decide) rfl rfl rfl rfl (by omega) (by rw[rz,hj0];rfl) (by omega) (go (by omega)) (fun cg7 rg7 hga7 hgb7 hgc7=>?_)
      refine jq<|bI (t:=5) (m:=20) (us:=aj al (O.take j++(L.getD n dPt)::O.drop j)) rfl rfl (ia (n:=O.length+1) (by rw[ai aD,iC (by omega)]) (by assumption) (by omega)) (by omega) (by assumption) (eg (by rw[ai aD,iC (by omega)]))<|bR<|fK 1<|b9 (ba (by omega) rfl)<|jq ?_
      exact⟨⟨n+1,g1⟩,ak ⟨rfl,rfl,by rw[nB g1,eO,rc hs g4,iC h3];rfl,rfl,trivial⟩ ⟨rfl,trivial⟩ rfl,by show L.length-(n+1)<L.length-n;omega⟩
     ·refine y8 15 [4,10,14] cZ (by kernel_rfl) rfl rfl<|d5 rfl (gU di rfl) rfl ?_
      refine d5 rfl (au rfl) rfl<|d5 rfl (au rfl) rfl<|d5 rfl ((j8 (j:=(j:Int)) (n:=(O).length) (xs:=aj al (O)) (us:=aj al (O.take j)) ei rfl rfl (by omega) (ai aD _) (nl aD _ _) rfl)) rfl ?_
      refine wT rfl<|d5 rfl (au rfl) rfl<|d5 rfl (au rfl) rfl<|d5 rfl (cU dPt aD g1 ei rfl) rfl<|d5 rfl (aJ (us:=al (L.getD n dPt)) bm rfl rfl rfl rfl) rfl ?_
      refine d5 rfl (aS (n:=1) (us:=al (L.getD n dPt)) di rfl rfl rfl (by decide) (by decide) rfl) rfl ?_
      refine wT rfl<|d5 rfl (au rfl) rfl<|d5 rfl (au rfl) rfl<|d5 rfl (ms (j:=(j:Int)) (n:=(O).length) (xs:=aj al (O)) (n':=O.length-j) (us:=aj al (O.drop j)) ei rfl rfl (by omega) (ai aD _) (by omega) (kV aD _ _) rfl) rfl ?_
      refine wT rfl ?_
      refine AD (x0:=.tmp 48) (t1:=52) (y1:=.tmp 51) (t2:=58) (y2:=.tmp 57) (t3:=62) (y3:=.tmp 61) (N':=O.length+1) (zs':=aj al (O.take j++(L.getD n dPt)::O.drop j)) di (by decide) rfl rfl rfl rfl rfl rfl rfl rfl (by rw[ai aD,cX,de h3];rfl) (rfl) (by rw[ai aD,dz]) (by kernel_rfl) (by kernel_rfl) (hj0) rfl rfl rfl rfl rfl rfl (by omega) (rz.symm) (by omega) (go (by omega)) (fun cg8 rg8 hga8 hgb8 hgc8=>?_)
      refine jq<|bI (t:=5) (m:=20) (us:=aj al (O.take j++(L.getD n dPt)::O.drop j)) rfl rfl (ia (n:=O.length+1) (by rw[ai aD,iC (by omega)]) (by assumption) (by omega)) (by omega) (by assumption) (eg (by rw[ai aD,iC (by omega)]))<|ah<|ar (ba (by omega) rfl) ?_
      exact⟨⟨n+1,g1⟩,ak ⟨rfl,rfl,by rw[nB g1,eO,rc hs g4,iC h3];rfl,rfl,trivial⟩ ⟨rfl,trivial⟩ rfl,by show L.length-(n+1)<L.length-n;omega⟩
 ·have hi:L.length≤n:=by have:=of_decide_eq_false hc1;omega
  refine aW<|ab<|ah<|bh ?_
  rw[←Fc (c:=c) (l:=L) hi]
  exact ag (am aa)
end Go.Proofs.YtkfgimjmgfoneaaGreatDoor
