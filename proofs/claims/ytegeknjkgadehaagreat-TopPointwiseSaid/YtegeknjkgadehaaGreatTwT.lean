/-Data:values known as they are:strings,nil slices in fields,own slices in fields that grow;the end of an own slice appended to its beginning. -/
import Derived.Test.YtegeknjkgadehaaGreatTwS
import Derived.Deep.DeepAppendWide
namespace Go.Proofs.YtegeknjkgadehaaGreat
open Go Go.RowKit
variable {a:Act}{B:BF}{u:CellD}{x:DV}{w0:Ent}{f:Fm}{tm:List (Nat×DV)}{bx:List (Nat×TypeId×List CellD)}{cs rest us ys zs:List CellD}{N by_ c c2 k m n off p q t t':Nat}{β:Nat->Nat}{av:Nat->Prop}{ax fo y:Operand}{P:Program}{T:TF}{U V0 W e:TypeId}{v:Value}{w:World}
variable {ty:TypeId}{pos:String}{af:Array Edge}{g:Option (Nat×Bool)}
theorem C0:type_of% @Int.natCast_nonneg:=@Int.natCast_nonneg
section
variable {P:Program}{ops:Array Oper}{o:Oper}{os:List Oper}{K:St->Prop}{N:Nat}{tm:List (Nat×DV)}{bx:List (Nat×TypeId×List CellD)}
theorem Rel.updR (h:Rel av w0 n T B β a w) (D:a.tmps[t]? =some v)
 (H:RdX (fun b=>av b\/ ∃k,B k≠none/\β k=b) w β v x) (I: ∀k,jq x=some k->B k≠none):Rel av w0 n (fun s=>if t=s then some x else T s) B β a w:=
 ⟨h.dfr,h.siz,h.bel,h.avl,h.avE,h.big,h.fix,h.inj,h.own,fun s y k hs j=>by
  try dsimp only at hs
  split at hs;·injection hs with hs;subst hs;exact I k j
  ·exact h.wf s y k hs j,h.sees.av,h.sees.box,fun s y E hs=>by
  try dsimp only at hs
  split at hs;·rename_i e;injection hs with hs;subst hs;subst e;exact⟨v,D,H⟩
  ·exact h.sees.tmp s y E hs⟩
theorem RdC.e_eq {u:Value}(h:RdC av w v (.e u)):v=u:=by cases h;rfl
theorem ZM:(fun s=>look s ((t,x)::tm))=fun s=>if t=s then some x else look s tm:=funext fun _s=>aO ..
theorem ac0 (hs:Sem P ops o (fun s=>look s tm) (fun l=>look l bx) (.r x)) (hd:o.dst=some t) (F:St->Prop)
 (J: ∀av w0 β a w,Rel av w0 N (fun s=>look s ((t,x)::tm)) (fun l=>look l bx) β a w-> ∃σ',F σ'/\σ'.n=N/\Rel av w0 N σ'.T σ'.B β a w) (R: ∀σ',F σ'->dl P ops os σ' K):dl P ops (o::os) ⟨N,tm,bx⟩ K:=by
 refine .inr ⟨F,fun av w0 β a w j D=>?_,R⟩
 obtain⟨hp,hs⟩:=hs
 have j:Rel av w0 N (fun s=>look s tm) (fun l=>look l bx) β a w:=j
 obtain⟨I,hg⟩:=hs _ β a w (Sees.of j.sees (fun _ _=>trivial) (fun _ _ _ h=>h) (fun _ _ h=>h))
 refine⟨I,hg.mono fun v w' ⟨E,hb⟩=>?_⟩
 have h2:=j.value (d:=o.dst) (x:=x) D hb E (fun k e=>by obtain⟨t,y,_,ht,hy⟩:=hp k e;exact j.wf t y k ht hy)
 obtain⟨σ',H,h4,h5⟩:=J av w0 β _ w' (h2.congr (fun s=>by rw[aO,hd];simp) (fun _=>rfl))
 exact⟨σ',β,H,h4,h5⟩
theorem G7 (s:Nat) (hs:Sem P ops o (fun s=>look s tm) (fun l=>look l bx) (.r x)) (H:o.dst=some t) (hl:look s ((t,x)::tm)=some (.o k n c))
 (E: ∀v,dl P ops os ⟨N,(s,.oe k n c v)::(t,x)::tm,bx⟩ K):dl P ops (o::os) ⟨N,tm,bx⟩ K:=by
 refine ac0 hs H (fun σ'=> ∃v,σ'=⟨N,(s,.oe k n c v)::(t,x)::tm,bx⟩) (fun av w0 β a w h=>?_) (fun σ' ⟨v,e⟩=>e▸E v)
 obtain⟨v,j,D⟩:=h.sees.tmp s _ trivial hl
 refine⟨_,⟨v,rfl⟩,rfl,?_⟩
 show Rel av w0 N (fun s'=>look s' ((s,DV.oe k n c v)::(t,x)::tm)) _ β a w
 rw[ZM]
 exact h.updR j ⟨D,rfl⟩ (fun l e=>h.wf s _ l hl e)
theorem Ch {x:Operand}
 (hU:mv P U=some (false,1)) (ha:ck T ax=some (.p p off)) (hx:ck T x=some (.oe k n c v)) (hb:B p=some (W,cs)) (ho:off+1<=cs.length) (E:cs.take off++[.e v]++cs.drop (off+1)=us)
 (hg:gd ops ⟨none,.store U ax x,ty,pos,af,g⟩ T=some true):Sem P ops ⟨none,.store U ax x,ty,pos,af,g⟩ T B (.s p W us):=by
 refine⟨rfl,⟨cs,hb⟩,fun V β a w hs=>⟨eL hs hg,?_⟩⟩
 have hp:a.eval ax=.pointer (some ⟨β p,off,none⟩):=ao hs (by simp[Op.operands]) ha
 obtain⟨D,H⟩:a.eval x=.slice (some ⟨β k,0,none⟩) n c/\a.eval x=v:=ao hs (x:=x) (by simp[Op.operands]) hx
 obtain⟨_,vs,e,I⟩:=hs.box p W cs hb
 obtain⟨_,J⟩:=mO hU w
 have h:(a.eval x).cells= #[v]:=by rw[D,<-H,D];rfl
 have a0:vs.size=cs.length:=by rw[<-I.1];simp
 have R:=run_storeCells_at (P:=P) (β p) off W (a.eval x).cells.toList 0 vs w e (by rw[h];simp;omega) (by rw[h];intro u E;simp at E;rw[E,<-H,D];rfl)
 have j:(execOp a.eval ⟨none,.store U ax x,ty,pos,af,g⟩).run P w=.ok .skip (w.setRow (β p) (vs.toList.take (off+0)++(a.eval x).cells.toList++vs.toList.drop (off+0+(a.eval x).cells.toList.length)).toArray):=by simp only[execOp,Instr.storeAt,hp,Instr.sureAddr,storeVar,fq,dx,dd,J];rw[if_neg (by simp[h])];rw[R];rfl
 unfold Gives
 rw[j]
 refine⟨_,fK e,rfl,rfl,rfl,?_⟩
 rw[<-E,h]
 exact kG (kG (I.take off) (iM (.e _ (by rw[<-H,D];exact fun _ e=>nomatch e) (by rw[<-H,D];exact fun _ e=>nomatch e)) nl)) (I.drop (off+1))
variable {Q:Exit->St->Prop}{c:Code}
theorem Rel.cell (h:Rel av w0 n T B β a w) (J:B p=some (W,cs)) (hc:cs[off]? =some (.e v))
 (hu:RdC (fun b=>av b\/ ∃k,B k≠none/\β k=b) w v u):Rel av w0 n T (fun l=>if p=l then some (W,cs.take off++u::cs.drop (off+1)) else B l) β a w:=by
 have j: ∀l,(if p=l then some (W,cs.take off++u::cs.drop (off+1)) else B l)≠none↔B l≠none:=by grind
 have hV:(fun b=>av b\/ ∃l,(if p=l then some (W,cs.take off++u::cs.drop (off+1)) else B l)≠none/\β l=b)=(fun b=>av b\/ ∃l,B l≠none/\β l=b):=by grind
 refine⟨h.dfr,h.siz,h.bel,h.avl,h.avE,h.big,fun b J hK=>h.fix b J ((j _).1 hK),fun l m hl hm=>h.inj l m ((j l).1 hl) ((j m).1 hm),fun l hl=>h.own l ((j l).1 hl),fun t x l hT hx=>(j l).2 (h.wf t x l hT hx),?_⟩
 rw[hV]
 refine⟨h.sees.av,fun l U I hl=>?_,h.sees.tmp⟩
 by_cases e:p=l
 ·subst e
  rw[if_pos rfl] at hl
  injection hl with hl
  injection hl with h1 h2
  subst h1 h2
  obtain⟨hv,vs,e',H⟩:=h.sees.box p W cs J
  refine⟨hv,vs,e',?_⟩
  have R:off<cs.length:=(fb.1 hc).1
  have D:off<vs.toList.length:=by rw[H.1];exact R
  have ev:vs.toList[off]=v:=by have h3:=H.2 off _ _ (dY D) hc;exact h3.e_eq
  have E:=kG (H.take off) (iM (ev▸hu) (H.drop (off+1)))
  rw[<-oG D,v8] at E
  exact E
 ·rw[if_neg e] at hl
  exact h.sees.box l U I hl
theorem QJ (j:look p bx=some (W,cs)) (E:cs[off]? =some (.e v)) (I: ∀V w,RdC V w v u) (hs:cs.take off++u::cs.drop (off+1)=us)
 (h:Dw P c ⟨N,tm,(p,W,us)::bx⟩ Q):Dw P c ⟨N,tm,bx⟩ Q:=fun av w0 β a w D=>by
 have H:=D.cell (p:=p) (off:=off) (u:=u) j E (I _ _)
 refine h av w0 β a w (H.congr (fun _=>rfl) (fun l=>?_))
 show look l ((p,W,us)::bx)=_
 rw[aO,hs];rfl
theorem Xt {s n' c':Nat}{H vs:List CellD}(hl:look s tm=some (.oe k n' c' v)) (hb:look k bx=some (U,cs)) (R:look p bx=some (W,H)) (J:p≠k) (a0:H[off]? =some (.e v))
 (hm:cs.length=c'*m) (hn:n'<=c') (hc:c'<=9223372036854775807) (hu:cs.take (n'*m)=us) (hs:H.take off++ .s n' us::H.drop (off+1)=vs)
 (h:Dw P c ⟨N,(s,.v (.c (.s n' us)))::hJ k tm,(p,W,vs)::f6 k bx⟩ Q):Dw P c ⟨N,tm,bx⟩ Q:=fun av w0 β a w I=>by
 obtain⟨u,E,hx⟩:=I.sees.tmp s _ trivial hl
 have h1:=I.updR (t:=s) (x:=.o k n' c') E hx.1 (fun l e=>I.wf s _ l hl e)
 have h2:Rel av w0 N (St.T ⟨N,(s,.o k n' c')::tm,bx⟩) (St.B ⟨N,(s,.o k n' c')::tm,bx⟩) β a w:=h1.congr (fun s'=>by show look s' ((s,DV.o k n' c')::tm)=_;rw[aO];rfl) (fun _=>rfl)
 have h3:=h2.release (t:=s) (by rw[aO,if_pos rfl]) hb hm hn hc hu
 obtain⟨u2,j,D⟩:=h3.sees.tmp s (.v (.c (.s n' us))) trivial (by show look s ((s,_)::_)=_;rw[aO,if_pos rfl])
 have e:u2=v:=by rw[E] at j;injection j with j;rw[<-j];exact hx.2
 have D:RdC _ w u2 (.s n' us):=D
 have h4:=h3.cell (p:=p) (off:=off) (cs:=H) (W:=W) (u:=.s n' us) (by show look p (f6 k bx)=_;rw[iU,if_neg J];exact R) a0 (e▸D)
 refine h av w0 β a w (h4.congr (fun s'=>?_) (fun l=>?_))
 ·show look s' ((s,_)::hJ k tm)=look s' ((s,_)::hJ k ((s,_)::tm))
  rw[aO,aO,iZ,iZ,aO]
  split<;>rfl
 ·show look l ((p,W,vs)::f6 k bx)=_
  rw[aO,hs];rfl
variable {T:TF}{B:BF}{dst:Option Nat}{x i:Operand}{U:TypeId}{ty:TypeId}{pos:String}{af:Array Edge}{g:Option (Nat×Bool)}{s r:ByteArray}{ki:IntKind}
theorem abv {x:Operand}{U:TypeId}{c:Nat}
 (hU:rl P U=some (e,m,by_,zs)) (hx:ck (fun s=>look s tm) x=some (.o k n c)) (hy:ck (fun s=>look s tm) y=some (.w k off q c2)) (hb:look k bx=some (e,cs)) (J:cs=us++rest) (a2:us.length=n*m) (hr:rest.length=(c-n)*m)
 (a1:(cs.drop off).take (q*m)=ys) (a0:0<q->off+q*m<=cs.length) (hm:0<m) (a4:n<=c) (a6:c<=maxLen) (H:(n+q)*by_<=140737488355328) (a3:n+q<=maxLen) (hd:t=k\/look t bx=none)
 (hg:gd ops ⟨some t,.call ⟨.builtin .append,#[x,y],#[U,U]⟩,ty,pos,af,g⟩ (fun s=>look s tm)=some true)
 (hk: ∀c' D,n+q<=c'->c'<=maxLen->D.length=(c'-(n+q))*m->dl P ops os ⟨N,(t,.o t (n+q) c')::hJ k tm,(t,e,us++ys++D)::f6 k bx⟩ K):
 dl P ops (⟨some t,.call ⟨.builtin .append,#[x,y],#[U,U]⟩,ty,pos,af,g⟩::os) ⟨N,tm,bx⟩ K:=by
 have I:ys.length=q*m:=by
  rw[<-a1,eu,eP];rcases iS q with h0|h0;·rw[h0];simp
  ·have:=a0 h0;omega
 refine .inr ⟨_,wM (pre:=us) (ys:=ys) (q:=q) hU hx (fun V β a w hs=>?_) hb (by rw[J,dc,a2,hr,<-iP];congr 1;omega) I hm a4 a6 (fun h=>growslice_fits h H) a3 (by rw[J,<-a2];simp) hd hg,fun σ' ⟨c',D,h1,h2,h3,e⟩=>by subst e;exact hk c' D h1 h2 h3⟩
 have e1:a.eval y=.slice (some ⟨β k,off,none⟩) q c2:=ao hs (x:=y) (by simp[Op.operands,Call.operands]) hy
 obtain⟨_,vs,ev,a5⟩:=hs.box k e cs hb
 obtain⟨hu,_⟩:=iz hU
 have h5:=(a5.drop off).take (q*m)
 rw[a1] at h5
 refine⟨(vs.toList.drop off).take (q*m),?_,h5⟩
 rw[e1]
 have E: ∀w',(∀a:Addr,w'.cell? a=w.cell? a)->(Builtin.firstCells m q (.slice (some ⟨β k,off,none⟩) q c2)).run P w'=.ok ((vs.toList.drop off).take (q*m)).toArray w':=by
  intro w' hw;have:=run_loadCells_list (P:=P) w' ⟨β k,off,none⟩ ((vs.toList.drop off).take (q*m)) (fun j u R=>by
   rw[d8,hw,bE ev];rw[j6] at R;split at R;·rw[Cj] at R;simpa using R
   ·cases R)
  rw[h5.1,I] at this;exact this
 exact⟨.inl ⟨e,hu⟩,fun w'=>by simp[Builtin.lenOf],E w (fun _=>rfl),E w.drew (fun _=>rfl),by rw[h5.1,I],Qd h5⟩
theorem W3 {d:Nat}{V:TypeId}(R:Nat.blt d N=true) (hl:look t tm=some (.o k n c2)) (E:look k bx=some (V,cs)) (I:look d bx=none) (h:Dw P c ⟨N,(t,.o d n c2)::hJ k tm,(d,V,cs)::f6 k bx⟩ Q):Dw P c ⟨N,tm,bx⟩ Q:=fun av w0 β a w D=>by
 obtain⟨u,J,H⟩:=D.sees.tmp t _ trivial hl;have j:look k bx≠none:=by rw[E];simp
 have h1:=D.ren (k:=k) (d:=d) (cJ.1 R) j (.inr I);have h2:=h1.updR (t:=t) (x:=.o d n c2) J (by show u=.slice (some ⟨if d=d then β k else β d,0,none⟩) n c2;rw[if_pos rfl];exact H) (fun l e=>by injection e with e;subst e;rw[if_pos rfl];exact j);refine h av w0 _ a w (h2.congr (fun s=>?_) (fun l=>?_))
 ·show look s ((t,DV.o d n c2)::hJ k tm)=_;rw[aO,iZ];rfl
 ·show look l ((d,V,cs)::f6 k bx)=(if l=d then look k bx else if l=k then none else look l bx);rw[aO,iU,E];by_cases e:d=l;·rw[if_pos e,if_pos e.symm]
  ·rw[if_neg e,if_neg (Ne.symm e)]
theorem od {j:Int}(E:arB P U=some (n,m)) (hx:ck T x=some (.q cs)) (hi:ck T i=some (.v (.c (.i ki j)))) (R:0<=j/\j<n) (hu:cs.drop (j.toNat*m)=us) (hg:gd ops ⟨dst,.indexAddr U x i,ty,pos,af,g⟩ T=some true):
 Sem P ops ⟨dst,.indexAddr U x i,ty,pos,af,g⟩ T B (.r (.q us)):=
 bK hg (rG rfl) (fun V β a w hs=>by
  obtain⟨b,off,vs,h1,hb,hv,hr,hc⟩:=ao hs (x:=x) (by simp[Op.operands]) hx;have h2:=fN (ao hs (x:=i) (by simp[Op.operands]) hi);unfold arB at E;split at E;case h_2=>cases E
  rename_i n' J H;cases h:P.info? J with
  |none=>rw[h] at E;cases E
  |some D=>
   rw[h] at E;simp at E;obtain⟨rfl,rfl⟩:=E;have I: ∀w,(sizeOf J).run P w=.ok D.size w:=fun w=>by unfold sizeOf typeInfo;simp[program,Sem.run,h]
   refine⟨.pointer (some ⟨b,off+j.toNat*D.size,none⟩),?_,b,off+j.toNat*D.size,vs.drop (j.toNat*D.size),rfl,hb,hv,by rw[<-hu];exact hr.drop _,fun l u hl=>?_⟩;·simp[execOp,Instr.indexAt,h1,h2,asIntOf,run_underlying H,Instr.sureAddr,R.1,R.2,I,d8]
   ·rw[Cj] at hl;rw[Nat.add_assoc];exact hc _ u hl)
theorem Ed {xs:List Operand}{args:Array Operand}{at_:Array TypeId}{f:FuncId}{c:Nat}{ds:List D0}{d:D0}
 (hf:ck T fo=some (.v (.c (.f f)))) (E:args.toList=x::xs) (hx:ck T x=some (.o k n c)) (ha:wL T xs=some ds) (I:B k=some (V0,cs)) (a5:cs.take (n*m)=us) (hl:n*m<=cs.length) (a4:n<=c) (hc:c<=maxLen) (J:Ok P f (.c (.s n us)::ds) [d])
 (hg:gd ops ⟨dst,.call ⟨.value fo,args,at_⟩,ty,pos,af,g⟩ T=some true):Sem P ops ⟨dst,.call ⟨.value fo,args,at_⟩,ty,pos,af,g⟩ T B (.c k (.v d)):=by
 refine⟨rfl,by rw[I];simp,fun V β a w hs=>⟨eL hs hg,?_⟩⟩
 have R: ∀y∈x::xs,y∈(⟨dst,.call ⟨.value fo,args,at_⟩,ty,pos,af,g⟩:Oper).op.operands:=fun y hy=>by
  have a1:y∈args:=by grind
  simp[Op.operands,Call.operands,a1]
 have h1:=RdC.func_eq (ao hs (x:=fo) (by simp[Op.operands,Call.operands]) hf)
 have h2:=p9 hs xs ds (fun y hy=>R y (gF _ hy)) ha
 have h3:a.eval x=.slice (some ⟨β k,0,none⟩) n c:=ao hs (R x (f7 ..)) hx
 have a6:maxLen=9223372036854775807:=rfl
 have h4:=Nb (q:=n) (c:=c) (m:=m) (off:=0) (ys:=us) hs I (by rw[lE];exact a5) (fun _=>by omega) a4 (by omega)
 have D:Keep V (fun x=>V x/\x≠β k) w w:=⟨Nat.le_refl _,fun _ _ _=>rfl,fun _ _ h=>h.1⟩
 have j:=J.cal
 unfold fv at j
 cases H:P.funcs[f]? with
 |none=>rw[H] at j;cases j
 |some fn=>
  rw[H] at j
  simp only[de,bne_iff_ne,ne_eq,wa] at j
  have a0:(execOp a.eval ⟨dst,.call ⟨.value fo,args,at_⟩,ty,pos,af,g⟩).run P w=.ok (.enter f (args.map a.eval)) w:=by
   have a3:fn.body≠none:=by have:=j.2;cases a2:fn.body with
    |none=>rw[a2] at this;cases this
    |some c=>simp
   simp[execOp,resolve,h1,Deferred.ofValue,invoke,callFunc,program,Sem.run,H,j.1,a3]
  unfold Gives
  rw[a0]
  refine(J.run (fun x=>V x/\x≠β k) (args.map a.eval) w (fun b I=>hs.av b I.1) (by rw[yH,E,mm,h3];exact qG h4 (h2.keep D))).mono ?_
  rintro e w' ⟨v,rfl,hr,I⟩
  exact⟨v,rfl,hr,I⟩
theorem sj (h:n<=4000000000000):n<=maxLen:=fw h (by decide)
end
section
variable {P:Program}{ops:Array Oper}{os:List Oper}{K:St->Prop}{N:Nat}{tm:List (Nat×DV)}{bx:List (Nat×TypeId×List CellD)}
theorem Tq (s:Nat) 
 (hU:rl P U=some (e,m,by_,zs)) (hx:look t' tm=some (.v (.c (.e v)))) (hl:look s tm=some (.oe k n c v)) (hy:ck (fun s=>look s ((t',.o k n c)::tm)) y=some (.v (.c (.s q ys)))) (hb:look k bx=some (e,us++rest)) (H:us.length=n*m) (hr:rest.length=(c-n)*m)
 (R:ys.length=q*m) (hm:0<m) (a1:n<=c) (a2:c<=maxLen) (D:(n+q)*by_<=140737488355328) (a0:n+q<=maxLen) (hd:t=k\/look t bx=none)
 (hg:gd ops ⟨some t,.call ⟨.builtin .append,#[.tmp t',y],#[U,U]⟩,ty,pos,af,g⟩ (fun s=>look s ((t',.o k n c)::tm))=some true)
 (hk: ∀c' j,n+q<=c'->c'<=maxLen->j.length=(c'-(n+q))*m->dl P ops os ⟨N,(t,.o t (n+q) c')::hJ k ((t',.o k n c)::tm),(t,e,us++ys++j)::f6 k bx⟩ K):
 dl P ops (⟨some t,.call ⟨.builtin .append,#[.tmp t',y],#[U,U]⟩,ty,pos,af,g⟩::os) ⟨N,tm,bx⟩ K:=
 have G:=tv (P:=P) (ops:=ops) (N:=N) (tm:=(t',.o k n c)::tm) (bx:=bx) (t:=t) (x:=.tmp t') (ty:=ty) (pos:=pos) (af:=af) (g:=g) (pre:=us) hU (by show look t' ((t',DV.o k n c)::tm)=_;rw[aO,if_pos rfl]) hy hb (by rw[dc,H,hr,<-iP];congr 1;omega) R hm a1 a2 D a0 (by rw[<-H];simp) hd hg
 have C: ∀av w0 β a w,Rel av w0 N (St.T ⟨N,tm,bx⟩) (St.B ⟨N,tm,bx⟩) β a w->Rel av w0 N (St.T ⟨N,(t',.o k n c)::tm,bx⟩) (St.B ⟨N,(t',.o k n c)::tm,bx⟩) β a w:=fun av w0 β a w h=>by have h:Rel av w0 N (fun s=>look s tm) (fun l=>look l bx) β a w:=h;obtain⟨u,hu,E⟩:=h.sees.tmp t' _ trivial hx;obtain⟨u2,a3,I⟩:=h.sees.tmp s _ trivial hl;have E:RdC _ w u (.e v):=E;have e1:u=v:=E.e_eq;have J:=h.updR (t:=t') (x:=.o k n c) hu (by show u=_;rw[e1,<-I.2];exact I.1) (fun l e=>h.wf s _ l hl e);exact J.congr (fun s'=>by show look s' ((t',DV.o k n c)::tm)=_;rw[aO]) (fun _=>rfl)
 .inr ⟨_,fun av w0 β a w h ht=>G av w0 β a w (C _ _ _ _ _ h) ht,fun σ' ⟨c',j,E,I,J,e⟩=>by subst e;exact hk c' j E I J⟩
theorem NS 
 (hU:rl P U=some (e,m,by_,zs)) (hx:look t' tm=some (.v (.c (.e (.slice none 0 0))))) (hy:ck (fun s=>look s ((t',.z)::tm)) y=some (.v (.c (.s q ys)))) (I:ys.length=q*m) (R:0<q)
 (D:q*by_<=140737488355328) (J:q<=maxLen) (hd:look t bx=none)
 (hg:gd ops ⟨some t,.call ⟨.builtin .append,#[.tmp t',y],#[U,U]⟩,ty,pos,af,g⟩ (fun s=>look s ((t',.z)::tm))=some true)
 (hk: ∀c' j,q<=c'->c'<=maxLen->j.length=(c'-q)*m->dl P ops os ⟨N,(t,.o t q c')::(t',.z)::tm,(t,e,ys++j)::bx⟩ K):
 dl P ops (⟨some t,.call ⟨.builtin .append,#[.tmp t',y],#[U,U]⟩,ty,pos,af,g⟩::os) ⟨N,tm,bx⟩ K:=
 have G:=xf (P:=P) (ops:=ops) (N:=N) (tm:=(t',.z)::tm) (bx:=bx) (t:=t) (x:=.tmp t') (ty:=ty) (pos:=pos) (af:=af) (g:=g) hU (by show look t' ((t',DV.z)::tm)=_;rw[aO,if_pos rfl]) hy I R D J hd hg
 have C: ∀av w0 β a w,Rel av w0 N (St.T ⟨N,tm,bx⟩) (St.B ⟨N,tm,bx⟩) β a w->Rel av w0 N (St.T ⟨N,(t',.z)::tm,bx⟩) (St.B ⟨N,(t',.z)::tm,bx⟩) β a w:=fun av w0 β a w h=>by have h:Rel av w0 N (fun s=>look s tm) (fun l=>look l bx) β a w:=h;obtain⟨u,hu,E⟩:=h.sees.tmp t' _ trivial hx;have E:RdC _ w u (.e (.slice none 0 0)):=E;have H:=h.updR (t:=t') (x:=.z) hu E.e_eq (fun l e=>nomatch e);exact H.congr (fun s'=>by show look s' ((t',DV.z)::tm)=_;rw[aO]) (fun _=>rfl)
 .inr ⟨_,fun av w0 β a w h ht=>G av w0 β a w (C _ _ _ _ _ h) ht,fun σ' ⟨c',j,E,h2,H,e⟩=>by subst e;exact hk c' j E h2 H⟩
theorem Kp {dst:Option Nat}
 (j: ∀(V:Nat->Prop) (w:World),∃D z,P.info? U=some D/\D.zero=some z/\RdCs V w z.cells.toList zs) (E:gd ops ⟨dst,.alloc U,ty,pos,af,g⟩ T=some true):Sem P ops ⟨dst,.alloc U,ty,pos,af,g⟩ T B (.a U zs none):=fun V β a w hs=>⟨eL hs E,by
 obtain⟨D,z,hi,j,H⟩:=j V w
 have h:(execOp a.eval ⟨dst,.alloc U,ty,pos,af,g⟩).run P w=.ok (.value (.pointer (some ⟨w.heap.size,0,none⟩))) (w.alloc (.cells z.cells U)):=by simp[execOp,Instr.alloc,zeroValue,typeInfo,program,Sem.run,hi,j,newVar,newRow,newObj];try rfl
 unfold Gives
 rw[h]
 exact⟨z.cells,rfl,rfl,H⟩⟩
end
theorem adK {l:Ln}(hl:GL l) {f t:Pt}(D:GP f) (E:GP t) {v:Rat×Rat}(h:Rz 2 v.1) (j:Rz 2 v.2):Ok Tryz.prog 49 [.a (([.b false]++eJ l++mG++[.b false]++ai f++ai t)),.a ((cR v.1++cR v.2))] [.a (([.b false]++(cR l.a++cR l.b++cR (l.c+(l.a*v.1+l.b*v.2)))++mG++[.b false]++(cR (f.a1+v.1)++cR f.b1++cR (f.a2+v.2)++cR f.b2++cR f.c)++(cR (t.a1+v.1)++cR t.b1++cR (t.a2+v.2)++cR t.b2++cR t.c)))]:=by refine cj Tryz.func49 rfl<|ar (dL jY rfl)<|nM rfl<|cE 19 [] ?_;refine aq (dh (cR l.c) bV rfl (by kernel_rfl)) ?_;refine aq (dh (cR l.a) bV rfl (by kernel_rfl)) ?_;refine aG rfl (eN (aU (hl.a)) (aU h)) ?_;refine aq (dh (cR l.b) bV rfl (by kernel_rfl)) ?_;refine aG rfl (eN (aU (hl.b)) (aU j)) ?_;refine aG rfl (nf (aU (aW (hl.a) h)) (aU (aW (hl.b) j))) ?_;refine aG rfl (nf (aU (hl.c)) (aU (ia (aW (hl.a) h) (aW (hl.b) j)))) ?_;refine n8 (bh (us:=([.b false]++(cR l.a++cR l.b++cR (l.c+((l.a*v.1)+(l.b*v.2))))++mG++[.b false]++ai f++ai t)) bV rfl rfl rfl rfl (eQ (by kernel_rfl)) (by kernel_rfl) rfl) ?_;refine cE 9 [] ?_;refine aq (dh (ai f) bo rfl (by kernel_rfl)) ?_;refine aG rfl (fC (D.a1.m_) (D.a2.m_) (h.m_) (j.m_)) ?_;refine aq (dh (ai t) bo rfl (by kernel_rfl)) ?_;refine aG rfl (fC (E.a1.m_) (E.a2.m_) (h.m_) (j.m_)) ?_;refine n8 (bh (us:=([.b false]++(cR l.a++cR l.b++cR (l.c+((l.a*v.1)+(l.b*v.2))))++mG++[.b false]++(cR (f.a1+v.1)++cR f.b1++cR (f.a2+v.2)++cR f.b2++cR f.c)++ai t)) bo rfl rfl rfl rfl (eQ (by kernel_rfl)) (by kernel_rfl) rfl) ?_;refine n8 (bh (us:=([.b false]++(cR l.a++cR l.b++cR (l.c+((l.a*v.1)+(l.b*v.2))))++mG++[.b false]++(cR (f.a1+v.1)++cR f.b1++cR (f.a2+v.2)++cR f.b2++cR f.c)++(cR (t.a1+v.1)++cR t.b1++cR (t.a2+v.2)++cR t.b2++cR t.c))) bo rfl rfl rfl rfl (eQ (by kernel_rfl)) (by kernel_rfl) rfl) ?_;refine ar (jF bg rfl) ?_;refine n8 (fJ bg rfl) ?_;exact ah (li (us:=([.b false]++(cR l.a++cR l.b++cR (l.c+((l.a*v.1)+(l.b*v.2))))++mG++[.b false]++(cR (f.a1+v.1)++cR f.b1++cR (f.a2+v.2)++cR f.b2++cR f.c)++(cR (t.a1+v.1)++cR t.b1++cR (t.a2+v.2)++cR t.b2++cR t.c))) bg rfl rfl (by kernel_rfl) (by kernel_rfl) aa)
theorem aeQ {k:Ci}(E:GK k) {w:Bool}{f t:Pt}(D:GP f) (H:GP t) {v:Rat×Rat}(h:Rz 2 v.1) (j:Rz 2 v.2):Ok Tryz.prog 49 [.a (([.b true]++qx++dy k++[.b w]++ai f++ai t)),.a ((cR v.1++cR v.2))] [.a (([.b true]++qx++(cR (k.x+v.1)++cR (k.y+v.2)++cR k.q)++[.b w]++(cR (f.a1+v.1)++cR f.b1++cR (f.a2+v.2)++cR f.b2++cR f.c)++(cR (t.a1+v.1)++cR t.b1++cR (t.a2+v.2)++cR t.b2++cR t.c)))]:=by refine cj Tryz.func49 rfl<|ar (dL jY rfl)<|vr rfl<|cE 14 [] ?_;refine aq (dh (cR k.x) bV rfl (by kernel_rfl)) ?_;refine aG rfl (nf (aU (E.x)) (aU h)) ?_;refine aq (dh (cR k.y) bV rfl (by kernel_rfl)) ?_;refine aG rfl (nf (aU (E.y)) (aU j)) ?_;refine n8 (bh (us:=([.b true]++qx++(cR (k.x+v.1)++cR k.y++cR k.q)++[.b w]++ai f++ai t)) bV rfl rfl rfl rfl (eQ (by kernel_rfl)) (by kernel_rfl) rfl) ?_;refine n8 (bh (us:=([.b true]++qx++(cR (k.x+v.1)++cR (k.y+v.2)++cR k.q)++[.b w]++ai f++ai t)) bV rfl rfl rfl rfl (eQ (by kernel_rfl)) (by kernel_rfl) rfl) ?_;refine cE 9 [] ?_;refine aq (dh (ai f) bo rfl (by kernel_rfl)) ?_;refine aG rfl (fC (D.a1.m_) (D.a2.m_) (h.m_) (j.m_)) ?_;refine aq (dh (ai t) bo rfl (by kernel_rfl)) ?_;refine aG rfl (fC (H.a1.m_) (H.a2.m_) (h.m_) (j.m_)) ?_;refine n8 (bh (us:=([.b true]++qx++(cR (k.x+v.1)++cR (k.y+v.2)++cR k.q)++[.b w]++(cR (f.a1+v.1)++cR f.b1++cR (f.a2+v.2)++cR f.b2++cR f.c)++ai t)) bo rfl rfl rfl rfl (eQ (by kernel_rfl)) (by kernel_rfl) rfl) ?_;refine n8 (bh (us:=([.b true]++qx++(cR (k.x+v.1)++cR (k.y+v.2)++cR k.q)++[.b w]++(cR (f.a1+v.1)++cR f.b1++cR (f.a2+v.2)++cR f.b2++cR f.c)++(cR (t.a1+v.1)++cR t.b1++cR (t.a2+v.2)++cR t.b2++cR t.c))) bo rfl rfl rfl rfl (eQ (by kernel_rfl)) (by kernel_rfl) rfl) ?_;refine ar (jF bg rfl) ?_;refine n8 (fJ bg rfl) ?_;exact ah (li (us:=([.b true]++qx++(cR (k.x+v.1)++cR (k.y+v.2)++cR k.q)++[.b w]++(cR (f.a1+v.1)++cR f.b1++cR (f.a2+v.2)++cR f.b2++cR f.c)++(cR (t.a1+v.1)++cR t.b1++cR (t.a2+v.2)++cR t.b2++cR t.c))) bg rfl rfl (by kernel_rfl) (by kernel_rfl) aa)
theorem ad1 {c:Cv}(h:c.good) {v:Rat×Rat}(j:Rz 2 v.1) (D:Rz 2 v.2):Ok Tryz.prog 49 [.a (an c),.a ((cR v.1++cR v.2))] [.a (an (sY v c))]:=by
 cases c with
 |seg l f t=>exact adK h.1 h.2.1 h.2.2 j D
 |arc k w f t=>exact aeQ h.1 h.2.1 h.2.2 j D
theorem ae0 (V:Nat->Prop) (w:World): ∃j z,Tryz.prog.info? 32=some j/\j.zero=some z/\RdCs V w z.cells.toList [.e (.slice none 0 0)]:=by
 have h:(Tryz.prog.info? 32).bind (fun j=>j.zero)=some (.agg #[.slice none 0 0]):=by kernel_rfl
 cases hi:Tryz.prog.info? 32 with
 |none=>rw[hi] at h;cases h
 |some j=>rw[hi] at h;exact⟨j,_,rfl,h,iM (.e _ (fun _ e=>nomatch e) (fun _ e=>nomatch e)) nl⟩
theorem WX {L:List Cv}(hL: ∀c∈L,c.good) (lL:L.length<=100000) {v:Rat×Rat}(h1:Rz 2 v.1) (h2:Rz 2 v.2):Ok Tryz.prog 14 [.a (([.s ((L).length) (am an (L))])),.a ((cR v.1++cR v.2))] [.a (([.s (((L.map (sY v))).length) (am an ((L.map (sY v))))]))]:=by
 refine fg Tryz.func14 25 [.cell 4 32] rfl<|ab<|ag<|ab<|cB<|tx (Kp ae0 rfl) rfl<|ce<|ab<|ab<|ag ?_;refine aw ?_;refine m8 (ι:={j:Nat×Nat×Value×List CellD // 1<=j.1/\j.1<=L.length/\j.1<=j.2.1/\j.2.1<=maxLen/\j.2.2.2.length=(j.2.1-j.1)*66}) (fun i=>⟨25,[(2,.p 2 0),(3,.p 3 0),(4,.p 4 0),(5,.p 5 0),(9,.v (.c (.s ((L).length) (am an (L))))),(10,.v (.c (.i .i64 (L.length:Int)))),(11,.v (.c (.i .i64 (i.1.1:Int)))),(21,.oe 21 i.1.1 i.1.2.1 i.1.2.2.1)],[(2,32,([.s ((L).length) (am an (L))])),(3,45,(cR v.1++cR v.2)),(4,32,([.s 0 []])),(5,32,([.e i.1.2.2.1])),(21,53,am an (OV v L i.1.1)++i.1.2.2.2)]⟩) (fun i=>L.length-i.1.1) (L.length) ?_ ?_
 ·refine ab<|ag<|ab ?_;refine aA rfl (fun E=>?_) (fun E=>?_)
  ·have h:0<L.length:=by have:=of_decide_eq_true E;omega
   have hc:=hL _ (aY (d:=aK) h);refine au<|ab<|aw<|ab<|ag<|ar (eI aK ae h dr rfl)<|ar (kz ae bg rfl)<|n8 (bQ bg rfl rfl rfl (ae _) rfl rfl) ?_;refine nP 6 rfl rfl<|dU 2<|bG (eG (ae _) bg rfl)<|dU 1<|bG (j9 rfl (ad1 hc h1 h2))<|bG (br (n:=1) (us:=an (sY v (L.getD 0 aK))) eF rfl (mC rfl (ae _)) (b7 (ae _)) (by decide) (by decide) rfl) ?_;refine mP<|dE ?_;refine NS (ys:=an (sY v (L.getD 0 aK))) eF rfl rfl (b7 (ae _)) (by decide) (by decide) (by decide) rfl rfl (fun a9 a5 R H a3=>?_);refine G7 21 (acT Rb rfl) rfl rfl (fun a2=>?_);refine iQ (Ch (us:=[.e a2]) afg rfl rfl rfl (eQ rfl) rfl rfl) ?_;refine ce<|ag<|ar (mg (r:=1) rfl rfl rfl rfl) ?_;exact⟨⟨⟨1,a9,a2,a5⟩,bd _,h,R,H,a3⟩,al ⟨rfl,rfl,rfl,rfl,rfl,rfl,rfl,rfl,trivial⟩ ⟨rfl,rfl,rfl,rfl,congrArg (fun q=>some (53,q++a5)) (show an (sY v (L.getD 0 aK))=am an (OV v L 1) from by rw[Zt h];exact(ez _).symm),trivial⟩ rfl,by show L.length-1<L.length;omega⟩
  ·have e0:L=[]:=iv.1 (by have:=of_decide_eq_false E;omega);refine bn<|ab<|QJ (p:=5) (off:=0) (us:=([.s 0 []])) rfl rfl (fun _ _=>.s0 none 0 (by decide)) rfl<|ag ?_;refine bc ?_;subst e0;exact ah (a7 CQ rfl aa)
 ·rintro⟨⟨n,c,vv,rs⟩,b0,b1,h3,h4,h5⟩;dsimp only at b0 b1 h3 h4 h5;dsimp only;refine ab<|ag<|ab ?_;refine aA rfl (fun D=>?_) (fun D=>?_)
  ·have h:n<L.length:=by have:=of_decide_eq_true D;omega
   have hc:=hL _ (aY (d:=aK) h);refine au<|ab<|aw<|ab<|ag<|ar (eI aK ae h dr rfl)<|ar (kz ae bg rfl)<|n8 (bQ bg rfl rfl rfl (ae _) rfl rfl) ?_;refine nP 6 rfl rfl<|dU 2<|bG (eG (ae _) bg rfl)<|dU 1<|bG (j9 rfl (ad1 hc h1 h2))<|bG (br (n:=1) (us:=an (sY v (L.getD n aK))) eF rfl (mC rfl (ae _)) (b7 (ae _)) (by decide) (by decide) rfl) ?_;refine mP<|dE ?_;refine Tq 21 (us:=am an (OV v L n)) (rest:=rs) (ys:=an (sY v (L.getD n aK))) eF rfl rfl rfl rfl (by rw[ak ae,Ax (by omega)]) (by assumption) (b7 (ae _)) (by decide) (by omega) (by assumption) (by omega) (jn (by omega)) (.inl rfl) rfl (fun a6 J I a1 a0=>?_);refine G7 21 (acT Rb rfl) rfl rfl (fun a4=>?_);refine iQ (Ch (us:=[.e a4]) afg rfl rfl rfl (eQ rfl) rfl rfl) ?_;refine ce<|ag<|ar (bu (by omega) rfl) ?_;exact⟨⟨⟨n+1,a6,a4,J⟩,by omega,h,I,a1,a0⟩,al ⟨rfl,rfl,rfl,rfl,rfl,rfl,rfl,rfl,trivial⟩ ⟨rfl,rfl,rfl,rfl,congrArg (fun q=>some (53,q++J)) (show _=am an (OV v L (n+1)) from by rw[Zt h,dg,ez]),trivial⟩ rfl,by show L.length-(n+1)<L.length-n;omega⟩
  ·have hp:n=L.length:=by have:=of_decide_eq_false D;omega
   refine bn<|ab<|Xt (s:=21) (p:=5) (off:=0) (k:=21) (m:=66) (us:=am an (OV v L n)) (vs:=([.s n (am an (OV v L n))])) rfl rfl rfl (by decide) rfl (kn (n:=n) (by rw[ak ae,Ax (by omega)]) (by assumption) (by omega)) (by omega) (by assumption) (gh (by rw[ak ae,Ax (by omega)])) rfl<|ag ?_;refine bc ?_;rw[<-Xy,<-hp,Ax (by omega)];exact ah (a7 CQ rfl aa)
theorem OA {ops:Array Oper}{os:List Oper}{K:St->Prop}{x:Operand}{zs':List CellD}
 (hU:rl P U=some (e,m,by_,zs)) (R:ck (fun s=>look s tm) x=some (.f 0 us)) (hy:ck (fun s=>look s tm) y=some (.v (.c (.s q ys)))) (D:ys.length=q*m) (H:0<q)
 (j:q*by_<=140737488355328) (E:q<=maxLen) (hd:look t bx=none) (I:ys=zs')
 (hg:gd ops ⟨some t,.call ⟨.builtin .append,#[x,y],#[U,U]⟩,ty,pos,af,g⟩ (fun s=>look s tm)=some true)
 (hk: ∀c' h,q<=c'->c'<=maxLen->h.length=(c'-q)*m->dl P ops os ⟨N,(t,.o t q c')::tm,(t,e,zs'++h)::bx⟩ K):
 dl P ops (⟨some t,.call ⟨.builtin .append,#[x,y],#[U,U]⟩,ty,pos,af,g⟩::os) ⟨N,tm,bx⟩ K:=by
 subst I
 exact .inr ⟨_,BJ hU R hy D H j E hd hg,fun σ' ⟨c',h,h1,h2,J,e⟩=>by subst e;exact hk c' h h1 h2 J⟩
theorem ac1 {c:Code}{Q:Exit->St->Prop}(I:look t tm=some (.f n us)) (h:Dw P c ⟨N,(t,.v (.c (.s n us)))::tm,bx⟩ Q):Dw P c ⟨N,tm,bx⟩ Q:=fun av w0 β a w j=>by obtain⟨v,D,E⟩:=j.sees.tmp t _ trivial I;have H:=j.upd (t:=t) (x:=.v (.c (.s n us))) D E.2 rfl;refine h av w0 β a w (H.congr (fun s=>?_) (fun _=>rfl));show look s ((t,.v (.c (.s n us)))::tm)=_;rw[aO];rfl
theorem Qf {V:List (Rat×Rat)}(j: ∀v∈V,Rz1 v) (lV:V.length<=1000):Ok Tryz.prog 151 [.c (.s V.length (am my V))] [.c (.s (((yY V)).length) (am an ((yY V))))]:=by
 refine fg Tryz.func151 36 [.tmp 2] rfl<|ab<|ag<|ab<|cB<|cV (dj rfl) ?_;refine ce<|ab<|ab<|ag<|aw ?_;refine bF (ι:=Sum ({n:Nat // n<=V.length/\(dk V n)=[]}) ({x9:Nat×Nat×List CellD // x9.1<=V.length/\(dk V x9.1).length<=x9.2.1/\x9.2.1<=maxLen/\x9.2.2.length=(x9.2.1-(dk V x9.1).length)*66})) (fun i=>match i with| .inl i=>⟨36,[(0,.v (.c (.s V.length (am my V)))),(3,.z),(4,.v (.c (.i .i64 (i.1:Int))))],[]⟩| .inr i=>⟨36,[(0,.v (.c (.s V.length (am my V)))),(3,.o 34 ((dk V i.1.1).length) i.1.2.1),(4,.v (.c (.i .i64 (i.1.1:Int))))],[(34,53,am an (dk V i.1.1)++i.1.2.2)]⟩) (fun i=>match i with| .inl i=>V.length-i.1| .inr i=>V.length-i.1.1) (.inl ⟨0,eo _,rfl⟩) (al ⟨rfl,rfl,rfl,trivial⟩ trivial rfl) ?_;rintro(⟨n,h2,E⟩|⟨⟨n,c,rs⟩,h2,E,h4,h5⟩)
 ·replace h2:n<=V.length:=h2;replace E:(dk V n)=[]:=E;dsimp only;refine ab<|ab<|ag ?_;refine aA rfl (fun a0=>?_) (fun a0=>?_)
  ·have h:n<V.length:=by have:=of_decide_eq_true a0;omega
   have D:(n+1)%V.length<V.length:=Nat.mod_lt _ (by omega);have l6:=tD V n;refine au<|ab<|aw<|ab ?_;by_cases hs:Ut (V.getD n cH) (V.getD ((n+1)%V.length) cH)
   ·refine fk 19 [5,999999]<|aq (eI cH dm h zX rfl)<|aq (bm (us:=(cR ((V.getD n cH).1)++cR ((V.getD n cH).2))) Af rfl (pJ _ _) (dm _) rfl) ?_;refine aq (bu (by omega) rfl) ?_;refine aq (fR (r:=(((n+1)%V.length:Nat):Int)) rfl rfl (by omega) ((lI (C0 _)).trans (Int.natCast_emod _ _).symm) rfl) ?_;refine aq (ba (us:=my (V.getD (((n+1)%V.length)) cH)++am my (V.drop (((n+1)%V.length)+1))) zX rfl rfl (by omega) (ak dm _) (cS dm (ca D)) rfl) ?_;refine aq (bm (us:=(cR (((V.getD (((n+1)%V.length)) cH)).1)++cR (((V.getD (((n+1)%V.length)) cH)).2))) Af rfl (pJ _ _) (dm _) rfl) ?_;refine aG rfl (L5 (j _ (aY h)).1 (j _ (aY h)).2 (j _ (aY D)).1 (j _ (aY D)).2 hs) ?_;refine DQ.mk<|kI (fJ bg rfl) rfl rfl rfl rfl<|ek ?_;refine ab<|ag<|cT rfl<|au<|ag<|ar (bu (by omega) rfl) ?_;exact⟨.inl ⟨n+1,h,by rw[(show(dk V (n+1))=(dk V n) from by rw[(show(dk V (n+1))=(dk V n)++j8 (V.getD n cH) (V.getD ((n+1)%V.length) cH) from rfl),show j8 (V.getD n cH) (V.getD ((n+1)%V.length) cH)=[] from if_pos hs,pI])];exact E⟩,al ⟨rfl,rfl,rfl,trivial⟩ trivial rfl,by show V.length-(n+1)<V.length-n;omega⟩
   ·refine fk 19 [5,999999]<|aq (eI cH dm h zX rfl)<|aq (bm (us:=(cR ((V.getD n cH).1)++cR ((V.getD n cH).2))) Af rfl (pJ _ _) (dm _) rfl) ?_;refine aq (bu (by omega) rfl) ?_;refine aq (fR (r:=(((n+1)%V.length:Nat):Int)) rfl rfl (by omega) ((lI (C0 _)).trans (Int.natCast_emod _ _).symm) rfl) ?_;refine aq (ba (us:=my (V.getD (((n+1)%V.length)) cH)++am my (V.drop (((n+1)%V.length)+1))) zX rfl rfl (by omega) (ak dm _) (cS dm (ca D)) rfl) ?_;refine aq (bm (us:=(cR (((V.getD (((n+1)%V.length)) cH)).1)++cR (((V.getD (((n+1)%V.length)) cH)).2))) Af rfl (pJ _ _) (dm _) rfl) ?_;refine aG rfl ((show Ok Tryz.prog 121 _ [.a (an ((oc (V.getD n cH).1 (V.getD n cH).2 (V.getD ((n+1)%V.length) cH).1 (V.getD ((n+1)%V.length) cH).2))),.c (.i .i64 0)] from YE (j _ (aY h)).1 (j _ (aY h)).2 (j _ (aY D)).1 (j _ (aY D)).2 hs)) ?_;refine DQ.mk<|kI (bQ bg rfl rfl rfl (ae _) rfl rfl) rfl rfl rfl rfl<|ek ?_;refine ab<|ag<|gO rfl<|ag ?_;refine ar (eG (ae _) bg rfl) ?_;refine ar (br (n:=1) (us:=an ((oc (V.getD n cH).1 (V.getD n cH).2 (V.getD ((n+1)%V.length) cH).1 (V.getD ((n+1)%V.length) cH).2))) eF rfl (mC rfl (ae _)) (b7 (ae _)) (by decide) (by decide) rfl) ?_;refine DL.mk<|kq (ys:=an ((oc (V.getD n cH).1 (V.getD n cH).2 (V.getD ((n+1)%V.length) cH).1 (V.getD ((n+1)%V.length) cH).2))) eF rfl rfl (b7 (ae _)) (by decide) (by decide) (by decide) rfl rfl (fun I a1 a4 a2 a9=>fa ?_);refine ag<|ar (bu (by omega) rfl) ?_;exact⟨.inr ⟨⟨n+1,I,a1⟩,h,by show(dk V (n+1)).length<=I;rw[(show(dk V (n+1))=(dk V n)++[(oc (V.getD n cH).1 (V.getD n cH).2 (V.getD ((n+1)%V.length) cH).1 (V.getD ((n+1)%V.length) cH).2)] from by rw[(show(dk V (n+1))=(dk V n)++j8 (V.getD n cH) (V.getD ((n+1)%V.length) cH) from rfl),show j8 (V.getD n cH) (V.getD ((n+1)%V.length) cH)=[(oc (V.getD n cH).1 (V.getD n cH).2 (V.getD ((n+1)%V.length) cH).1 (V.getD ((n+1)%V.length) cH).2)] from if_neg hs]),E];exact a4,a2,by show a1.length=(I-(dk V (n+1)).length)*66;rw[(show(dk V (n+1))=(dk V n)++[(oc (V.getD n cH).1 (V.getD n cH).2 (V.getD ((n+1)%V.length) cH).1 (V.getD ((n+1)%V.length) cH).2)] from by rw[(show(dk V (n+1))=(dk V n)++j8 (V.getD n cH) (V.getD ((n+1)%V.length) cH) from rfl),show j8 (V.getD n cH) (V.getD ((n+1)%V.length) cH)=[(oc (V.getD n cH).1 (V.getD n cH).2 (V.getD ((n+1)%V.length) cH).1 (V.getD ((n+1)%V.length) cH).2)] from if_neg hs]),E];exact a9⟩,al ⟨rfl,congrArg (fun q=>some (DV.o 34 q I)) (by rw[(show(dk V (n+1))=(dk V n)++[(oc (V.getD n cH).1 (V.getD n cH).2 (V.getD ((n+1)%V.length) cH).1 (V.getD ((n+1)%V.length) cH).2)] from by rw[(show(dk V (n+1))=(dk V n)++j8 (V.getD n cH) (V.getD ((n+1)%V.length) cH) from rfl),show j8 (V.getD n cH) (V.getD ((n+1)%V.length) cH)=[(oc (V.getD n cH).1 (V.getD n cH).2 (V.getD ((n+1)%V.length) cH).1 (V.getD ((n+1)%V.length) cH).2)] from if_neg hs]),E];rfl),rfl,trivial⟩ ⟨congrArg (fun q=>some (53,q++a1)) (by rw[(show(dk V (n+1))=(dk V n)++[(oc (V.getD n cH).1 (V.getD n cH).2 (V.getD ((n+1)%V.length) cH).1 (V.getD ((n+1)%V.length) cH).2)] from by rw[(show(dk V (n+1))=(dk V n)++j8 (V.getD n cH) (V.getD ((n+1)%V.length) cH) from rfl),show j8 (V.getD n cH) (V.getD ((n+1)%V.length) cH)=[(oc (V.getD n cH).1 (V.getD n cH).2 (V.getD ((n+1)%V.length) cH).1 (V.getD ((n+1)%V.length) cH).2)] from if_neg hs]),E];exact(ez _).symm),trivial⟩ rfl,by show V.length-(n+1)<V.length-n;omega⟩
  ·have e0:yY V=[]:=by unfold yY;rw[<-show n=V.length from by have:=of_decide_eq_false a0;omega];exact E
   refine bn<|ab<|ag<|qm (t:=2) rfl<|bc ?_;rw[e0];exact ah (aj aa)
 ·dsimp only at h2 E h4 h5;dsimp only;refine ab<|ab<|ag ?_;refine aA rfl (fun R=>?_) (fun R=>?_)
  ·have h:n<V.length:=by have:=of_decide_eq_true R;omega
   have D:(n+1)%V.length<V.length:=Nat.mod_lt _ (by omega);have l6:=tD V n;refine au<|ab<|aw<|ab ?_;by_cases hs:Ut (V.getD n cH) (V.getD ((n+1)%V.length) cH)
   ·refine fk 19 [5,999999]<|aq (eI cH dm h zX rfl)<|aq (bm (us:=(cR ((V.getD n cH).1)++cR ((V.getD n cH).2))) Af rfl (pJ _ _) (dm _) rfl) ?_;refine aq (bu (by omega) rfl) ?_;refine aq (fR (r:=(((n+1)%V.length:Nat):Int)) rfl rfl (by omega) ((lI (C0 _)).trans (Int.natCast_emod _ _).symm) rfl) ?_;refine aq (ba (us:=my (V.getD (((n+1)%V.length)) cH)++am my (V.drop (((n+1)%V.length)+1))) zX rfl rfl (by omega) (ak dm _) (cS dm (ca D)) rfl) ?_;refine aq (bm (us:=(cR (((V.getD (((n+1)%V.length)) cH)).1)++cR (((V.getD (((n+1)%V.length)) cH)).2))) Af rfl (pJ _ _) (dm _) rfl) ?_;refine aG rfl (L5 (j _ (aY h)).1 (j _ (aY h)).2 (j _ (aY D)).1 (j _ (aY D)).2 hs) ?_;refine DQ.mk<|kI (fJ bg rfl) rfl rfl rfl rfl<|ek ?_;refine ab<|ag<|cT rfl<|au<|ag<|ar (bu (by omega) rfl) ?_;exact⟨.inr ⟨⟨n+1,c,rs⟩,h,by show(dk V (n+1)).length<=c;rw[(show(dk V (n+1))=(dk V n) from by rw[(show(dk V (n+1))=(dk V n)++j8 (V.getD n cH) (V.getD ((n+1)%V.length) cH) from rfl),show j8 (V.getD n cH) (V.getD ((n+1)%V.length) cH)=[] from if_pos hs,pI])];exact E,h4,by show rs.length=(c-(dk V (n+1)).length)*66;rw[(show(dk V (n+1))=(dk V n) from by rw[(show(dk V (n+1))=(dk V n)++j8 (V.getD n cH) (V.getD ((n+1)%V.length) cH) from rfl),show j8 (V.getD n cH) (V.getD ((n+1)%V.length) cH)=[] from if_pos hs,pI])];exact h5⟩,al ⟨rfl,congrArg (fun q=>some (DV.o 34 (List.length q) c)) (by rw[(show(dk V (n+1))=(dk V n) from by rw[(show(dk V (n+1))=(dk V n)++j8 (V.getD n cH) (V.getD ((n+1)%V.length) cH) from rfl),show j8 (V.getD n cH) (V.getD ((n+1)%V.length) cH)=[] from if_pos hs,pI])]),rfl,trivial⟩ ⟨congrArg (fun q=>some (53,am an q++rs)) (by rw[(show(dk V (n+1))=(dk V n) from by rw[(show(dk V (n+1))=(dk V n)++j8 (V.getD n cH) (V.getD ((n+1)%V.length) cH) from rfl),show j8 (V.getD n cH) (V.getD ((n+1)%V.length) cH)=[] from if_pos hs,pI])]),trivial⟩ rfl,by show V.length-(n+1)<V.length-n;omega⟩
   ·refine fk 19 [5,999999]<|aq (eI cH dm h zX rfl)<|aq (bm (us:=(cR ((V.getD n cH).1)++cR ((V.getD n cH).2))) Af rfl (pJ _ _) (dm _) rfl) ?_;refine aq (bu (by omega) rfl) ?_;refine aq (fR (r:=(((n+1)%V.length:Nat):Int)) rfl rfl (by omega) ((lI (C0 _)).trans (Int.natCast_emod _ _).symm) rfl) ?_;refine aq (ba (us:=my (V.getD (((n+1)%V.length)) cH)++am my (V.drop (((n+1)%V.length)+1))) zX rfl rfl (by omega) (ak dm _) (cS dm (ca D)) rfl) ?_;refine aq (bm (us:=(cR (((V.getD (((n+1)%V.length)) cH)).1)++cR (((V.getD (((n+1)%V.length)) cH)).2))) Af rfl (pJ _ _) (dm _) rfl) ?_;refine aG rfl ((show Ok Tryz.prog 121 _ [.a (an ((oc (V.getD n cH).1 (V.getD n cH).2 (V.getD ((n+1)%V.length) cH).1 (V.getD ((n+1)%V.length) cH).2))),.c (.i .i64 0)] from YE (j _ (aY h)).1 (j _ (aY h)).2 (j _ (aY D)).1 (j _ (aY D)).2 hs)) ?_;refine DQ.mk<|kI (bQ bg rfl rfl rfl (ae _) rfl rfl) rfl rfl rfl rfl<|ek ?_;refine ab<|ag<|gO rfl<|ag ?_;refine ar (eG (ae _) bg rfl) ?_;refine ar (br (n:=1) (us:=an ((oc (V.getD n cH).1 (V.getD n cH).2 (V.getD ((n+1)%V.length) cH).1 (V.getD ((n+1)%V.length) cH).2))) eF rfl (mC rfl (ae _)) (b7 (ae _)) (by decide) (by decide) rfl) ?_;refine DL.mk<|ou (us:=am an (dk V n)) (rest:=rs) (ys:=an ((oc (V.getD n cH).1 (V.getD n cH).2 (V.getD ((n+1)%V.length) cH).1 (V.getD ((n+1)%V.length) cH).2))) eF rfl rfl rfl (ak ae _) (by assumption) (b7 (ae _)) (by decide) (by omega) (by assumption) (by omega) (jn (by omega)) (.inl rfl) rfl (fun H J a3 a6 a5=>fa ?_);refine ag<|ar (bu (by omega) rfl) ?_;exact⟨.inr ⟨⟨n+1,H,J⟩,h,by show(dk V (n+1)).length<=H;rw[(show(dk V (n+1))=(dk V n)++[(oc (V.getD n cH).1 (V.getD n cH).2 (V.getD ((n+1)%V.length) cH).1 (V.getD ((n+1)%V.length) cH).2)] from by rw[(show(dk V (n+1))=(dk V n)++j8 (V.getD n cH) (V.getD ((n+1)%V.length) cH) from rfl),show j8 (V.getD n cH) (V.getD ((n+1)%V.length) cH)=[(oc (V.getD n cH).1 (V.getD n cH).2 (V.getD ((n+1)%V.length) cH).1 (V.getD ((n+1)%V.length) cH).2)] from if_neg hs]),dc];exact a3,a6,by show J.length=(H-(dk V (n+1)).length)*66;rw[(show(dk V (n+1))=(dk V n)++[(oc (V.getD n cH).1 (V.getD n cH).2 (V.getD ((n+1)%V.length) cH).1 (V.getD ((n+1)%V.length) cH).2)] from by rw[(show(dk V (n+1))=(dk V n)++j8 (V.getD n cH) (V.getD ((n+1)%V.length) cH) from rfl),show j8 (V.getD n cH) (V.getD ((n+1)%V.length) cH)=[(oc (V.getD n cH).1 (V.getD n cH).2 (V.getD ((n+1)%V.length) cH).1 (V.getD ((n+1)%V.length) cH).2)] from if_neg hs]),dc];exact a5⟩,al ⟨rfl,congrArg (fun q=>some (DV.o 34 q H)) (by rw[(show(dk V (n+1))=(dk V n)++[(oc (V.getD n cH).1 (V.getD n cH).2 (V.getD ((n+1)%V.length) cH).1 (V.getD ((n+1)%V.length) cH).2)] from by rw[(show(dk V (n+1))=(dk V n)++j8 (V.getD n cH) (V.getD ((n+1)%V.length) cH) from rfl),show j8 (V.getD n cH) (V.getD ((n+1)%V.length) cH)=[(oc (V.getD n cH).1 (V.getD n cH).2 (V.getD ((n+1)%V.length) cH).1 (V.getD ((n+1)%V.length) cH).2)] from if_neg hs]),dc];rfl),rfl,trivial⟩ ⟨congrArg (fun q=>some (53,q++J)) (by rw[(show(dk V (n+1))=(dk V n)++[(oc (V.getD n cH).1 (V.getD n cH).2 (V.getD ((n+1)%V.length) cH).1 (V.getD ((n+1)%V.length) cH).2)] from by rw[(show(dk V (n+1))=(dk V n)++j8 (V.getD n cH) (V.getD ((n+1)%V.length) cH) from rfl),show j8 (V.getD n cH) (V.getD ((n+1)%V.length) cH)=[(oc (V.getD n cH).1 (V.getD n cH).2 (V.getD ((n+1)%V.length) cH).1 (V.getD ((n+1)%V.length) cH).2)] from if_neg hs]),dg,ez]),trivial⟩ rfl,by show V.length-(n+1)<V.length-n;omega⟩
  ·have e0:yY V=(dk V n):=by unfold yY;rw[show n=V.length from by have:=of_decide_eq_false R;omega]
   refine bn<|ab<|ag<|cD (t:=2) (m:=66) (us:=am an (dk V n)) rfl rfl (kn (n:=(dk V n).length) (ak ae _) (by assumption) (by omega)) (by omega) (by assumption) (gh (ak ae _))<|bc ?_;rw[e0];exact ah (aj aa)
theorem MK:arB Tryz.prog 193=some (2,1):=by kernel_rfl
theorem QE {x y:Rat}:Ok Tryz.prog 152 [dR x,dR y] [.a ((cR x++cR y))]:=by refine cj Tryz.func152 rfl<|ar (az (us:=(cR x++cR y)) Ku IQ rfl rfl rfl) ?_;exact ah (a7 Af rfl aa)
theorem UR {x y u:Int}(j:KW x) (D:KW y) (h:0<=u/\u<=255):Ok Tryz.prog 150 [.c (.i .i8 x),.c (.i .i8 y),.c (.i .u8 u)] [.a ((cR ((oC x y u).1)++cR ((oC x y u).2)))]:=by obtain⟨H,I⟩:=j;obtain⟨y1,y2⟩:=D;have E:=SU h.1;refine cj Tryz.func150 rfl<|ar (fR (r:=u%4) rfl rfl (by decide) (lI h.1) rfl) ?_;refine ar (bj (r:=u%4) WK nu rfl (jQ (by omega) (by omega)) rfl) ?_;refine ar (b9 (uD u) ((aT (by omega) (by omega)).trans rfl) rfl)<|ar (bj (r:=x) Ye nu rfl (jQ (by omega) (by omega)) rfl) ?_;refine ac rfl (zj (by omega) (by omega) (by omega) (by omega) (by omega))<|ar (bj (r:=y) Ye nu rfl (jQ (by omega) (by omega)) rfl) ?_;refine ac rfl (zj (by omega) (by omega) (by omega) (by omega) (by omega))<|ac rfl (QE) ?_;exact ah (a7 Af rfl aa)
theorem aaS (h:FmB f):Ok Tryz.prog 151 [.c (.s 4 (my (oC f.a f.b f.u)++my ((oC f.c f.d f.u).1,(oC f.a f.b f.u).2)++my (oC f.c f.d f.u)++my ((oC f.a f.b f.u).1,(oC f.c f.d f.u).2)))] [.c (.s (((yY (Ip f))).length) (am an ((yY (Ip f)))))]:=by rw[UQ];exact Qf (MR h) (eQ rfl)
theorem Rr (j:FmB f) (hc:f.cs.length<=100):Ok Tryz.prog 71 [.a (([.i .u8 f.k]++[.i .u8 f.u]++[.i .i8 f.a]++[.i .i8 f.b]++[.i .i8 f.c]++[.i .i8 f.d]++[.s f.cs.length (am tO f.cs)]))] [.c (.s (((jS f)).length) (am an ((jS f))))]:=by
 refine fg Tryz.func71 81 [.tmp 2] rfl<|ab<|ag<|ab<|ag ?_;refine ac rfl (UR j.a j.b j.u)<|ab<|ag ?_;refine ac rfl (UR j.c j.d j.u)<|ab<|ab<|ag ?_;refine ar (fR (r:=f.k%3) rfl rfl (by decide) (lI j.k.1) rfl) ?_;refine aw<|ab<|ag ?_;refine aA rfl (fun a2=>?_) (fun a2=>?_)
 ·have e0:jS f=yY (Ip f):=if_pos (by have:=beq_iff_eq.1 a2;exact this);refine ab<|fk 15 [] ?_;refine aG rfl (QE) ?_;refine aG rfl (QE) ?_;refine aq (br (n:=4) (us:=(cR ((oC f.a f.b f.u).1)++cR ((oC f.a f.b f.u).2))++(cR ((oC f.c f.d f.u).1)++cR ((oC f.a f.b f.u).2))++(cR ((oC f.c f.d f.u).1)++cR ((oC f.c f.d f.u).2))++(cR ((oC f.a f.b f.u).1)++cR ((oC f.c f.d f.u).2))) IN rfl rfl rfl (by decide) (by decide) rfl) ?_;refine aG rfl (aaS j)<|bc ?_;rw[e0];exact ah (aj aa)
 ·have k0: ¬f.k%3=0:=beq_eq_false_iff_ne.1 a2;refine ab<|ag ?_;refine aA rfl (fun R=>?_) (fun R=>?_)
  ·have k1:f.k%3=1:=beq_iff_eq.1 R;refine ab<|ab<|ag ?_;refine ac rfl (bX) ?_;refine aA rfl (fun J=>?_) (fun J=>?_)
   ·have e0:jS f=[]:=by unfold jS;rw[if_neg k0,if_pos k1,if_neg fun q=>absurd (of_decide_eq_true J) (by have q2:aJ (oC f.c f.d f.u).1 0>0:=q9.2 q;omega)]
    refine ab<|ag<|bc ?_;rw[e0];exact ah (aj aa)
   ·have q0:0<(OO f).q:=q9.1 (show aJ (oC f.c f.d f.u).1 0>0 by have:=of_decide_eq_false J;omega);have e0:jS f=DM (OO f):=by unfold jS;rw[if_neg k0,if_pos k1,if_pos q0]
    refine au<|ab<|ag ?_;refine ar (az (us:=(cR ((oC f.a f.b f.u).1)++cR ((oC f.a f.b f.u).2)++cR ((oC f.c f.d f.u).1))) afZ afk rfl rfl rfl) ?_;refine ac rfl (aac (k:=OO f) (LF j))<|bc ?_;rw[e0];exact ah (aj aa)
  ·have k1: ¬f.k%3=1:=beq_eq_false_iff_ne.1 R;refine au<|ab<|cB<|cV (dj rfl) ?_;refine ce<|ab<|ab<|ag<|aw ?_;refine m8 (ι:={I:Nat×Nat×List CellD // 1<=I.1/\I.1<=f.cs.length/\(rK f I.1).length<=I.2.1/\I.2.1<=maxLen/\I.2.2.length=(I.2.1-(rK f I.1).length)*8}) (fun i=>⟨81,[(1,.p 1 0),(5,.o 78 ((rK f i.1.1).length) i.1.2.1),(6,.v (.c (.i .i64 (i.1.1:Int))))],[(1,139,([.i .u8 f.k]++[.i .u8 f.u]++[.i .i8 f.a]++[.i .i8 f.b]++[.i .i8 f.c]++[.i .i8 f.d]++[.s f.cs.length (am tO f.cs)])),(78,45,am my (rK f i.1.1)++i.1.2.2)]⟩) (fun i=>f.cs.length-i.1.1) (f.cs.length) ?_ ?_
   ·refine ab<|ab<|ag ?_;refine aA rfl (fun a0=>?_) (fun a0=>?_)
    ·have H:0<f.cs.length:=by have:=of_decide_eq_true a0;omega
     have hq:=j.cs _ (aY (d:=yl) H);refine au<|ab<|aw<|fk 17 [] ?_;refine aq (ba (us:=tO (f.cs.getD 0 yl)++am tO (f.cs.drop (0+1))) Mn rfl rfl (by omega) (ak mi _) (cS mi (ca H)) rfl) ?_;refine aq (od MK rfl rfl (by decide) rfl rfl) ?_;refine aq (bH Uw rfl rfl rfl) ?_;refine aq (ba (us:=tO (f.cs.getD 0 yl)++am tO (f.cs.drop (0+1))) Mn rfl rfl (by omega) (ak mi _) (cS mi (ca H)) rfl) ?_;refine aq (od MK rfl rfl (by decide) rfl rfl) ?_;refine aq (bH Uw rfl rfl rfl) ?_;refine aG rfl (UR hq.1 hq.2 j.u)<|aq (br (n:=1) (us:=(cR (((oC (f.cs.getD 0 yl).1 (f.cs.getD 0 yl).2 f.u)).1)++cR (((oC (f.cs.getD 0 yl).1 (f.cs.getD 0 yl).2 f.u)).2))) IN rfl rfl rfl (by decide) (by decide) rfl) ?_;refine DL.mk<|kq (ys:=(cR (((oC (f.cs.getD 0 yl).1 (f.cs.getD 0 yl).2 f.u)).1)++cR (((oC (f.cs.getD 0 yl).1 (f.cs.getD 0 yl).2 f.u)).2))) IN rfl rfl rfl (by decide) (by decide) (by decide) rfl rfl (fun a4 b0 a9 a5 a6=>fa ?_);refine ag<|ar (mg (r:=1) rfl rfl rfl rfl) ?_;exact⟨⟨⟨1,a4,b0⟩,bd _,H,by rw[q8 H];exact a9,a5,by rw[q8 H];exact a6⟩,al ⟨rfl,congrArg (fun q=>some (DV.o 78 q a4)) (q8 H).symm,rfl,trivial⟩ ⟨rfl,congrArg (fun q=>some (45,q++b0)) (show my (oC (f.cs.getD 0 yl).1 (f.cs.getD 0 yl).2 f.u)=am my (rK f 1) from by rw[tk H];exact(ez _).symm),trivial⟩ rfl,by show f.cs.length-1<f.cs.length;omega⟩
    ·have e0:jS f=yY []:=by unfold jS;rw[if_neg k0,if_neg k1,show f.cs.length=0 from by have:=of_decide_eq_false a0;omega];rfl
     refine bn<|ab<|qm (t:=5) rfl<|ag<|ac rfl (Qf (V:=[]) (fun v h=>nomatch h) (eo _))<|bc ?_;rw[e0];exact ah (aj aa)
   ·rintro⟨⟨n,c,rs⟩,h1,h2,h3,h4,h5⟩;dsimp only at h1 h2 h3 h4 h5;dsimp only;refine ab<|ab<|ag ?_;refine aA rfl (fun a3=>?_) (fun a3=>?_)
    ·have E:n<f.cs.length:=by have:=of_decide_eq_true a3;omega
     have hq:=j.cs _ (aY (d:=yl) E);have l6:=q8 (f:=f) (Nat.le_of_lt E);refine au<|ab<|aw<|fk 17 [] ?_;refine aq (ba (us:=tO (f.cs.getD n yl)++am tO (f.cs.drop (n+1))) Mn rfl rfl (by omega) (ak mi _) (cS mi (ca E)) rfl) ?_;refine aq (od MK rfl rfl (by decide) rfl rfl) ?_;refine aq (bH Uw rfl rfl rfl) ?_;refine aq (ba (us:=tO (f.cs.getD n yl)++am tO (f.cs.drop (n+1))) Mn rfl rfl (by omega) (ak mi _) (cS mi (ca E)) rfl) ?_;refine aq (od MK rfl rfl (by decide) rfl rfl) ?_;refine aq (bH Uw rfl rfl rfl) ?_;refine aG rfl (UR hq.1 hq.2 j.u)<|aq (br (n:=1) (us:=(cR (((oC (f.cs.getD n yl).1 (f.cs.getD n yl).2 f.u)).1)++cR (((oC (f.cs.getD n yl).1 (f.cs.getD n yl).2 f.u)).2))) IN rfl rfl rfl (by decide) (by decide) rfl) ?_;refine DL.mk<|ou (us:=am my (rK f n)) (rest:=rs) (ys:=(cR (((oC (f.cs.getD n yl).1 (f.cs.getD n yl).2 f.u)).1)++cR (((oC (f.cs.getD n yl).1 (f.cs.getD n yl).2 f.u)).2))) IN rfl rfl rfl (ak dm _) (by assumption) rfl (by decide) (by omega) (by assumption) (by omega) (jn (by omega)) (.inl rfl) rfl (fun D a1 b2 b1 b3=>fa ?_);refine ag<|ar (bu (by omega) rfl) ?_;exact⟨⟨⟨n+1,D,a1⟩,by omega,E,by show(rK f (n+1)).length<=D;rw[tk E,dc];exact b2,b1,by show a1.length=(D-(rK f (n+1)).length)*8;rw[tk E,dc];exact b3⟩,al ⟨rfl,congrArg (fun q=>some (DV.o 78 q D)) (by rw[tk E,dc];rfl),rfl,trivial⟩ ⟨rfl,congrArg (fun q=>some (45,q++a1)) (by rw[tk E,dg,ez];rfl),trivial⟩ rfl,by show f.cs.length-(n+1)<f.cs.length-n;omega⟩
    ·have e0:jS f=yY (rK f n):=by unfold jS;rw[if_neg k0,if_neg k1,show f.cs.length=n from by have:=of_decide_eq_false a3;omega]
     have l6:=q8 (f:=f) h2;refine bn<|ab<|cD (t:=5) (m:=8) (us:=am my (rK f n)) rfl rfl (kn (n:=(rK f n).length) (ak dm _) (by assumption) (by omega)) (by omega) (by assumption) (gh (ak dm _))<|ag<|ac rfl (Qf (V:=(rK f n)) (ML j) (by omega))<|bc ?_;rw[e0];exact ah (aj aa)
end Go.Proofs.YtegeknjkgadehaaGreat
