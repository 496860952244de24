/-Plain:positions sorted by insertion. -/
import Derived.Test.YtegeknjkgadehaaGreatTwH
namespace Go.Proofs.YtegeknjkgadehaaGreat
open Go Go.RowKit
variable {ki:IntKind}{cs us ys zs zs':List CellD}{by_ c k m n off q t:Nat}{h x y:Operand}{U e e2:TypeId}
variable {ty:TypeId}{pos:String}{af:Array Edge}{g:Option (Nat×Bool)}{dst:Option Nat}
theorem aW:type_of% @Rz.mul:=@Rz.mul
theorem fp:type_of% @Rz.mono:=@Rz.mono
theorem dz:type_of% @Rz.sub:=@Rz.sub
theorem ia:type_of% @Rz.add:=@Rz.add
theorem n6:type_of% @Rat.mul_nonneg:=@Rat.mul_nonneg
theorem sV:type_of% @List.length_map:=@List.length_map
theorem sX:type_of% @Bool.and_false:=@Bool.and_false
theorem wt:type_of% @List.flatten_cons:=@List.flatten_cons
section
variable {P:Program}{ops:Array Oper}{T:TF}{B:BF}
theorem kT {ps:Array (Nat×Operand)}{dps:List (Nat×D0)}
 (hU:rl P U=some (e,m,by_,zs)) (hp:rD T ps.toList=some dps) (hf:tG (fun i=>some (i*m,m)) (List.replicate n zs).flatten dps=some us) (hl:us.length=n*m) (hn:n*m<=16777216) (hm:0<n*m)
 (R:gd ops ⟨dst,.buildSlice U n ps,ty,pos,af,g⟩ T=some true):Sem P ops ⟨dst,.buildSlice U n ps,ty,pos,af,g⟩ T B (.r (.f n us)):=by
 have h:=rb (B:=B) hU hp hf hn hm R
 refine⟨rG rfl,fun V β a w hs=>?_⟩
 obtain⟨hw,R⟩:=h V β a w hs
 refine⟨hw,R.mono ?_⟩
 rintro v w' ⟨vs,rfl,rfl,hr⟩
 refine⟨⟨⟨_,rfl⟩,?_⟩,(ef _ w).alloc (bd _) _⟩
 have E:=Keep.below (av:=V) ((ef w.heap.size w).alloc (bd _) (.cells vs e))
 have a0:=hr.keep E
 have a4:vs.size=n*m:=by have:=hr.1;rw[hl] at this;simpa using this
 have W:0<n:=by grind
 have I:0<m:=by grind
 have a3:n<=n*m:=Nat.le_mul_of_pos_right n I
 refine RdC.s w.heap.size 0 n m n _ (fun j=>vs.getD j undef) W (bd _) (by omega) hl (by simp) (fun h=>by have:=hs.av _ h;omega) (fun j J=>?_) (fun j u J=>?_)
 ·simp_all
 ·have a5:j<n*m:=by have:=(fb.1 J).1;omega
  refine a0.2 j _ u ?_ J
  have:j<vs.size:=by omega
  simp[Array.getD,this]
theorem VY {V L:Nat->Prop}{w:World}{β:Nat->Nat}{a:Act}(hU:rl P U=some (e,m,by_,zs)) (hs:Sees V L T B β a w) (hb:B k=some (e2,cs)) (R:(cs.drop off).take (q*m)=ys)
 (a3:ys.length=q*m) (E:0<q->off+q*m<=cs.length) (W:q<=c) (hc:c<=9223372036854775807): ∃news,Src P m U (.slice (some ⟨β k,off,none⟩) q c) q news w/\RdCs V w news ys:=by
 obtain⟨news,J,hr⟩:=qo hU (Nb hs hb R E W hc) a3
 obtain⟨hV,bs,e,I⟩:=hs.box k e2 cs hb
 have a5:bs.size=cs.length:=by have:=I.1;simpa using this
 have a4:=(I.drop off).take (q*m)
 have hl:((bs.toList.drop off).take (q*m)).length=q*m:=by grind
 have h2:=run_loadCells_list (P:=P) w ⟨β k,off,none⟩ ((bs.toList.drop off).take (q*m)) (fun j u hj=>by
  rw[d8,bE e];have a0:j<q*m:=by have:=(fb.1 hj).1;omega
  rw[j6,if_pos a0,Cj,kj] at hj;exact hj)
 rw[hl] at h2
 have h1:(Builtin.firstCells m q (.slice (some ⟨β k,off,none⟩) q c)).run P w=.ok news.toArray w:=J.cells
 have h3:=h1.symm.trans h2
 grind
theorem sv 
 (hU:rl P U=some (e,m,by_,zs)) (hx:ck T x=some (.f n us)) (c6: ∀V β a w,Sees V (d6 ops ⟨dst,.call ⟨.builtin .append,#[x,y],#[U,U]⟩,ty,pos,af,g⟩) T B β a w-> ∃news,Src P m U (a.eval y) q news w/\RdCs V w news ys)
 (c5:us.length=n*m) (b6:ys.length=q*m) (hm:0<m) (d0:0<n) (a4:(n+q)*by_<=140737488355328) (b8:n+q<=maxLen)
 (hg:gd ops ⟨dst,.call ⟨.builtin .append,#[x,y],#[U,U]⟩,ty,pos,af,g⟩ T=some true):
 Sem P ops ⟨dst,.call ⟨.builtin .append,#[x,y],#[U,U]⟩,ty,pos,af,g⟩ T B (.r (.v (.c (.s (n+q) (us++ys))))):=by
 refine⟨rG rfl,fun V β a w hs=>⟨eL hs hg,?_⟩⟩
 obtain⟨⟨A,e1⟩,R⟩:(∃A,a.eval x=.slice A n n)/\RdV V w (a.eval x) (.c (.s n us)):=ao hs (x:=x) (by simp[Op.operands,Call.operands]) hx
 replace R:RdC V w (a.eval x) (.s n us):=R
 obtain⟨news,E,c8⟩:=c6 _ _ _ _ hs
 obtain⟨olds,J,c7⟩:=qo hU R c5
 obtain⟨hu,i,z,hi,hz,c0,b3,_,d2⟩:=iz hU
 subst c0
 have b0:news.length=q*i.size:=E.newsLen
 rw[e1] at R J
 unfold Gives
 by_cases hq:q=0
 ·subst hq
  have c3:news=[]:=iv.1 (by rw[b0,Nat.zero_mul])
  have b5:ys=[]:=iv.1 (by rw[b6,Nat.zero_mul])
  subst c3 b5
  have a0:(Builtin.append_ #[U,U] ty #[.slice A n n,a.eval y]).run P w=.ok (.slice A n n) w:=by
   have hA: ∃b off,A=some ⟨b,off,none⟩:=by
    generalize hv:Value.slice A n n=v at R;cases R with
    |s0 A' c hc=>omega
    |s b off c sz n' d1 cv h0 d3 e3 c9 hb d4 b4 hr=>injection hv with h1;exact⟨b,off,h1⟩
   obtain⟨b,off,rfl⟩:=hA;rcases E.kind with⟨e',hk⟩|hk<;>simp[Builtin.append_,run_underlying hu,sizeOf,typeInfo,hi,E.len,E.cells,Addr.add_lit]<;>rfl
  have I:(execOp a.eval ⟨dst,.call ⟨.builtin .append,#[x,y],#[U,U]⟩,ty,pos,af,g⟩).run P w=.ok (.value (.slice A n n)) w:=by simp only[execOp,resolve,invoke,builtin,fq,dx,dd,qT,mm,qy,e1];rw[a0];rfl
  rw[I]
  refine⟨?_,ef _ w⟩
  rw[pI];exact R
 ·have W:n<n+q:=by omega
  have a0:=run_append_grow_src (P:=P) (w:=w) U U ty e i z hu hi hz A n n _ J.cellsD (a.eval y) q news E W (by have:maxLen=9223372036854775807:=rfl;omega) (growslice_fits W (by rw[b3];exact a4))
  have I:(execOp a.eval ⟨dst,.call ⟨.builtin .append,#[x,y],#[U,U]⟩,ty,pos,af,g⟩).run P w=.ok (.value (.slice (some ⟨w.heap.size,0,none⟩) (n+q) (grownCap w (n+q) n e)))
   (w.drew.alloc (.cells ((olds++news).toArray++Builtin.zeroCells z.cells (grownCap w (n+q) n e-(n+q))) e)):=by
   simp only[execOp,resolve,invoke,builtin,fq,dx,dd,qT,mm,qy,e1]
   rw[a0]
   rfl
  rw[I]
  have a5:Below w.heap.size w (w.drew.alloc (.cells ((olds++news).toArray++Builtin.zeroCells z.cells (grownCap w (n+q) n e-(n+q))) e)):=(ef _ w).drew.alloc (bd _) _
  refine⟨?_,a5⟩
  have a6:=(kG c7 c8).keep (Keep.below (av:=V) a5)
  have a9:(olds++news).length=(n+q)*i.size:=by rw[dc,J.newsLen,b0,iP]
  refine RdC.s w.heap.size 0 (grownCap w (n+q) n e) i.size (n+q) _ (fun j=>(olds++news).getD j undef) (by omega) (grownCap_ge _ _ _ _) (grownCap_le_maxLen _ _ _ _ b8) (by rw[<-a6.1];exact a9) (by simp) (fun h=>by have:=hs.av _ h;omega) (fun j hj=>?_) (fun j u hj=>?_)
  ·have a3:j<(olds++news).length:=by omega
   rw[dt]
   show(w.drew.alloc _).cell? ⟨w.drew.heap.size,j,none⟩=_
   rw[bE (U:=e) (vs:=(olds++news).toArray++Builtin.zeroCells z.cells (grownCap w (n+q) n e-(n+q))) (heap_alloc_new w.drew _)]
   rw[Array.getElem?_append_left (by simpa using a3)]
   simp only[List.getElem?_toArray,List.getD]
   rw[dY a3];rfl
  ·have a3:j<(olds++news).length:=by rw[a6.1];exact(fb.1 hj).1
   have hv:(olds++news)[j]? =some ((olds++news)[j]):=dY a3
   simp only[List.getD,hv,Option.getD_some]
   exact a6.2 j _ u hv hj
theorem pA {k2 c2:Nat}{E:List CellD}
 (hU:rl P U=some (e,m,by_,zs)) (hx:ck T x=some (.f n us)) (hy:ck T y=some (.w k2 off q c2)) (R:B k2=some (e2,E)) (W:(E.drop off).take (q*m)=ys) (I:0<q->off+q*m<=E.length) (a3:q<=c2) (a9:c2<=maxLen)
 (a4:us.length=n*m) (J:ys.length=q*m) (hm:0<m) (a5:0<n) (j:(n+q)*by_<=140737488355328) (a0:n+q<=maxLen)
 (hg:gd ops ⟨dst,.call ⟨.builtin .append,#[x,y],#[U,U]⟩,ty,pos,af,g⟩ T=some true):
 Sem P ops ⟨dst,.call ⟨.builtin .append,#[x,y],#[U,U]⟩,ty,pos,af,g⟩ T B (.r (.v (.c (.s (n+q) (us++ys))))):=
 sv hU hx (fun V β a w hs=>by have a6:maxLen=9223372036854775807:=rfl;have e1:a.eval y=.slice (some ⟨β k2,off,none⟩) q c2:=ao hs (x:=y) (by simp[Op.operands,Call.operands]) hy;rw[e1];exact VY hU hs R W J I a3 (by omega)) a4 J hm a5 j a0 hg
theorem yg 
 (R:rl P U=some (e,m,by_,zs)) (W:ck T x=some (.f n us)) (hy:ck T y=some .z) (I:us.length=n*m) (hm:0<m) (J:0<n) (j:n*by_<=140737488355328) (E:n<=maxLen)
 (hg:gd ops ⟨dst,.call ⟨.builtin .append,#[x,y],#[U,U]⟩,ty,pos,af,g⟩ T=some true):
 Sem P ops ⟨dst,.call ⟨.builtin .append,#[x,y],#[U,U]⟩,ty,pos,af,g⟩ T B (.r (.v (.c (.s n us)))):=by
 have h:=sv (B:=B) (q:=0) (ys:=[]) R W (fun V β a w hs=>qo R (by have e1:a.eval y=.slice none 0 0:=ao hs (x:=y) (by simp[Op.operands,Call.operands]) hy;rw[e1];exact .s0 _ _ (by decide)) (by simp)) I (by simp) hm J j E hg
 grind
theorem zG 
 (E:om P U=some m) (hx:ck T x=some .z) (hh:ck T h=some (.v (.c (.i ki 0)))) (W:gd ops ⟨dst,.slice U x none (some h) none,ty,pos,af,g⟩ T=some true):
 Sem P ops ⟨dst,.slice U x none (some h) none,ty,pos,af,g⟩ T B (.r .z):=
 bK W (fun k' e=>by cases e) (fun V β a w hs=>by
  have e:a.eval x=.slice none 0 0:=ao hs (x:=x) (by simp[Op.operands]) hx;have h2:=fN (ao hs (x:=h) (by simp[Op.operands]) hh);unfold om at E;split at E;case h_2=>cases E
  rename_i R I;cases j:P.info? R with
  |none=>rw[j] at E;cases E
  |some a0=>
   rw[j] at E;simp at E;have J: ∀w,(sizeOf R).run P w=.ok m w:=fun w=>by unfold sizeOf typeInfo;simp[program,Sem.run,j,E]
   refine⟨.slice none 0 0,?_,rfl⟩;simp[execOp,Instr.sliceAt,Instr.slice,run_underlying I,e,h2,Instr.sliceBounds,Instr.sliceBound,asIntOf,J])
theorem xk 
 (E:om P U=some m) (hx:ck T x=some .z) (hh:ck T h=some (.v (.c (.i ki 0)))) (W:gd ops ⟨dst,.slice U x (some h) none none,ty,pos,af,g⟩ T=some true):
 Sem P ops ⟨dst,.slice U x (some h) none none,ty,pos,af,g⟩ T B (.r .z):=
 bK W (fun k' e=>by cases e) (fun V β a w hs=>by
  have e:a.eval x=.slice none 0 0:=ao hs (x:=x) (by simp[Op.operands]) hx;have h2:=fN (ao hs (x:=h) (by simp[Op.operands]) hh);unfold om at E;split at E;case h_2=>cases E
  rename_i R I;cases j:P.info? R with
  |none=>rw[j] at E;cases E
  |some a0=>
   rw[j] at E;simp at E;have J: ∀w,(sizeOf R).run P w=.ok m w:=fun w=>by unfold sizeOf typeInfo;simp[program,Sem.run,j,E]
   refine⟨.slice none 0 0,?_,rfl⟩;simp[execOp,Instr.sliceAt,Instr.slice,run_underlying I,e,h2,Instr.sliceBounds,Instr.sliceBound,asIntOf,J])
theorem u3 
 (E:om P U=some m) (J:ck T x=some .z) (I:gd ops ⟨dst,.call ⟨.builtin .len,#[x],#[U]⟩,ty,pos,af,g⟩ T=some true):Sem P ops ⟨dst,.call ⟨.builtin .len,#[x],#[U]⟩,ty,pos,af,g⟩ T B (.r (.v (.c (.i .i64 0)))):=
 bK I (rG rfl) (fun V β a w hs=>by
  have e:a.eval x=.slice none 0 0:=ao hs (x:=x) (by simp[Op.operands,Call.operands]) J;unfold om at E;split at E;case h_2=>cases E
  rename_i R j;refine⟨.int .i64 0,?_,.i _ _⟩;simp[execOp,resolve,invoke,builtin,Builtin.len_,e,run_underlying j,goInt])
end
section
variable {P:Program}{ops:Array Oper}{os:List Oper}{K:St->Prop}{N:Nat}{tm:List (Nat×DV)}{bx:List (Nat×TypeId×List CellD)}
theorem lU {N':Nat}{rest:List CellD}
 (hU:rl P U=some (e,m,by_,zs)) (hx:ck (fun s=>look s tm) x=some (.o k n c)) (hy:ck (fun s=>look s tm) y=some (.v (.c (.s q ys)))) (hb:look k bx=some (e,cs)) (I:cs=us++rest) (a0:us.length=n*m) (hr:rest.length=(c-n)*m)
 (J:ys.length=q*m) (hm:0<m) (W:n<=c) (a3:c<=maxLen) (E:(n+q)*by_<=140737488355328) (R:n+q<=maxLen) (hd:t=k\/look t bx=none) (hN:n+q=N') (hz:us++ys=zs')
 (hg:gd ops ⟨some t,.call ⟨.builtin .append,#[x,y],#[U,U]⟩,ty,pos,af,g⟩ (fun s=>look s tm)=some true)
 (hk: ∀c' j,N'<=c'->c'<=maxLen->j.length=(c'-N')*m->dl P ops os ⟨N,(t,.o t N' c')::hJ k tm,(t,e,zs'++j)::f6 k bx⟩ K):
 dl P ops (⟨some t,.call ⟨.builtin .append,#[x,y],#[U,U]⟩,ty,pos,af,g⟩::os) ⟨N,tm,bx⟩ K:=by
 subst I hN hz
 exact ou hU hx hy hb a0 hr J hm W a3 E R hd hg hk
theorem mV 
 (hU:rl P U=some (e,m,by_,zs)) (hx:ck (fun s=>look s tm) x=some .z) (hy:ck (fun s=>look s tm) y=some (.v (.c (.s q ys)))) (I:ys.length=q*m) (R:0<q)
 (E:q*by_<=140737488355328) (J:q<=maxLen) (W:look t bx=none) (hz:ys=zs')
 (hg:gd ops ⟨some t,.call ⟨.builtin .append,#[x,y],#[U,U]⟩,ty,pos,af,g⟩ (fun s=>look s tm)=some true)
 (hk: ∀c' j,q<=c'->c'<=maxLen->j.length=(c'-q)*m->dl P ops os ⟨N,(t,.o t q c')::tm,(t,e,zs'++j)::bx⟩ K):
 dl P ops (⟨some t,.call ⟨.builtin .append,#[x,y],#[U,U]⟩,ty,pos,af,g⟩::os) ⟨N,tm,bx⟩ K:=by
 subst hz
 exact kq hU hx hy I R E J W hg hk
end
end Go.Proofs.YtegeknjkgadehaaGreat
namespace Go.Proofs.YtegeknjkgadehaaGreat
open Go.ChangeShapes Go.WideShapes Go.ChangeAt Go.RowKit Go.Deep
theorem Bn {E:Type}{m:Nat}: ∀(L:List (List E)),(∀x∈L,x.length=m)->L.flatten.length=L.length*m
 |[],_=>by simp
 |y::L,h=>by rw[wt,dc,Bn L (fun x j=>h x (gF _ j)),h y (f7 ..),v5,iP];omega
theorem LH {j:Type}{m:Nat}: ∀(L:List (List j)) (i q:Nat) (x:List j),(∀x∈L,x.length=m)->L[i]? =some x->q<m->L.flatten[i*m+q]? =x[q]?
 |[],i,q,x,_,h,_=>by simp at h
 |y::L,0,q,x,hm,h,hq=>by simp at h;subst h;rw[wt,uJ (by rw[hm y (f7 ..)];omega)];congr 1;omega
 |y::L,i+1,q,x,hm,h,hq=>by rw[wt,tL (by rw[hm y (f7 ..),iP];omega),hm y (f7 ..),show(i+1)*m+q-m=i*m+q from by rw[iP];omega];exact LH L i q x (fun x E=>hm x (gF _ E)) (by simpa using h) hq
theorem IW {j:Type}{m:Nat}: ∀(L:List (List j)) (i:Nat) (x:List j),(∀x∈L,x.length=m)->L[i]? =some x->(L.flatten.drop (i*m)).take m=x
 |[],i,x,_,h=>by simp at h
 |y::L,0,x,hm,h=>by simp at h;subst h;rw[Nat.zero_mul,lE,wt,<-hm y (f7 ..)];simp
 |y::L,i+1,x,hm,h=>by
  rw[wt,iP,Nat.add_comm,<-List.drop_drop,Nat.one_mul];have:(y++L.flatten).drop m=L.flatten:=by rw[<-hm y (f7 ..)];simp
  rw[this];exact IW L i x (fun x E=>hm x (gF _ E)) (by simpa using h)
section
variable {H:Type}{enc:TypeId×Value->H}{P:Program}{w:World}{base:Nat}{spare:Nat->Bool}{held:Bool}
theorem K5 {V:Nat->Prop}: ∀(L:List (List Value×List CellD)),(∀p∈L,RdCs V w p.1 p.2)->RdCs V w (L.map (·.1)).flatten (L.map (·.2)).flatten
 |[],_=>nl
 |p::L,h=>by rw[mm,mm,wt,wt];exact(h p (f7 ..)).append (K5 L fun q j=>h q (gF _ j))
theorem Kc {t e:TypeId}{m:Nat}(ht:P.underlying t=some (.slice e)) (hc:P.cellsOf e=m) (hm:0<m) {Q:List CellD->Prop}
 (a6: ∀fuel cs x,DataW.trod enc P w base spare held fuel e cs=some x-> ∃us,us.length=m/\Q us/\RdCs Jv w cs us) {fuel:Nat}{v:Value}{x:DataW H×List MemPlace}(h:DataW.trod enc P w base spare held fuel t [v]=some x):
 ∃(n:Nat) (us:List CellD),us.length=n*m/\n<=maxLen/\(∀j,j<n->Q ((us.drop (j*m)).take m))/\RdC Jv w v (.s n us):=by
 rcases open_slice ht h with⟨I,_⟩|⟨a,len,cap,k,n,D,Pl,I,_,hl,hk,a9,_,hi⟩
 ·simp at I;subst I
  exact⟨0,[],by simp,by decide,fun j W=>by omega,.s0 none 0 (by omega)⟩
 ·simp at I;subst I
  rw[hc] at hi
  obtain⟨l,a0,hp⟩:=IE (p:=fun j (z:List Value×List CellD)=>z.1.length=m/\z.2.length=m/\Q z.2/\RdCs Jv w z.1 z.2/\ ∀i,i<m->w.cell? (a.add (j*m+i))=z.1[i]?) len (fun j W=>by obtain⟨b0,h1,h2⟩:=hi j (by rw[a9];split<;>omega);obtain⟨us,e1,e2,e3⟩:=a6 _ _ _ h2;obtain⟨_,a4,E⟩:=World.cells?_some h1;exact⟨(b0,us),a4,e1,e2,e3,fun i hi=>by rw[<-E i hi,add_add]⟩)
  have R: ∀z∈l,z.1.length=m/\z.2.length=m/\RdCs Jv w z.1 z.2:=fun z hz=>by obtain⟨i,hi⟩:=yI hz;exact⟨(hp i z hi).1,(hp i z hi).2.1,(hp i z hi).2.2.2.1⟩
  have m1: ∀x∈l.map (·.1),x.length=m:=fun x hx=>by obtain⟨z,hz,rfl⟩:=nC.1 hx;exact(R z hz).1
  have m2: ∀x∈l.map (·.2),x.length=m:=fun x hx=>by obtain⟨z,hz,rfl⟩:=nC.1 hx;exact(R z hz).2.1
  have b3:=K5 (w:=w) (V:=Jv) l (fun p hp=>(R p hp).2.2)
  have b4:(l.map (·.1)).flatten.length=len*m:=by rw[Bn _ m1,sV,a0]
  have a3:(l.map (·.2)).flatten.length=len*m:=by rw[Bn _ m2,sV,a0]
  refine⟨len,(l.map (·.2)).flatten,a3,by omega,fun j W=>?_,?_⟩
  ·have J:l[j]? =some l[j]:=dY (by omega)
   rw[IW _ j l[j].2 m2 (by rw[lu,J];rfl)]
   exact(hp j _ J).2.2.1
  ·unfold maxLen at hk
   by_cases h0:len=0
   ·subst h0
    have:l=[]:=iv.1 a0
    subst this
    exact .s0 _ _ (by omega)
   ·have E: ∀j,j<len*m-> ∃v,(l.map (·.1)).flatten[j]? =some v/\w.cell? (a.add j)=some v:=by
     intro j W;have hd:j/m<len:=Nat.div_lt_of_lt_mul (by rw[Nat.mul_comm];exact W);have hq:j%m<m:=Nat.mod_lt _ hm;have e:j=j/m*m+j%m:=by rw[Nat.mul_comm];exact(Nat.div_add_mod j m).symm
     have J:l[j/m]? =some l[j/m]:=dY (by omega);have h1:=LH (l.map (·.1)) (j/m) (j%m) l[j/m].1 m1 (by rw[lu,J];rfl) hq;have h2:=(hp _ _ J).2.2.2.2 (j%m) hq;rw[<-e] at h1 h2;refine⟨_,dY (by omega),?_⟩;rw[h2,<-h1,dY (by omega)]
    obtain⟨v0,_,a5⟩:=E 0 (Nat.mul_pos (by omega) hm)
    have ea:=Qs a _ a5
    rw[ea]
    refine .s a.block a.off cap m len _ (fun j=>(l.map (·.1)).flatten.getD j undef) (by omega) hl (by omega) a3 (Z9 _ _ _ (by have:=MW a 0 _ a5;simpa using this)) (fun h=>h) (fun j W=>?_) (fun j u hu=>?_)
    ·obtain⟨v,e1,e2⟩:=E j W
     rw[MW a j _ e2]
     simp[List.getD,e1]
    ·have W:j<len*m:=by rw[<-a3];exact(fb.1 hu).1
     obtain⟨v,e1,e2⟩:=E j W
     simp only[List.getD,e1,Option.getD_some]
     exact b3.2 j v u e1 hu
end
end Go.Proofs.YtegeknjkgadehaaGreat
namespace Go.Proofs.YtegeknjkgadehaaGreat
open Go Go.RowKit
variable {ops:Array Oper}{hi lo m n r s t:Int}{k:IntKind}{P:Program}{p:Prop}{A B C D M N a a1 a2 b b1 b2 c c1 c2 d e f p1 p2 q1 q2 v w x:Rat}{T:TF}{U t1 t2:TypeId}
variable {ty:TypeId}{pos:String}{af:Array Edge}{g:Option (Nat×Bool)}{dst:Option Nat}
section
variable {P:Program}{ops:Array Oper}{T:TF}{B:BF}
theorem LP {x y:Operand}
 (E:ck T x=some (.v (.c (.i k m)))) (I:ck T y=some (.v (.c (.i k n)))) (j:gd ops ⟨dst,.call ⟨.builtin .max,#[x,y],#[t1,t2]⟩,ty,pos,af,g⟩ T=some true):
 Sem P ops ⟨dst,.call ⟨.builtin .max,#[x,y],#[t1,t2]⟩,ty,pos,af,g⟩ T B (.r (.v (.c (.i k (max m n))))):=
 bK j (rG rfl) (fun V β a w hs=>by have J:a.eval x=.int k m:=fN (ao hs (x:=x) (by simp[Op.operands,Call.operands]) E);have e2:a.eval y=.int k n:=fN (ao hs (x:=y) (by simp[Op.operands,Call.operands]) I);refine⟨.int k (max m n),?_,.i _ _⟩;simp[execOp,resolve,invoke,builtin,Builtin.max_,Builtin.max2,J,e2];split<;>omega)
theorem U4 {x y:Operand}
 (E:ck T x=some (.v (.c (.i k m)))) (I:ck T y=some (.v (.c (.i k n)))) (j:gd ops ⟨dst,.call ⟨.builtin .min,#[x,y],#[t1,t2]⟩,ty,pos,af,g⟩ T=some true):
 Sem P ops ⟨dst,.call ⟨.builtin .min,#[x,y],#[t1,t2]⟩,ty,pos,af,g⟩ T B (.r (.v (.c (.i k (min m n))))):=
 bK j (rG rfl) (fun V β a w hs=>by have J:a.eval x=.int k m:=fN (ao hs (x:=x) (by simp[Op.operands,Call.operands]) E);have e2:a.eval y=.int k n:=fN (ao hs (x:=y) (by simp[Op.operands,Call.operands]) I);refine⟨.int k (min m n),?_,.i _ _⟩;simp[execOp,resolve,invoke,builtin,Builtin.min_,Builtin.min2,J,e2];split<;>omega)
end
theorem br {B:BF}{e:TypeId}{ps:Array (Nat×Operand)}{n m by_:Nat}{zs us:List CellD}{dps:List (Nat×D0)}
 (hU:rl P U=some (e,m,by_,zs)) (hp:rD T ps.toList=some dps) (hf:tG (fun i=>some (i*m,m)) (List.replicate n zs).flatten dps=some us) (hl:us.length=n*m) (hn:n*m<=16777216) (hm:0<n*m)
 (J:gd ops ⟨dst,.buildSlice U n ps,ty,pos,af,g⟩ T=some true):Sem P ops ⟨dst,.buildSlice U n ps,ty,pos,af,g⟩ T B (.r (.v (.c (.s n us)))):=by
 have h:=rb (B:=B) hU hp hf hn hm J
 refine⟨rG rfl,fun V β a w hs=>?_⟩
 obtain⟨hw,J⟩:=h V β a w hs
 refine⟨hw,J.mono ?_⟩
 rintro v w' ⟨vs,rfl,rfl,hr⟩
 refine⟨?_,(ef _ w).alloc (bd _) _⟩
 have E:=Keep.below (av:=V) ((ef w.heap.size w).alloc (bd _) (.cells vs e))
 have W:=hr.keep E
 have a5:vs.size=n*m:=by have:=hr.1;rw[hl] at this;simpa using this
 have R:0<n:=by grind
 have a0:0<m:=by grind
 have a3:n<=n*m:=Nat.le_mul_of_pos_right n a0
 refine .s w.heap.size 0 n m n _ (fun j=>vs.getD j undef) R (bd _) (by omega) hl (by simp) (fun h=>by have:=hs.av _ h;omega) (fun j I=>?_) (fun j u I=>?_)
 ·simp_all
 ·have a4:j<n*m:=by have:=(fb.1 I).1;omega
  refine W.2 j _ u ?_ I
  have:j<vs.size:=by omega
  simp[Array.getD,this]
theorem yS {o:Oper}{B:BF}{b c:Bool}(h:Sem P ops o T B (.r (.v (.c (.b b))))) (e:b=c):Sem P ops o T B (.r (.v (.c (.b c)))):=by subst e;exact h
theorem d9 {a b:Int}(j: -9223372036854775808<=a*b) (E:a*b<=9223372036854775807):Bq .mul .i64 a b=some (a*b):=congrArg some (jQ j E)
section
variable {P:Program}{f:FuncId}{ds rs:List D0}{x y z u v x' y' z' u' v':Rat}
theorem FX (h:Ok P f ds [dR x]) (e:x=x'):Ok P f ds [dR x']:=by subst e;exact h
theorem rN (h:Ok P f ds [.a (cR x++cR y++cR z)]) (j:x=x') (e2:y=y') (E:z=z'):Ok P f ds [.a (cR x'++cR y'++cR z')]:=by subst j e2 E;exact h
theorem abo {rs:List D0}(h:Ok P f ds (.a (cR x++cR y++cR z++cR u++cR v)::rs)) (J:x=x') (e2:y=y') (I:z=z') (j:u=u') (E:v=v'):Ok P f ds (.a (cR x'++cR y'++cR z'++cR u'++cR v')::rs):=by grind
theorem mp {b c:Bool}(h:Ok P f ds [.c (.b b)]) (e:b=c):Ok P f ds [.c (.b c)]:=by subst e;exact h
theorem CS {b c:Int}(h:Ok P f ds [.c (.i .i64 b)]) (e:b=c):Ok P f ds [.c (.i .i64 c)]:=by subst e;exact h
end
def zc (b c:Rat):Rat:=if b=0 then 0 else c
def zcp (b1 b2 c:Rat):Rat:=if b1=0/\b2=0 then 0 else c
theorem Df (h:b=0):zc b c=0:=by unfold zc;rw[if_pos h]
theorem jT (h:b≠0):zc b c=c:=by unfold zc;rw[if_neg h]
theorem RM (h:b1=0) (j:b2=0):zcp b1 b2 c=0:=by unfold zcp;rw[if_pos ⟨h,j⟩]
theorem PG (h:b1≠0):zcp b1 b2 c=c:=by unfold zcp;rw[if_neg (fun e=>h e.1)]
theorem Q4 (h:b2≠0):zcp b1 b2 c=c:=by unfold zcp;rw[if_neg (fun e=>h e.2)]
theorem tY (h:(aJ x 0==0)=true):x=0:=Lm h
theorem tg (h:(aJ x 0==0)=false):x≠0:=fun e=>by rw[lQ.2 e] at h;cases h
theorem SZ {y:Rat}(h:(aJ x y !=0)=true):x≠y:=fun e=>by rw[lQ.2 e] at h;cases h
theorem La:(0:Rat)=((0:Int):Rat):=rfl
def Um (b1 c1 b2 c2:Rat):Prop:=b1≠0/\b2≠0/\c1≠c2
def cc (b1 c1 c2:Rat):Rat:=if b1=0 then c2 else c1
theorem Ho (h:b1=0):cc b1 c1 c2=c2:=by unfold cc;rw[if_pos h]
theorem zn (h:b1≠0):cc b1 c1 c2=c1:=by unfold cc;rw[if_neg h]
def s9 (b1 b2 c:Rat):Bool:=if b1=0/\b2=0 then decide (c=0) else decide (0<c)&& !jB c
theorem acA:(aJ x 0==0)=decide (x=0):=by rw[Bool.eq_iff_iff,beq_iff_eq,decide_eq_true_eq,lQ]
theorem Zx:decide (aJ x 0>0)=decide (0<x):=by rw[Bool.eq_iff_iff,decide_eq_true_eq,decide_eq_true_eq];exact q9
theorem afx (h:(aJ b1 0==0)=true) (j:(aJ b2 0==0)=true):s9 b1 b2 c=(aJ c 0==0):=by unfold s9;rw[if_pos ⟨tY h,tY j⟩,acA]
theorem YN (h:(aJ b1 0==0)=false):s9 b1 b2 c=(decide (aJ c 0>0)&& !jB c):=by unfold s9;rw[if_neg (fun e=>tg h e.1),Zx]
theorem YH (h:(aJ b2 0==0)=false):s9 b1 b2 c=(decide (aJ c 0>0)&& !jB c):=by unfold s9;rw[if_neg (fun e=>tg h e.2),Zx]
def zP:List CellD:=[.b false,.s 0 [],.b false,.s 0 [],.b false,.s 0 [],.b false,.s 0 [],.b false,.s 0 [],.b false,.s 0 [],.b false,.s 0 [],.b false,.s 0 [],.b false,.s 0 [],.b false,.s 0 []]
theorem WP {x y:Int}(I:Sz 5000000 x) (E:Sz 5000000 y):Ok Tryz.prog 232 [dQ x y] [.c (.b (vQ x y))]:=by
 have W:Sz 10000000 x:=I.m_;have R:Sz 10000000 y:=E.m_;refine cj Tryz.func232 rfl ?_;refine ac rfl (H6 (by assumption)) ?_;refine ar (aQ rfl) ?_;refine ac rfl (H6 (by assumption)) ?_;refine ar (aQ rfl) ?_;refine ac rfl (wO) ?_;refine cU rfl (fun j=>?_) (fun j=>?_)
 ·refine ah ?_;rw[aeC j];exact aj aa
 ·have J:Sz 100000000 ((Int.gcd x y:Nat):Int):=(Sz.gcd (x:=x) E (acQ j)).m_;refine ac rfl (FW (fI I) (fI E))<|ac rfl (GZ)<|ac rfl (Iq (SF) (fI (eE (k:=3) (by decide) (by decide) (by decide))))<|ah ?_;rw[ac2 j];exact aj aa
theorem jk (j:Rz 5000000 x):Ok Tryz.prog 232 [dR x] [.c (.b true)]:=by have:=WP j.n j.d;rw[adA] at this;exact this
theorem OH:Ok Tryz.prog 116 [] [dR 0]:=by refine cj Tryz.func116 rfl<|ac rfl (xb (by omega) (by omega)) ?_;refine ah ?_;rw[La];exact a7 bV rfl aa
theorem C4:Ok Tryz.prog 48 [dR a,dR b,dR c] [.a ((cR a++cR b++cR (zc b c)))]:=by
 refine cj Tryz.func48 rfl<|ac rfl (BR) ?_;refine cU rfl (fun j=>?_) (fun j=>?_)
 ·refine ac rfl (OH) ?_;refine ar (az (us:=(cR a++cR b++cR 0)) Cu Aj rfl rfl rfl) ?_;refine ah ?_;rw[Df (tY j)];exact a7 jG rfl aa
 ·refine ar (az (us:=(cR a++cR b++cR c)) Cu Aj rfl rfl rfl) ?_;refine ah ?_;rw[jT (tg j)];exact a7 jG rfl aa
theorem mK:Ok Tryz.prog 13 [.a ((cR a1++cR b1++cR a2++cR b2++cR c))] [.a ((cR a1++cR b1++cR (zc b1 c)))]:=by refine cj Tryz.func13 rfl<|ac rfl (C4) ?_;exact ah (a7 jG rfl aa)
theorem Ca:Ok Tryz.prog 36 [.a ((cR a1++cR b1++cR a2++cR b2++cR c))] [.a ((cR a2++cR b2++cR (zc b2 c)))]:=by refine cj Tryz.func36 rfl<|ac rfl (C4) ?_;exact ah (a7 jG rfl aa)
theorem fC (E:Rz 300 a1) (j:Rz 300 a2) (I:Rz 300 v) (J:Rz 300 w):Ok Tryz.prog 15 [.a ((cR a1++cR b1++cR a2++cR b2++cR c)),.a ((cR v++cR w))] [.a ((cR (a1+v)++cR b1++cR (a2+w)++cR b2++cR c))]:=by refine cj Tryz.func15 rfl<|cE 11 [] ?_;refine aG rfl (Fu (aU E) (aU I)) ?_;refine aG rfl (Fu (aU j) (aU J)) ?_;refine n8 (bh (us:=(cR (a1+v)++cR b1++cR a2++cR b2++cR c)) bV rfl rfl rfl rfl (eQ rfl) rfl rfl) ?_;refine n8 (bh (us:=(cR (a1+v)++cR b1++cR (a2+w)++cR b2++cR c)) bV rfl rfl rfl rfl (eQ rfl) rfl rfl) ?_;exact ah (a7 bo rfl aa)
theorem uW:Ok Tryz.prog 182 [] [dR 0]:=by refine cj Tryz.func182 rfl<|ac rfl (qB (by omega) (by omega)) ?_;refine ah ?_;rw[La];exact a7 bV rfl aa
theorem Em:Ok Tryz.prog 175 [] [dR 0]:=by refine cj Tryz.func175 rfl<|ac rfl (qB (by omega) (by omega)) ?_;refine ah ?_;rw[La];exact a7 bV rfl aa
theorem mq:Ok Tryz.prog 93 [dR a] [.a ((cR a++cR 0++cR 0))]:=by refine cj Tryz.func93 rfl<|cE 4 [] ?_;refine aG rfl (Em) ?_;refine aG rfl (Em) ?_;refine aq (az (us:=(cR a++cR 0++cR 0)) Cu Aj rfl rfl rfl) ?_;exact ah (a7 jG rfl aa)
theorem CG:Ok Tryz.prog 282 [dR a,dR b,dR c] [.a ((cR a++cR b++cR (zc b c)))]:=by
 refine cj Tryz.func282 rfl<|ac rfl (jj) ?_;refine cU rfl (fun j=>?_) (fun j=>?_)
 ·refine ac rfl (mq) ?_;have e:=tY j;subst e;refine ah ?_;rw[Df rfl];exact a7 jG rfl aa
 ·refine ar (az (us:=(cR a++cR b++cR c)) Cu Aj rfl rfl rfl) ?_;refine ah ?_;rw[jT (tg j)];exact a7 jG rfl aa
theorem qj:Ok Tryz.prog 209 [.a ((cR a1++cR b1++cR a2++cR b2++cR c))] [.a ((cR a1++cR b1++cR (zc b1 c)))]:=by refine cj Tryz.func209 rfl<|ac rfl (CG) ?_;exact ah (a7 jG rfl aa)
theorem zF:Ok Tryz.prog 210 [.a ((cR a1++cR b1++cR a2++cR b2++cR c))] [.a ((cR a2++cR b2++cR (zc b2 c)))]:=by refine cj Tryz.func210 rfl<|ac rfl (CG) ?_;exact ah (a7 jG rfl aa)
theorem jU:Ok Tryz.prog 99 [dR a1,dR b1,dR a2,dR b2,dR c] [.a ((cR a1++cR b1++cR a2++cR b2++cR (zcp b1 b2 c)))]:=by
 refine fg Tryz.func99 26 [.cell 10 42] rfl<|ab<|ag<|ab<|ab<|ag ?_;refine ac rfl (jj) ?_;refine jC (aQ rfl) (fun c1 E=>?_);cases c1
 ·refine cT rfl<|au<|ab<|cB<|i9 5<|cV (az (us:=(cR a1++cR b1++cR a2++cR b2++cR c)) NX JK rfl rfl rfl) ?_;refine jA<|bc ?_;rw[PG (tg E)];exact ah (a7 bo rfl aa)
 ·refine ac rfl (jj) ?_;refine aA rfl (fun j=>?_) (fun j=>?_)
  ·refine ag<|ac rfl (uW) ?_;refine ab<|cB<|i9 5 ?_;refine cV (az (us:=(cR a1++cR b1++cR a2++cR b2++cR 0)) NX JK rfl rfl rfl) ?_;refine jA<|bc ?_;rw[RM (tY E) (tY j)];exact ah (a7 bo rfl aa)
  ·refine au<|ab<|cB<|i9 5<|cV (az (us:=(cR a1++cR b1++cR a2++cR b2++cR c)) NX JK rfl rfl rfl) ?_;refine jA<|bc ?_;rw[Q4 (tg j)];exact ah (a7 bo rfl aa)
theorem xm:Ok Tryz.prog 200 [.a ((cR v++cR w))] [.a ((cR v++cR 0++cR w++cR 0++cR 0))]:=by refine fg Tryz.func200 11 [.cell 2 42] rfl<|ab<|ag<|ab<|nP 8 rfl rfl<|dU 1<|bG (qt (cR v) bV rfl)<|bG (j9 rfl (uW))<|dU 1<|bG (qt (cR w) bV rfl)<|bG (j9 rfl (uW))<|bG (j9 rfl (uW))<|bG (az (us:=(cR v++cR 0++cR w++cR 0++cR 0)) NX JK rfl rfl rfl) ?_;refine mP<|dE<|jA<|bc ?_;exact ah (a7 bo rfl aa)
def t8 (x:Int):Bool:=decide (-9223372036854775808<=x)&&decide (x<=9223372036854775807)
theorem aab {x:Int}(h:x< -9223372036854775808):t8 x=false:=by unfold t8;rw[decide_eq_false (by omega)];rfl
theorem aaC {x:Int}(h:9223372036854775807<x):t8 x=false:=by unfold t8;rw[decide_eq_false (p:=x<=9223372036854775807) (by omega),sX]
theorem Kz {x:Int}(h: ¬x< -9223372036854775808) (j: ¬9223372036854775807<x):t8 x=true:=by unfold t8;rw[decide_eq_true (by omega),decide_eq_true (by omega)];rfl
theorem WC {x:Int}:t8 x=true↔ -9223372036854775808<=x/\x<=9223372036854775807:=by unfold t8;simp
theorem ab5 (j:1<=r) (E:r<=9223372036854775808):IntKind.u64.wrap (0-r)=18446744073709551616-r:=by unfold IntKind.wrap;simp[IntKind.bits,IntKind.signed];omega
theorem Z5 (j:1<=r) (E:r<=9223372036854775808):IntKind.i64.wrap (18446744073709551616-r)= -r:=by unfold IntKind.wrap;simp[IntKind.bits,IntKind.signed];omega
theorem vK [Decidable p] (h:decide p=true):p:=by simpa using h
theorem nJ [Decidable p] (h:decide p=false): ¬p:=by simpa using h
theorem df {b:Bool}(h:(!b)=false):b=true:=by simpa using h
theorem gy {b:Bool}(h:(!b)=true):b=false:=by simpa using h
def tp (lo hi:Int):Bool:=decide (-2305843009213693952<=lo)&&decide (hi<=2305843009213693952)
theorem ac9 (h:lo< -2305843009213693952):tp lo hi=false:=by unfold tp;rw[decide_eq_false (by omega)];rfl
theorem ae6 (h:hi>2305843009213693952):tp lo hi=false:=by unfold tp;rw[decide_eq_false (p:=hi<=2305843009213693952) (by omega),sX]
theorem ZE (h: ¬lo< -2305843009213693952) (j: ¬hi>2305843009213693952):tp lo hi=true:=by unfold tp;rw[decide_eq_true (by omega),decide_eq_true (by omega)];rfl
def jo (a:Rat):Int:=(a*((65536:Int):Rat)).num.fdiv ((a*((65536:Int):Rat)).den:Int)
def iJ (a:Rat):Int:= -((-(a*((65536:Int):Rat))).num.fdiv ((-(a*((65536:Int):Rat))).den:Int))
def gV (a:Rat):Bool:=t8 (jo a)&&(t8 (iJ a)&&tp (jo a) (iJ a))
theorem uX {x:Int}(hx:Sz 100000000 x):Ok Tryz.prog 163 [dI x] [.c (.i .i64 (if t8 x then x else 0)),.c (.b (t8 x))]:=by
 refine fg Tryz.func163 39 [.tmp 2,.tmp 3] rfl<|ab<|ag<|ab<|ab<|fk 10 [] ?_;refine aG rfl (lW (by omega) (by omega))<|aG rfl (m5) ?_;refine sL (aQ rfl) (fun c1 a3=>?_);cases c1
 ·refine aG rfl (lW (by omega) (by omega))<|aG rfl (m5) ?_;refine aA rfl (fun R=>?_) (fun R=>?_)
  ·refine ab<|ag<|bc ?_;rw[aaC (agW R),if_neg (by decide)];exact ah (aj (aj aa))
  ·have a4:=ab0 a3;have a0:=af6 R;have a5:=gD hx;refine au<|ab<|ag<|ab<|ab<|ag ?_;refine ar (b9 ((((cX x.natAbs).length:Int))-1) (ci (by(first|omega|(simp;omega))) (by(first|omega|(simp;omega)))) rfl) ?_;refine aw<|bF (ι:={t:Nat×Int // ShInv (cX x.natAbs) t.1 t.2}) (fun i=>⟨39,[(1,.p 1 0),(4,.v (.c (.i .u64 i.1.2))),(5,.v (.c (.i .i64 ((i.1.1:Int)-1))))],[(1,38,cI x)]⟩) (fun i=>i.1.1) ⟨((cX x.natAbs).length,0),⟨Nat.le_refl _,p7 0,by rw[ud];simp⟩⟩ (al ⟨rfl,rfl,rfl,trivial⟩ ⟨rfl,trivial⟩ rfl) ?_;rintro⟨⟨j,r⟩,I⟩;replace I:ShInv (cX x.natAbs) j r:=I;have g5:=I.le;have g3:=I.r0;have g4:=I.bound (bD _);rw[bR] at g4;dsimp only;refine ab<|ab<|ag ?_;refine aA rfl (fun J=>?_) (fun J=>?_)
   ·obtain⟨q,rfl⟩: ∃q,j=q+1:=⟨j-1,by have:=vK J;omega⟩;have hS:=I.step (bD _);have hB:=hS.bound (bD _);have g1:=cW (bD x.natAbs) q;rw[bR] at hB;refine pp (σ':=⟨39,[(1,.p 1 0),(4,.v (.c (.i .u64 r))),(5,.v (.c (.i .i64 (q:Int))))],[(1,38,cI x)]⟩) (al ⟨rfl,rfl,by rw[show(q:Int)=((q+1:Nat):Int)-1 from by omega];rfl,trivial⟩ ⟨rfl,trivial⟩ rfl) ?_;refine au<|ab<|aw<|ag ?_;refine ar (b9 (r*1000000000) (gP (by(first|omega|(simp;omega))) (by(first|omega|(simp;omega)))) rfl) ?_;refine ar (ba jb rfl rfl (by(first|omega|(simp;omega))) (jf _) rfl rfl) ?_;refine ar (bH eZ rfl (j5 (i:=q) (by(first|omega|(simp;omega)))) rfl) ?_;refine ar (bj (r:=(cX x.natAbs).getD q 0) jr fB rfl (iF (by(first|omega|(simp;omega))) (by(first|omega|(simp;omega)))) rfl) ?_;refine ar (b9 ((r*1000000000)+((cX x.natAbs).getD q 0)) (fD (by(first|omega|(simp;omega))) (by(first|omega|(simp;omega)))) rfl) ?_;refine ag ?_;refine ar (b9 ((q:Int)-1) (ci (by(first|omega|(simp;omega))) (by(first|omega|(simp;omega)))) rfl) ?_;exact⟨⟨(q,r*1000000000+(cX x.natAbs).getD q 0),hS⟩,al ⟨rfl,rfl,rfl,trivial⟩ ⟨rfl,trivial⟩ rfl,by show q<q+1;omega⟩
   ·have hz:j=0:=by have:=nJ J;omega
    have W:(x.natAbs:Int)=r:=by subst hz;have:=I.v;rw[bR] at this;simp[val,su] at this;omega
    refine bn<|ab<|ab<|ag ?_;refine aA rfl (fun E=>?_) (fun E=>?_)
    ·have hn:=vK E;refine ag<|ar (fQ (r:=18446744073709551616-r) rfl (ab5 (by omega) (by omega)) rfl) ?_;refine ab<|ag<|ar (bj (r:=x) fB nu rfl (by rw[Z5 (by omega) (by omega)];omega) rfl) ?_;refine bc ?_;rw[Kz a4 a0,if_pos rfl];exact ah (aj (aj aa))
    ·have hn:=nJ E;refine au<|ab<|ag<|ar (bj (r:=x) fB nu rfl (by rw[<-W];rw[jQ (by omega) (by omega)];omega) rfl) ?_;refine bc ?_;rw[Kz a4 a0,if_pos rfl];exact ah (aj (aj aa))
 ·refine gO rfl<|ab<|ag<|bc ?_;rw[aab (ab6 a3),if_neg (by decide)];exact ah (aj (aj aa))
theorem sD {x y:Int}:Ok Tryz.prog 166 [.c (.i .i64 x),.c (.i .i64 y)] [.a (([.i .i64 (if tp x y then x else 0)]++[.i .i64 (if tp x y then y else 0)])),.c (.b (tp x y))]:=by
 refine cj Tryz.func166 rfl ?_;refine jC (aQ rfl) (fun c1 E=>?_);cases c1
 ·refine cU rfl (fun j=>?_) (fun j=>?_)
  ·refine ar (az (us:=([.i .i64 0]++[.i .i64 0])) vq tP rfl rfl rfl) ?_;refine ah ?_;rw[ae6 (vK j),if_neg (by decide),if_neg (by decide)];exact a7 mz rfl (aj aa)
  ·refine ar (az (us:=([.i .i64 x]++[.i .i64 y])) vq tP rfl rfl rfl) ?_;refine ah ?_;rw[ZE (nJ E) (nJ j),if_pos rfl,if_pos rfl];exact a7 mz rfl (aj aa)
 ·refine vr rfl<|ar (az (us:=([.i .i64 0]++[.i .i64 0])) vq tP rfl rfl rfl) ?_;refine ah ?_;rw[ac9 (vK E),if_neg (by decide),if_neg (by decide)];exact a7 mz rfl (aj aa)
def qf (s t c:Int):Int:=if t=0\/s=t then s else if s=0 then t else s*c
def bU (a b m:Rat):Int:=qf (aJ a 0) (aJ b 0*aJ m 0) (aJ (a*a) (b*b*m))
def Ey (A B C D M N:Rat):Rat:=A*A+B*B*M-N*(C*C+D*D*M)
def vM (A B C D N:Rat):Rat:=A*B-N*(C*D)
def km (A B C D M N:Rat):Int:=if M<0\/N<0 then 0 else qf (bU A B M) (bU C D M*aJ N 0) (bU (Ey A B C D M N) (vM A B C D N+vM A B C D N) M)
theorem xR {c:Int}(h:(s==0)=true):qf s t c=t:=by unfold qf;grind
theorem xF {c:Int}(h:(t==0)=true):qf s t c=s:=by
 have h:t=0:=by grind
 unfold qf;rw[if_pos (.inl h)]
theorem wW {c:Int}(h:(s==t)=true):qf s t c=s:=by
 have h:s=t:=by grind
 unfold qf;rw[if_pos (.inr h)]
theorem xx {c:Int}(j:(s==0)=false) (I:(t==0)=false) (E:(s==t)=false):qf s t c=s*c:=by
 have j:s≠0:=by grind
 have I:t≠0:=by grind
 have E:s≠t:=by grind
 unfold qf;rw[if_neg (by omega),if_neg j]
theorem dF (x y:Rat): -1<=aJ x y/\aJ x y<=1:=by
 unfold aJ;split;·omega
 ·split<;>omega
theorem gY (h: -1<=s/\s<=1) (j: -1<=t/\t<=1): -1<=s*t/\s*t<=1:=by
 have hs:s= -1\/s=0\/s=1:=by omega
 grind
theorem Lc {c:Int}(h: -1<=s/\s<=1) (E: -1<=t/\t<=1) (j: -1<=c/\c<=1): -1<=qf s t c/\qf s t c<=1:=by
 unfold qf;split;·exact h
 ·split;·grind
  ·exact gY h j
theorem gK (a b m:Rat): -1<=bU a b m/\bU a b m<=1:=Lc (dF _ _) (gY (dF _ _) (dF _ _)) (dF _ _)
theorem NT (h:decide (aJ x 0<0)=true):x<0:=Io.1 (by simpa using h)
theorem EE (h:decide (aJ x 0<0)=false): ¬x<0:=fun e=>by have:=Io.2 e;simp at h;omega
theorem MO (h:M<0\/N<0):km A B C D M N=0:=by unfold km;rw[if_pos h]
theorem u9 (h: ¬M<0) (j: ¬N<0):km A B C D M N=qf (bU A B M) (bU C D M*aJ N 0) (bU (Ey A B C D M N) (vM A B C D N+vM A B C D N) M):=by unfold km;rw[if_neg (fun e=>e.elim h j)]
theorem oS {m:Rat}(R:Rz 2000000 a) (j:Rz 2000000 b) (W:Rz 2000000 m):Ok Tryz.prog 44 [dR a,dR b,dR m] [.c (.i .i64 (bU a b m))]:=by
 have ka:Rz 6000000 a:=R.m_;have kb:Rz 6000000 b:=j.m_;have hp:=gY (dF b 0) (dF m 0);have a0:=gY (dF a 0) (dF (a*a) (b*b*m));refine cj Tryz.func44 rfl<|cE 9 [] ?_;refine aG rfl (d7) ?_;refine aG rfl (d7) ?_;refine aG rfl (d7) ?_;refine aq (b9 ((aJ b 0)*(aJ m 0)) (d9 (by omega) (by omega)) rfl) ?_;refine jC (aQ rfl) (fun c1 J=>?_);cases c1
 ·refine cU rfl (fun I=>?_) (fun I=>?_)
  ·refine ah ?_;unfold bU;rw[wW I];exact aj aa
  ·refine cU rfl (fun E=>?_) (fun E=>?_)
   ·refine ah ?_;unfold bU;rw[xR E];exact aj aa
   ·refine cE 12 [] ?_;refine aG rfl (eN (aU R) (aU R)) ?_;refine aG rfl (eN (aU j) (aU j)) ?_;refine aG rfl (eN (aU (aW j j)) (aU W)) ?_;refine aG rfl (rf (aU (aW R R)) (aU (aW (aW j j) W))) ?_;refine aq (b9 ((aJ a 0)*(aJ (a*a) ((b*b)*m))) (d9 (by omega) (by omega)) rfl)<|ah ?_;unfold bU;rw[xx E J I];exact aj aa
 ·refine vr rfl<|ah ?_;unfold bU;rw[xF J];exact aj aa
theorem xn {m:Rat}(ha:Rz 2000000 a) (E:Rz 2000000 b) (hm:Rz 2000000 m):Ok Tryz.prog 324 [dR a,dR b,dR m] [.c (.i .i64 (bU a b m))]:=by
 have ka:Rz 6000000 a:=ha.m_;have kb:Rz 6000000 b:=E.m_;have hp:=gY (dF b 0) (dF m 0);have a3:=gY (dF a 0) (dF (a*a) (b*b*m));refine cj Tryz.func324 rfl<|cE 9 [] ?_;refine aG rfl (bX) ?_;refine aG rfl (bX) ?_;refine aG rfl (bX) ?_;refine aq (b9 ((aJ b 0)*(aJ m 0)) (d9 (by omega) (by omega)) rfl) ?_;refine jC (aQ rfl) (fun c1 j=>?_);cases c1
 ·refine jC (aQ rfl) (fun c2 W=>?_);cases c2
  ·refine cU rfl (fun I=>?_) (fun I=>?_)
   ·refine cU rfl (fun J=>?_) (fun J=>?_);·exact absurd J (by rw[j];decide)
    ·refine ah ?_;unfold bU;rw[wW I];exact aj aa
   ·refine cE 12 [] ?_;refine aG rfl (cY (aU ha) (aU ha)) ?_;refine aG rfl (cY (aU E) (aU E)) ?_;refine aG rfl (cY (aU (aW E E)) (aU hm)) ?_;refine aG rfl (gZ (aU (aW ha ha)) (aU (aW (aW E E) hm))) ?_;refine aq (b9 ((aJ a 0)*(aJ (a*a) ((b*b)*m))) (d9 (by omega) (by omega)) rfl)<|ah ?_;unfold bU;rw[xx j W I];exact aj aa
  ·refine vr rfl ?_;refine cU rfl (fun a0=>?_) (fun a0=>?_);·exact absurd a0 (by rw[j];decide)
   ·refine ah ?_;unfold bU;rw[xF W];exact aj aa
 ·refine ar (aQ rfl)<|vr rfl ?_;refine cU rfl (fun R=>?_) (fun R=>?_)
  ·refine ah ?_;unfold bU;rw[xR j];exact aj aa
  ·exact absurd j (by rw[R];decide)
theorem D7 (J:Rz 160000 A) (I:Rz 160000 B) (E:Rz 160000 C) (j:Rz 160000 D) (R:Rz 160000 M) (hN:Rz 160000 N):Ok Tryz.prog 280 [.a ((cR A++cR B++cR C++cR D++cR M++cR N))] [.c (.i .i64 (km A B C D M N))]:=by
 have z1:=gY (gK C D M) (dF N 0);have z2:=gY (gK A B M) (gK (A*A+B*B*M-N*(C*C+D*D*M)) ((A*B-N*(C*D))+(A*B-N*(C*D))) M);refine cj Tryz.func280 rfl ?_;refine ac rfl (bX) ?_;refine jC (aQ rfl) (fun c1 a6=>?_);cases c1
 ·have n1:=EE a6;refine ac rfl (bX) ?_;refine cU rfl (fun a3=>?_) (fun a3=>?_)
  ·refine ah ?_;rw[MO (.inr (NT a3))];exact aj aa
  ·have n2:=EE a3;refine cE 20 [] ?_;refine aG rfl (xn (aU J) (aU I) (aU R)) ?_;refine aG rfl (xn (aU E) (aU j) (aU R)) ?_;refine aG rfl (bX) ?_;refine aq (b9 ((bU C D M)*(aJ N 0)) (d9 (by omega) (by omega)) rfl) ?_;refine jC (aQ rfl) (fun c3 W=>?_);cases c3
   ·refine jC (aQ rfl) (fun c4 a5=>?_);cases c4
    ·refine cU rfl (fun a0=>?_) (fun a0=>?_)
     ·refine cU rfl (fun a9=>?_) (fun a9=>?_);·exact absurd a9 (by rw[W];decide)
      ·refine ah ?_;rw[u9 n1 n2,wW a0];exact aj aa
     ·refine cE 18 [] ?_;refine aG rfl (cY (aU E) (aU E)) ?_;refine aG rfl (cY (aU j) (aU j)) ?_;refine aG rfl (cY (aU (aW j j)) (aU R)) ?_;refine aG rfl (gC (aU (aW E E)) (aU (aW (aW j j) R))) ?_;refine aG rfl (cY (aU hN) (aU (ia (aW E E) (aW (aW j j) R))))<|cE 17 [] ?_;refine aG rfl (cY (aU J) (aU J)) ?_;refine aG rfl (cY (aU I) (aU I)) ?_;refine aG rfl (cY (aU (aW I I)) (aU R)) ?_;refine aG rfl (gC (aU (aW J J)) (aU (aW (aW I I) R))) ?_;refine aG rfl (nh (aU (ia (aW J J) (aW (aW I I) R))) (aU (aW hN (ia (aW E E) (aW (aW j j) R)))))<|cE 15 [] ?_;refine aG rfl (cY (aU J) (aU I)) ?_;refine aG rfl (cY (aU E) (aU j))<|aG rfl (cY (aU hN) (aU (aW E j)))<|aG rfl (nh (aU (aW J I)) (aU (aW hN (aW E j))))<|cE 10 [] ?_;refine aG rfl (gC (aU (dz (aW J I) (aW hN (aW E j)))) (aU (dz (aW J I) (aW hN (aW E j))))) ?_;refine aG rfl (xn (aU (dz (ia (aW J J) (aW (aW I I) R)) (aW hN (ia (aW E E) (aW (aW j j) R))))) (aU (ia (dz (aW J I) (aW hN (aW E j))) (dz (aW J I) (aW hN (aW E j))))) (aU R)) ?_;refine aq (b9 ((bU A B M)*(bU (((A*A)+((B*B)*M))-(N*((C*C)+((D*D)*M)))) (((A*B)-(N*(C*D)))+((A*B)-(N*(C*D)))) M)) (d9 (by omega) (by omega)) rfl)<|ah ?_;rw[u9 n1 n2,xx W a5 a0];exact aj aa
    ·refine vr rfl ?_;refine cU rfl (fun b0=>?_) (fun b0=>?_);·exact absurd b0 (by rw[W];decide)
     ·refine ah ?_;rw[u9 n1 n2,xF a5];exact aj aa
   ·refine ar (aQ rfl)<|vr rfl ?_;refine cU rfl (fun a4=>?_) (fun a4=>?_)
    ·refine ah ?_;rw[u9 n1 n2,xR W];exact aj aa
    ·exact absurd W (by rw[a4];decide)
 ·refine vr rfl<|ah ?_;rw[MO (.inl (NT a6))];exact aj aa
theorem Ja (I:Rz 6000000 a) (_J:Rz 6000000 b) (E:Rz 6000000 d) (j:Rz 6000000 e):Ok Tryz.prog 281 [.a ((cR a++cR b++cR c)),.a ((cR d++cR e++cR f))] [.a ((cR (a-d)++cR b++cR (-e)++cR 0++cR c++cR f))]:=by refine fg Tryz.func281 21 [.cell 4 116] rfl<|ab<|ag<|ab<|nP 16 rfl rfl<|dU 1<|bG (qt (cR a) bV rfl)<|dU 1<|bG (qt (cR d) bV rfl)<|bG (j9 rfl (nh (aU I) (aU E)))<|dU 1<|bG (qt (cR b) bV rfl)<|dU 1<|bG (qt (cR e) bV rfl) ?_;refine bG (j9 rfl (eY (aU j)))<|bG (j9 rfl ((show Ok Tryz.prog 30 [.c (.i .i64 0)] [dR 0] from qQ (by omega) (by omega))))<|dU 1<|bG (qt (cR c) bV rfl)<|dU 1<|bG (qt (cR f) bV rfl)<|bG (az (us:=(cR (a-d)++cR b++cR (-e)++cR 0++cR c++cR f)) Zw SG rfl rfl rfl) ?_;refine mP<|dE<|jA<|bc ?_;exact ah (a7 YB rfl aa)
theorem H5 (j:Rz 60000 a) (W:Rz 60000 b) (J:Rz 60000 c) (E:Rz 60000 d) (R:Rz 60000 e) (I:Rz 60000 f):Ok Tryz.prog 208 [.a ((cR a++cR b++cR c)),.a ((cR d++cR e++cR f))] [.c (.i .i64 (km (a-d) b (-e) 0 c f))]:=by have ka:Rz 6000000 a:=j.m_;have ma:Rz 160000 a:=j.m_;have kb:Rz 6000000 b:=W.m_;have mb:Rz 160000 b:=W.m_;have kc:Rz 6000000 c:=J.m_;have mc:Rz 160000 c:=J.m_;have kd:Rz 6000000 d:=E.m_;have md:Rz 160000 d:=E.m_;have ke:Rz 6000000 e:=R.m_;have me:Rz 160000 e:=R.m_;have kf:Rz 6000000 f:=I.m_;have mf:Rz 160000 f:=I.m_;have m1:Rz 160000 (a-d):=(j.sub E).m_;have m2:Rz 160000 (-e):=me.neg;have m0:Rz 160000 (0:Rat):=Rz.int (n:=0) (eE (by decide) (by decide) (by decide)) (by decide);refine cj Tryz.func208 rfl ?_;refine ac rfl (Ja (by assumption) (by assumption) (by assumption) (by assumption)) ?_;refine ac rfl (D7 (by assumption) (by assumption) (by assumption) (by assumption) (by assumption) (by assumption)) ?_;exact ah (aj aa)
theorem tC (E:Rz 6000000 a):Ok Tryz.prog 115 [dR a] [dR a]:=by
 refine cj Tryz.func115 rfl<|ac rfl (ri (aU E))<|ac rfl (ri (aU (Rz.neg E))) ?_;have j:dR a=dR (-(-a)):=by rw[Rat.neg_neg]
 refine ah ?_;rw[j];exact a7 bV rfl aa
theorem Id (R:Rz 6000000 a) (E:Rz 6000000 b) (I:Rz 6000000 c) (j:Rz 6000000 d) (W:Rz 6000000 e) (J:Rz 6000000 f):Ok Tryz.prog 47 [.a ((cR a++cR b++cR c)),.a ((cR d++cR e++cR f))] [.a ((cR (a-d)++cR b++cR (-e)++cR 0++cR c++cR f))]:=by refine fg Tryz.func47 24 [.cell 4 116] rfl<|ab<|ag<|ab<|nP 19 rfl rfl<|dU 1<|bG (qt (cR a) bV rfl)<|dU 1<|bG (qt (cR d) bV rfl)<|bG (j9 rfl (ml (aU R) (aU j)))<|dU 1<|bG (qt (cR b) bV rfl)<|bG (j9 rfl (tC (aU E)))<|dU 1 ?_;refine bG (qt (cR e) bV rfl)<|bG (j9 rfl (ri (aU W)))<|bG (j9 rfl ((show Ok Tryz.prog 87 [.c (.i .i64 0)] [dR 0] from DY (by omega) (by omega))))<|dU 1<|bG (qt (cR c) bV rfl)<|bG (j9 rfl (tC (aU I)))<|dU 1<|bG (qt (cR f) bV rfl)<|bG (j9 rfl (tC (aU J)))<|bG (az (us:=(cR (a-d)++cR b++cR (-e)++cR 0++cR c++cR f)) Zw SG rfl rfl rfl) ?_;refine mP<|dE<|jA<|bc ?_;exact ah (a7 YB rfl aa)
def rB (b c:Rat):Rat:=if b=0\/c=0 then 0 else b
def rC (b c:Rat):Rat:=if b=0\/c=0 then 0 else c
theorem JZ (h:b=0\/c=0):rB b c=0:=by unfold rB;rw[if_pos h]
theorem JI (h:b=0\/c=0):rC b c=0:=by unfold rC;rw[if_pos h]
theorem aaj (h:b≠0) (j:c≠0):rB b c=b:=by unfold rB;rw[if_neg (fun e=>e.elim h j)]
theorem aba (h:b≠0) (j:c≠0):rC b c=c:=by unfold rC;rw[if_neg (fun e=>e.elim h j)]
def s3 (a b c:Rat):Int:=if aJ a 0=aJ b 0\/aJ b 0=0 then aJ a 0 else if aJ a 0=0 then aJ b 0 else if 0<a*a-b*b*c then aJ a 0 else aJ b 0
theorem ag5 (h:(aJ a 0==aJ b 0)=true):s3 a b c=aJ a 0:=by unfold s3;rw[if_pos (.inl (by simpa using h))]
theorem aga (h:(aJ b 0==0)=true):s3 a b c=aJ a 0:=by unfold s3;rw[if_pos (.inr (by simpa using h))]
theorem aa4 (h:(aJ a 0==aJ b 0)=false) (j:(aJ b 0==0)=false):s3 a b c=if aJ a 0=0 then aJ b 0 else if 0<a*a-b*b*c then aJ a 0 else aJ b 0:=by unfold s3;rw[if_neg (fun e=>e.elim (by simpa using h) (by simpa using j))]
theorem agM (h:decide (aJ x 0>0)=true):0<x:=q9.1 (by simpa using h)
theorem aeB (h:decide (aJ x 0>0)=false): ¬0<x:=fun e=>by have:=q9.2 e;simp at h;omega
theorem i_eq (h:(s==t)=true):s=t:=by simpa using h
theorem ae7 (h:(s==t)=false):s≠t:=by simpa using h
theorem aa8 (I: ¬Um b c e f) (j:b≠0) (E:e≠0):(aJ c f==0)=true:=by rw[r_eqb'];exact jZ fun h=>I ⟨j,E,h⟩
where
 r_eqb' {x y:Rat}:((aJ x y==0)=true)=(x=y):=by rw[beq_iff_eq];exact propext lQ
theorem x5 (j:Rz 6000000 a):Ok Tryz.prog 358 [dR a] [dR (a*a)]:=by refine cj Tryz.func358 rfl<|ac rfl (cY (aU j) (aU j)) ?_;exact ah (a7 bV rfl aa)
theorem A8 (E:Rz 1000000 a) (j:Rz 1000000 b) (I:Rz 1000000 c):Ok Tryz.prog 333 [.a ((cR a++cR b++cR c))] [dR (a*a-b*b*c)]:=by have J:Rz 6000000 a:=E.m_;have kb:Rz 6000000 b:=j.m_;have R:Rz 6000000 c:=I.m_;refine cj Tryz.func333 rfl<|cE 10 [] ?_;refine aG rfl (x5 (aU E)) ?_;refine aG rfl (x5 (aU j)) ?_;refine aG rfl (cY (aU (aW j j)) (aU I)) ?_;refine aG rfl (nh (aU (aW E E)) (aU (aW (aW j j) I))) ?_;exact ah (a7 bV rfl aa)
theorem pe (ha:Rz 1000000 a) (R:Rz 1000000 b) (W:Rz 1000000 c):Ok Tryz.prog 303 [.a ((cR a++cR b++cR c))] [.c (.i .i64 (s3 a b c))]:=by
 refine cj Tryz.func303 rfl<|cE 8 [] ?_;refine aG rfl (bX) ?_;refine aG rfl (bX) ?_;refine jC (aQ rfl) (fun c1 I=>?_);cases c1
 ·refine cU rfl (fun j=>?_) (fun j=>?_)
  ·refine ah ?_;rw[aga j];exact aj aa
  ·refine cU rfl (fun E=>?_) (fun E=>?_)
   ·refine ah ?_;rw[aa4 I j,if_pos (i_eq E)];exact aj aa
   ·refine ac rfl (A8 (by assumption) (by assumption) (by assumption))<|ac rfl (bX) ?_;refine cU rfl (fun J=>?_) (fun J=>?_)
    ·refine ah ?_;rw[aa4 I j,if_neg (ae7 E),if_pos (agM J)];exact aj aa
    ·refine ah ?_;rw[aa4 I j,if_neg (ae7 E),if_neg (aeB J)];exact aj aa
 ·refine vr rfl<|ah ?_;rw[ag5 I];exact aj aa
theorem oh:Ok Tryz.prog 96 [dR a,dR b,dR c] [.a ((cR a++cR (rB b c)++cR (rC b c)))]:=by
 refine cj Tryz.func96 rfl<|ac rfl (jj) ?_;refine jC (aQ rfl) (fun c1 E=>?_);cases c1
 ·refine ac rfl (jj) ?_;refine cU rfl (fun j=>?_) (fun j=>?_)
  ·refine ac rfl (mq) ?_;refine ah ?_;rw[JZ (.inr (tY j)),JI (.inr (tY j))];exact a7 jG rfl aa
  ·refine ar (az (us:=(cR a++cR b++cR c)) Cu Aj rfl rfl rfl) ?_;refine ah ?_;rw[aaj (tg E) (tg j),aba (tg E) (tg j)];exact a7 jG rfl aa
 ·refine vr rfl ?_;refine ac rfl (mq) ?_;refine ah ?_;rw[JZ (.inl (tY E)),JI (.inl (tY E))];exact a7 jG rfl aa
theorem xU (J:Rz 6000000 c) (R:Rz 6000000 f) (I: ¬Um b c e f):Ok Tryz.prog 365 [.a ((cR a++cR b++cR c)),.a ((cR d++cR e++cR f))] [dR (cc b c f),.c (.b true)]:=by
 refine cj Tryz.func365 rfl<|ac rfl (bX) ?_;refine cU rfl (fun j=>?_) (fun j=>?_)
 ·refine ah ?_;rw[Ho (tY j)];exact a7 bV rfl (aj aa)
 ·refine cE 16 [4,999999] ?_;refine aG rfl (bX) ?_;refine sL (aQ rfl) (fun c2 E=>?_);cases c2
  ·refine aG rfl (gZ (aU J) (aU R)) ?_;refine DQ.mk<|kJ (fJ bV rfl) rfl rfl rfl rfl<|ek ?_;refine ah ?_;rw[zn (tg j),aa8 I (tg j) (tg E)];exact a7 bV rfl (aj aa)
  ·refine DQ.mk<|Ig (fJ bV rfl) rfl rfl (by kernel_rfl) rfl<|ek ?_;refine ah ?_;rw[zn (tg j)];exact a7 bV rfl (aj aa)
theorem NU (R:Rz 1000000 a) (E:Rz 1000000 b) (hc:Rz 1000000 c) (j:Rz 1000000 d) (J:Rz 1000000 e) (W:Rz 1000000 f) (I: ¬Um b c e f):Ok Tryz.prog 361 [.a ((cR a++cR b++cR c)),.a ((cR d++cR e++cR f))] [.a ((cR (a+d)++cR (rB (b+e) (cc b c f))++cR (rC (b+e) (cc b c f)))),.c (.i .i64 0)]:=by have ka:Rz 6000000 a:=R.m_;have kb:Rz 6000000 b:=E.m_;have kc:Rz 6000000 c:=hc.m_;have kd:Rz 6000000 d:=j.m_;have ke:Rz 6000000 e:=J.m_;have kf:Rz 6000000 f:=W.m_;refine cj Tryz.func361 rfl<|ac rfl (xU (by assumption) (by assumption) (by assumption))<|nM rfl<|cE 12 [] ?_;refine aG rfl (gC (aU R) (aU j)) ?_;refine aG rfl (gC (aU E) (aU J)) ?_;refine aG rfl (oh) ?_;exact ah (a7 jG rfl (aj aa))
theorem EU (R:Rz 1000000 a) (j:Rz 1000000 b) (hc:Rz 1000000 c) (J:Rz 1000000 d) (E:Rz 1000000 e) (hf:Rz 1000000 f) (W: ¬Um b c e f):Ok Tryz.prog 338 [.a ((cR a++cR b++cR c)),.a ((cR d++cR e++cR f))] [.a ((cR (a*d+b*e*cc b c f)++cR (rB (a*e+b*d) (cc b c f))++cR (rC (a*e+b*d) (cc b c f)))),.c (.i .i64 0)]:=by
 have ka:Rz 6000000 a:=R.m_;have kb:Rz 6000000 b:=j.m_;have kc:Rz 6000000 c:=hc.m_;have kd:Rz 6000000 d:=J.m_;have ke:Rz 6000000 e:=E.m_;have kf:Rz 6000000 f:=hf.m_;have I:Rz 1000000 (cc b c f):=by unfold cc;split<;>assumption
 have z1:Rz 6000000 (b*e):=(aW j E).m_;have z2:Rz 6000000 (cc b c f):=I.m_;have z3:Rz 6000000 (b*e*cc b c f):=(aW (aW j E) I).m_;refine cj Tryz.func338 rfl<|ac rfl (xU (by assumption) (by assumption) (by assumption))<|nM rfl<|cE 14 [] ?_;refine aG rfl (cY (by first|assumption|exact fp R (by decide)) (by first|assumption|exact fp J (by decide))) ?_;refine aG rfl (cY (by first|assumption|exact fp j (by decide)) (by first|assumption|exact fp E (by decide))) ?_;refine aG rfl (cY (by first|assumption|exact fp (aW j E) (by decide)) (by first|assumption|exact fp (by assumption) (by decide))) ?_;refine aG rfl (gC (by first|assumption|exact fp (aW R J) (by decide)) (by first|assumption|exact fp (aW (aW j E) (by assumption)) (by decide))) ?_;refine cE 12 [] ?_;refine aG rfl (cY (by first|assumption|exact fp R (by decide)) (by first|assumption|exact fp E (by decide))) ?_;refine aG rfl (cY (by first|assumption|exact fp j (by decide)) (by first|assumption|exact fp J (by decide))) ?_;refine aG rfl (gC (by first|assumption|exact fp (aW R E) (by decide)) (by first|assumption|exact fp (aW j J) (by decide))) ?_;refine ac rfl (oh) ?_;exact ah (a7 jG rfl (aj aa))
theorem lX (E:Rz 6000000 a) (j:Rz 6000000 d):Ok Tryz.prog 334 [.a ((cR a++cR b++cR c)),dR d] [.a ((cR (a+d)++cR b++cR c))]:=by refine cj Tryz.func334 rfl<|cE 9 [] ?_;refine aG rfl (gC (aU E) (aU j)) ?_;refine aq (az (us:=(cR (a+d)++cR b++cR c)) Cu Aj rfl rfl rfl) ?_;exact ah (a7 jG rfl aa)
theorem uV (R:Rz 300 a1) (j:Rz 300 b1) (a0:Rz 300 a2) (E:Rz 300 b2) (W:Rz 300 c):Ok Tryz.prog 153 [.a ((cR a1++cR b1++cR a2++cR b2++cR c))] [.c (.b (s9 b1 b2 c))]:=by
 refine cj Tryz.func153 rfl ?_;refine ac rfl (jk (aU R)) ?_;refine ar (aQ rfl) ?_;refine ac rfl (jk (aU a0)) ?_;refine ar (aQ rfl) ?_;refine ac rfl (jk (aU j)) ?_;refine ar (aQ rfl) ?_;refine ac rfl (jk (aU E)) ?_;refine ar (aQ rfl) ?_;refine ac rfl (jk (aU W)) ?_;refine nM rfl ?_;refine ac rfl (jj) ?_;refine jC (aQ rfl) (fun c1 j=>?_);cases c1
 ·refine nM rfl<|ac rfl (Bc (aU W))<|ac rfl (jj) ?_;refine jC (aQ rfl) (fun c2 E=>?_);cases c2
  ·refine ah ?_;rw[YN j,E,pU];exact aj aa
  ·refine ah ?_;rw[YN j,E,iI];exact aj aa
 ·refine ac rfl (jj) ?_;refine cU rfl (fun I=>?_) (fun I=>?_)
  ·refine ac rfl (jj)<|ah ?_;rw[afx j I];exact aj aa
  ·refine ac rfl (Bc (aU W))<|ac rfl (jj) ?_;refine jC (aQ rfl) (fun c4 J=>?_);cases c4
   ·refine ah ?_;rw[YH I,J,pU];exact aj aa
   ·refine ah ?_;rw[YH I,J,iI];exact aj aa
def Dr (a b c p q r:Rat):Int:=km (a-p) b (-q) 0 (zc b c) (zc q r)
def qV (a1 b1 a2 b2 c p1 q1 p2 q2 r:Rat):Int:=if Dr a1 b1 c p1 q1 r≠0 then Dr a1 b1 c p1 q1 r else Dr a2 b2 c p2 q2 r
theorem UY {r:Rat}(h:(Dr a1 b1 c p1 q1 r !=0)=true):qV a1 b1 a2 b2 c p1 q1 p2 q2 r=Dr a1 b1 c p1 q1 r:=by unfold qV;rw[if_pos (by simpa using h)]
theorem Xu {r:Rat}(h:(Dr a1 b1 c p1 q1 r !=0)=false):qV a1 b1 a2 b2 c p1 q1 p2 q2 r=Dr a2 b2 c p2 q2 r:=by unfold qV;rw[if_neg (by simpa using h)]
theorem Rz.zero {k:Nat}(j:1<=k):Rz k (0:Rat):=⟨⟨by have:=dP k;rw[Rat.zero_num];omega,by have:=dP k;rw[Rat.zero_num];omega⟩,by rw[Rat.zero_den];exact Sz.one j⟩
theorem Rz.zc {k:Nat}(h:Rz k c) (j:1<=k):Rz k (zc b c):=by
 unfold Go.Proofs.YtegeknjkgadehaaGreat.zc;split;·exact Rz.zero j
 ·exact h
def rt (c:Rat):Rat:=Rat.divInt (bp c.num) (bp (c.den:Int))
theorem UB (h:jB c=true):dQ (if jB c then bp c.num else 0) (if jB c then bp (c.den:Int) else 0)=dR (rt c):=by
 rw[if_pos h,if_pos h];unfold jB At at h;simp only[de,beq_iff_eq] at h;obtain⟨R,W⟩:=h;have d0:=eD (c.den:Int);have dp:=den_pos c;have I:0<bp (c.den:Int):=by grind
 have E:Int.gcd (bp c.num) (bp (c.den:Int))=1:=by
  have J:Int.gcd c.num (c.den:Int)=1:=c.reduced;have j:Int.gcd (bp c.num) (bp (c.den:Int))∣Int.gcd c.num (c.den:Int):=by
   refine Int.dvd_gcd ?_ ?_
   ·have t:((Int.gcd (bp c.num) (bp (c.den:Int)):Nat):Int)∣bp c.num*bp c.num:=Int.dvd_mul_of_dvd_left (Int.gcd_dvd_left ..);rw[R] at t;exact t
   ·have t:((Int.gcd (bp c.num) (bp (c.den:Int)):Nat):Int)∣bp (c.den:Int)*bp (c.den:Int):=Int.dvd_mul_of_dvd_left (Int.gcd_dvd_right ..);rw[W] at t;exact t
  rw[J] at j;exact Nat.dvd_one.1 j
 exact(AA I (by rw[E];rfl)).symm
def Wh (x:Nat->Rat):Prop:= ∀e:Rat,0<e-> ∃K:Nat,∀i j,K<=i->K<=j->x i-x j<=e
def I5 (x:Nat->Rat):Prop:= ∃e:Rat,0<e/\ ∃K:Nat,∀k,K<=k->e<=x k
def OD (x:Nat->Rat):Prop:= ∀e:Rat,0<e-> ∃K:Nat,∀k,K<=k-> -e<=x k/\x k<=e
structure Re where
 s:Nat->Rat
 c:Wh s
theorem Re.ext {x y:Re}(h: ∀k,x.s k=y.s k):x=y:=by cases x;cases y;have:_=_:=funext h;subst this;rfl
theorem nG (h:0<e):0<e/2:=by grind
theorem I3 (h:0<e) (j:0<B):0<e/B/\B*(e/B)=e:=by refine⟨?_,by grind⟩;exact Rat.mul_pos h (Rat.inv_pos.2 j)
theorem Re.bnd (x:Re): ∃B:Rat,0<B/\ ∃K:Nat,∀k,K<=k-> -B<=x.s k/\x.s k<=B:=by
 obtain⟨K,h⟩:=x.c 1 (by decide);by_cases hs:0<=x.s K;·exact⟨x.s K+1,by grind,K,fun k j=>by have E:=h k K j (bd _);have I:=h K k (bd _) j;constructor<;>grind⟩
 ·exact⟨1-x.s K,by grind,K,fun k j=>by have E:=h k K j (bd _);have I:=h K k (bd _) j;constructor<;>grind⟩
theorem DU (q:Rat):Wh (fun _=>q):=fun e E=>⟨0,fun i j _ _=>by grind⟩
theorem Vy {x y:Nat->Rat}(I:Wh x) (J:Wh y):Wh (fun k=>x k+y k):=fun e E=>by obtain⟨K,h⟩:=I (e/2) (nG E);obtain⟨L,g⟩:=J (e/2) (nG E);exact⟨max K L,fun i j hi hj=>by have R:=h i j (by omega) (by omega);have W:=g i j (by omega) (by omega);grind⟩
theorem V7 {x:Nat->Rat}(E:Wh x):Wh (fun k=> -x k):=fun e I=>by obtain⟨K,h⟩:=E e I;exact⟨K,fun i j hi J=>by have R:=h j i J hi;grind⟩
theorem KV (J: -e<=a) (R:a<=e) (E: -f<=b) (j:b<=f):a*b<=e*f/\ -(e*f)<=a*b:=by have p1:0<=(e-a)*(f+b):=n6 (by grind) (by grind);have p2:0<=(e+a)*(f-b):=n6 (by grind) (by grind);have W:0<=(e-a)*(f-b):=n6 (by grind) (by grind);have I:0<=(e+a)*(f+b):=n6 (by grind) (by grind);grind
theorem Wm (x y:Re):Wh (fun k=>x.s k*y.s k):=fun e E=>by obtain⟨B,I,K,W⟩:=x.bnd;obtain⟨D,hD,L,R⟩:=y.bnd;obtain⟨d1,e1⟩:=I3 (nG E) I;obtain⟨d2,e2⟩:=I3 (nG E) hD;obtain⟨J,h⟩:=x.c _ d2;obtain⟨L',g⟩:=y.c _ d1;refine⟨max (max K L) (max J L'),fun i j hi hj=>?_⟩;have b1:=W i (by omega);have b2:=R j (by omega);have h1:=h i j (by omega) (by omega);have h2:=h j i (by omega) (by omega);have g1:=g i j (by omega) (by omega);have g2:=g j i (by omega) (by omega);have p1:=(KV b1.1 b1.2 (a:=x.s i) (b:=y.s i-y.s j) (f:=e/2/B) (by grind) (by grind)).1;have p2:=(KV b2.1 b2.2 (a:=y.s j) (b:=x.s i-x.s j) (f:=e/2/D) (by grind) (by grind)).1;rw[e1] at p1;rw[e2] at p2;grind
def Re.of (q:Rat):Re:=⟨fun _=>q,DU q⟩
instance:Add Re:=⟨fun x y=>⟨fun k=>x.s k+y.s k,Vy x.c y.c⟩⟩
instance:Neg Re:=⟨fun x=>⟨fun k=> -x.s k,V7 x.c⟩⟩
instance:_root_.Sub Re:=⟨fun x y=>x+ -y⟩
instance:Mul Re:=⟨fun x y=>⟨fun k=>x.s k*y.s k,Wm x y⟩⟩
theorem bN (x y:Re) (k:Nat):(x+y).s k=x.s k+y.s k:=rfl
theorem cn (x:Re) (k:Nat):(-x).s k= -x.s k:=rfl
theorem bt (x y:Re) (k:Nat):(x-y).s k=x.s k+ -y.s k:=rfl
theorem bW (x y:Re) (k:Nat):(x*y).s k=x.s k*y.s k:=rfl
theorem db (q:Rat) (k:Nat):(Re.of q).s k=q:=rfl
theorem lg (x:Re):I5 x.s\/OD x.s\/I5 (-x).s:=by
 by_cases E:OD x.s;·grind
 ·unfold OD at E;obtain⟨e,E⟩:=y6.1 E;obtain⟨R,E⟩:=yB.1 E;obtain⟨K,h⟩:=x.c (e/2) (nG R);have J:=not_exists.1 E K;obtain⟨k,I⟩:=y6.1 J;obtain⟨hk,a0⟩:=yB.1 I;by_cases h1:e<x.s k;·exact .inl ⟨e/2,nG R,K,fun j W=>by have:=h k j hk W;grind⟩
  ·have h2:x.s k< -e:=by apply jZ;grind
   exact .inr (.inr ⟨e/2,nG R,K,fun j W=>by rw[cn];have:=h j k W hk;grind⟩)
section
variable {x y z:Re}
theorem W7 (h:I5 x.s): ¬I5 (-x).s:=fun g=>by obtain⟨e,J,K,h⟩:=h;obtain⟨f,E,L,g⟩:=g;have I:=h (max K L) (by omega);have j:=g (max K L) (by omega);rw[cn] at j;grind
theorem zS (h:I5 x.s): ¬OD x.s:=fun g=>by obtain⟨e,j,K,h⟩:=h;obtain⟨L,g⟩:=g (e/2) (nG j);have E:=h (max K L) (by omega);have I:=g (max K L) (by omega);grind
theorem F5 (h:OD x.s):OD (-x).s:=fun e E=>by obtain⟨K,h⟩:=h e E;exact⟨K,fun k j=>by rw[cn];have:=h k j;constructor<;>grind⟩
theorem WU (h:OD x.s) (g:OD y.s):OD (x+y).s:=fun e j=>by obtain⟨K,h⟩:=h (e/2) (nG j);obtain⟨L,g⟩:=g (e/2) (nG j);exact⟨max K L,fun k E=>by rw[bN];have:=h k (by omega);have:=g k (by omega);constructor<;>grind⟩
theorem zH (h:I5 x.s) (g:OD y.s):I5 (x+y).s:=by obtain⟨e,j,K,h⟩:=h;obtain⟨L,g⟩:=g (e/2) (nG j);exact⟨e/2,nG j,max K L,fun k E=>by rw[bN];have:=h k (by omega);have:=g k (by omega);grind⟩
theorem LI (h:I5 x.s) (g:I5 y.s):I5 (x+y).s:=by obtain⟨e,j,K,h⟩:=h;obtain⟨f,E,L,g⟩:=g;exact⟨e,j,max K L,fun k I=>by rw[bN];have:=h k (by omega);have:=g k (by omega);grind⟩
theorem AR (h:I5 x.s) (g:I5 y.s):I5 (x*y).s:=by obtain⟨e,E,K,h⟩:=h;obtain⟨f,j,L,g⟩:=g;refine⟨e*f,Rat.mul_pos E j,max K L,fun k I=>?_⟩;rw[bW];have p1:0<=(x.s k-e)*f:=n6 (by grind) (by grind);have p2:0<=x.s k*(y.s k-f):=n6 (by grind) (by grind);grind
theorem x8 (x:Re) (g:OD y.s):OD (x*y).s:=fun e W=>by obtain⟨B,R,K,I⟩:=x.bnd;obtain⟨J,e1⟩:=I3 W R;obtain⟨L,g⟩:=g _ J;refine⟨max K L,fun k hk=>?_⟩;rw[bW];have j:=I k (by omega);have E:=g k (by omega);have p:=KV j.1 j.2 E.1 E.2;rw[e1] at p;exact⟨p.2,p.1⟩
theorem NI (x:Re): - -x=x:=Re.ext fun k=>by rw[cn,cn];grind
theorem uO (x y:Re):x*y=y*x:=Re.ext fun k=>by rw[bW,bW];grind
theorem Nv (x y:Re): -(x*y)= -x*y:=Re.ext fun k=>by rw[cn,bW,bW,cn];grind
theorem Ou (x y:Re): -(x*y)=x* -y:=Re.ext fun k=>by rw[cn,bW,bW,cn];grind
theorem D2 (x y:Re): -(x+y)= -x+ -y:=Re.ext fun k=>by rw[cn,bN,bN,cn,cn];grind
noncomputable def bz (x:Re):Int:=open Classical in if I5 x.s then 1 else if I5 (-x).s then-1 else 0
theorem nQ:bz x=1↔I5 x.s:=by
 unfold bz;split;·rename_i h;simp[h]
 ·rename_i h;split<;>simp[h]
theorem nB:bz x= -1↔I5 (-x).s:=by
 unfold bz;split;·rename_i h;simp[W7 h]
 grind
theorem mD:bz x=0↔OD x.s:=by
 unfold bz;split;·rename_i h;simp[zS h]
 ·rename_i h;split
  ·rename_i j;have E:=zS j;simp;exact fun g=>E (F5 g)
  ·rename_i j;simp;exact((lg x).resolve_left h).resolve_right j
theorem cZ (x:Re):bz x=1\/bz x=0\/bz x= -1:=by
 rcases lg x with h|h|h;·exact .inl (nQ.2 h)
 ·exact .inr (.inl (mD.2 h))
 ·exact .inr (.inr (nB.2 h))
theorem fu (x:Re):bz (-x)= -bz x:=by
 rcases lg x with h|h|h;·rw[nQ.2 h,nB,NI];exact h
 ·rw[mD.2 h,mD.2 (F5 h)];rfl
 ·rw[nB.2 h,nQ.2 h];rfl
theorem di (x y:Re):bz (x*y)=bz x*bz y:=by
 rcases lg x with h|h|h<;>rcases lg y with g|g|g;·rw[nQ.2 h,nQ.2 g,nQ.2 (AR h g)];rfl
 ·rw[nQ.2 h,mD.2 g,mD.2 (x8 x g)];rfl
 ·rw[nQ.2 h,nB.2 g,Int.one_mul,nB,Ou];exact AR h g
 ·rw[mD.2 h,oL,mD,uO];exact x8 y h
 ·rw[mD.2 h,oL,mD,uO];exact x8 y h
 ·rw[mD.2 h,oL,mD,uO];exact x8 y h
 ·rw[nB.2 h,nQ.2 g,Int.mul_one,nB,Nv];exact AR h g
 ·rw[nB.2 h,mD.2 g,mD.2 (x8 x g)];rfl
 ·rw[nB.2 h,nB.2 g];have e:x*y= -x* -y:=Re.ext fun k=>by rw[bW,bW,cn,cn];grind
  rw[e,nQ.2 (AR h g)];rfl
theorem dT (x:Re) (h:bz y=0):bz (x+y)=bz x:=by
 have g:=mD.1 h;rcases lg x with h|h|h;·rw[nQ.2 h,nQ.2 (zH h g)]
 ·rw[mD.2 h,mD.2 (WU h g)]
 ·rw[nB.2 h,nB,D2];exact zH h (F5 g)
theorem K8 (x y:Re):x+y=y+x:=Re.ext fun k=>by rw[bN,bN];grind
theorem oX (h:bz x=0) (y:Re):bz (x+y)=bz y:=by rw[K8];exact dT y h
theorem lT (h:bz x=bz y):bz (x+y)=bz x:=by
 rcases cZ x with g|g|g;·rw[g,nQ];exact LI (nQ.1 g) (nQ.1 (h.symm.trans g))
 ·rw[dT x (h.symm.trans g)]
 ·rw[g,nB,D2];exact LI (nB.1 g) (nB.1 (h.symm.trans g))
theorem BY (h:0<=bz x) (g:0<=bz y):0<=bz (x+y):=by
 rcases cZ x with a|a|a
 ·rcases cZ y with b|b|b;·rw[lT (a.trans b.symm)];exact h
  ·rw[dT x b];exact h
  grind
 ·rw[oX a];exact g
 grind
theorem Gb (h:0<bz x) (g:0<=bz y):0<bz (x+y):=by
 rcases cZ y with b|b|b
 ·rcases cZ x with a|a|a;·rw[lT (a.trans b.symm)];exact h
  ·omega
  grind
 ·rw[dT x b];exact h
 grind
theorem q7 (h:bz (x-y)=0):bz x=bz y:=by
 have e:x=(x-y)+y:=Re.ext fun k=>by rw[bN,bt];grind
 rw[e];exact oX h y
theorem gI (q:Rat):bz (Re.of q)=aJ q 0:=by
 unfold aJ;split
 ·rename_i h;exact nB.2 ⟨-q,by grind,0,fun k _=>by rw[cn,db];grind⟩
 ·split;·rename_i h;exact nQ.2 ⟨q,h,0,fun k _=>by rw[db];grind⟩
  ·exact mD.2 fun e j=>⟨0,fun k _=>by rw[db];constructor<;>grind⟩
end
theorem H4 {X Y r n:Re}(hr:0<=bz r) (I:bz (r*r-n)=0):bz (X+Y*r)=qf (bz X) (bz Y*bz n) (bz (X*X-Y*Y*n)):=by
 have E:bz r=bz n:=by
  have W:=q7 I;rw[di] at W;rcases cZ r with h|h|h;·grind
  ·grind
  grind
 have ht:bz (Y*r)=bz Y*bz n:=by rw[di,E]
 rw[<-ht];unfold qf;split
 ·rename_i h;rcases h with h|h;·exact dT X h
  ·exact lT h
 ·rename_i h;split;·rename_i J;exact oX J _
  ·rename_i J;have j:bz (Y*r)= -bz X:=by have a:=cZ X;have b:=cZ (Y*r);omega
   have R:bz (X+ -(Y*r))=bz X:=lT (by rw[fu,j];omega);have e1:bz ((X+Y*r)*(X+ -(Y*r)))=bz (X*X-Y*Y*n):=by
    refine q7 ?_;have e:(X+Y*r)*(X+ -(Y*r))-(X*X-Y*Y*n)= -(Y*Y)*(r*r-n):=Re.ext fun k=>by simp only[bt,bW,bN,cn];grind
    rw[e,di,I,si]
   rw[di,R] at e1;have a:=cZ X;grind
end Go.Proofs.YtegeknjkgadehaaGreat
