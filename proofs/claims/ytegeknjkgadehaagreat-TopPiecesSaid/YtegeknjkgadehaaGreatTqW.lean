/-A run on known values:append,clear. -/
import Derived.Test.YtegeknjkgadehaaGreatTqV
namespace Go.Proofs.YtegeknjkgadehaaGreat
open Go Go.RowKit
variable {a:Act}{ys:Array Operand}{ts:Array TypeId}{vs:Array Value}{b:Bool}{lr lw:D3}{H H1 H2 Hv Hv' Hw Hw':HF}{kk:IntKind}{κ:LX->Tr XV->Nat->Tr Bx->Lg->Ro}{g:Lg}{cs us zs:List AV}{er olds:List Value}{xs:List XO}{N1 N2 bl by_ k k' k0 mk n off q sz t:Nat}{β:Nat->Pl}{A A' V Z:Nat->Prop}{y z:Operand}{d:Option Nat}{T1 T2:TX}{H' K K':Tr Bx}{U W e:TypeId}{v:Value}{w w':World}{i:XI}{xo yo:XO}{x:XV}
theorem BW:type_of% @List.getD_eq_getElem?_getD:=@List.getD_eq_getElem?_getD
section
variable {P:Program}{eO:Array Oper}{o:Oper}{TT:TX}{m N:Nat}{L:LX}{T:Tr XV}{H:Tr Bx}{x:XV}
variable {N':Nat}{H':Tr Bx}{g:Lg}{call:fV}
variable {dst:Option Nat}{ty:TypeId}{pos:String}{af:Array Edge}{gd:Option (Nat×Bool)}
variable {V A A':Nat->Prop}{Hm Hn:HF}{β β':Nat->Pl}{w w':World}
theorem Hst.less (h:Hst N N' A Hm β w Hn β' w') (hs: ∀k c,H2 k=some c->Hn k=some c):Hst N N' A Hm β w H2 β' w':=by
 have D: ∀k,H2 k≠none->Hn k≠none:=fun k j=>by
  cases e:H2 k with
  |none=>exact absurd e j
  |some c=>rw[hs k c e];simp
 exact⟨h.os,h.tape,h.output,h.size,h.blk,h.same,fun k j=>h.own k (D k j),fun k j=>h.nam k (D k j)⟩
theorem IS (hm:Mem V A Hm β w):Mem V A Hm β w.drew:=by refine⟨hm.vlt,hm.dom,hm.lt,hm.inj,hm.clr,fun k U cs I=>?_⟩;obtain⟨vs,h1,D,R,J⟩:=hm.box k U cs I;have j:Keep (Zs V Hm β) (Zs V Hm β) w w.drew:=⟨Nat.le_refl _,fun _ _ _=>rfl,fun _ _ h=>h⟩;exact⟨vs,h1,D,R,J.mono j (fun _ h=>h) (fun _ _=>rfl)⟩
theorem YR (hm:Mem V A Hm β w) (hN: ∀k,A k->k≠N) (hl:cs.length<=vs.size) (hr:RdAs A (Zs V Hm β) w β (vs.toList.take cs.length) cs):Mem V (fun k=>A k\/k=N) (fun k=>if k=N then some (U,cs) else Hm k) (fun k=>if k=N then⟨w.heap.size,vs.size⟩ else β k) (w.alloc (.cells vs U))/\ Hst N (N+1) A Hm β w (fun k=>if k=N then some (U,cs) else Hm k) (fun k=>if k=N then⟨w.heap.size,vs.size⟩ else β k) (w.alloc (.cells vs U)):=by
 have I: ∀k,(if k=N then some (U,cs) else Hm k)≠none->k≠N->Hm k≠none:=by grind
 have hH:Hst N (N+1) A Hm β w (fun k=>if k=N then some (U,cs) else Hm k) (fun k=>if k=N then⟨w.heap.size,vs.size⟩ else β k) (w.alloc (.cells vs U)):=by
  refine⟨rfl,rfl,rfl,by simp,fun b hb _=>wx _ _ _ hb,fun k j=>if_neg (hN k j),fun k j=>?_,fun k j=>?_⟩;·grind
  grind
 have J:=hH.keep hm
 refine⟨⟨fun b hb=>by rw[d8];exact Nat.lt_succ_of_lt (hm.vlt b hb),fun k j=>?_,fun k j=>?_,fun k l j hl e=>?_,fun k j hv=>?_,fun k U' cs' j=>?_⟩,hH⟩
 .by_cases e:k=N
  .grind
  .exact .inl (hm.dom k (I k j e))
 .rw[d8]
  rcases j with j|j
  .rw[if_neg (hN k j)];exact Nat.lt_succ_of_lt (hm.lt k j)
  grind
 .by_cases e1:k=N<;>by_cases R:l=N
  .grind
  .rw[if_pos e1,if_neg R] at e
   have:=hm.lt l (hm.dom l (I l hl R))
   grind
  .rw[if_neg e1,if_pos R] at e
   have:=hm.lt k (hm.dom k (I k j e1))
   grind
  .rw[if_neg e1,if_neg R] at e
   exact hm.inj k l (I k j e1) (I l hl R) e
 .by_cases e:k=N
  .rw[if_pos e] at hv;exact Nat.lt_irrefl _ (hm.vlt _ hv)
  .rw[if_neg e] at hv;exact hm.clr k (I k j e) hv
 .have D:(if k=N then some (U,cs) else Hm k)=some (U',cs'):=j
  by_cases e:k=N
  .rw[if_pos e] at D
   injection D with D
   injection D with h1 h2
   subst h1 h2
   rw[if_pos e]
   exact⟨vs,heap_alloc_new w _,rfl,hl,hr.mono J (fun _ h=>.inl h) hH.same⟩
  .rw[if_neg e] at D
   obtain⟨a3,e1,R,e3,e4⟩:=hm.box k U' cs' D
   rw[if_neg e]
   exact⟨a3,(wx _ _ _ (hm.lt k (hm.dom k (by rw[D];simp)))).trans e1,R,e3,e4.mono J (fun _ h=>.inl h) hH.same⟩
theorem X3 (hm:Mem V A Hm β w) (hN: ∀k,A k->k≠N) (R:Hm k0=some (U,cs)):Mem V (fun k=>A k\/k=N) (fun k=>if k=N then some (U,cs) else if k=k0 then none else Hm k) (fun k=>if k=N then β k0 else β k) w/\ Hst N (N+1) A Hm β w (fun k=>if k=N then some (U,cs) else if k=k0 then none else Hm k) (fun k=>if k=N then β k0 else β k) w:=by
 have D: ∀k,(if k=N then some (U,cs) else if k=k0 then none else Hm k)≠none->k≠N->k≠k0/\Hm k≠none:=fun k j e=>by grind
 have hH:Hst N (N+1) A Hm β w (fun k=>if k=N then some (U,cs) else if k=k0 then none else Hm k) (fun k=>if k=N then β k0 else β k) w:=by
  refine⟨rfl,rfl,rfl,bk _,fun _ _ _=>rfl,fun k j=>if_neg (hN k j),fun k j=>?_,fun k j=>?_⟩;·grind
  grind
 have J:=hH.keep hm
 refine⟨⟨hm.vlt,fun k j=>?_,fun k j=>?_,fun k l j hl e=>?_,fun k j hv=>?_,fun k U' cs' j=>?_⟩,hH⟩
 .by_cases e:k=N
  .grind
  .exact .inl (hm.dom k (D k j e).2)
 .rcases j with j|j
  .rw[if_neg (hN k j)];exact hm.lt k j
  .rw[if_pos j];exact hm.lt k0 (hm.dom k0 (by rw[R];simp))
 .by_cases e1:k=N<;>by_cases e2:l=N
  .grind
  .rw[if_pos e1,if_neg e2] at e
   exact absurd (hm.inj k0 l (by rw[R];simp) (D l hl e2).2 e).symm (D l hl e2).1
  .rw[if_neg e1,if_pos e2] at e
   exact absurd (hm.inj k k0 (D k j e1).2 (by rw[R];simp) e) (D k j e1).1
  .rw[if_neg e1,if_neg e2] at e
   exact hm.inj k l (D k j e1).2 (D l hl e2).2 e
 .by_cases e:k=N
  .rw[if_pos e] at hv;exact hm.clr k0 (by rw[R];simp) hv
  .rw[if_neg e] at hv;exact hm.clr k (D k j e).2 hv
 .have I:(if k=N then some (U,cs) else if k=k0 then none else Hm k)=some (U',cs'):=j
  by_cases e:k=N
  .rw[if_pos e] at I
   injection I with I
   injection I with h1 h2
   subst h1 h2
   rw[if_pos e]
   obtain⟨a3,e1,e2,e3,e4⟩:=hm.box k0 U cs R
   exact⟨a3,e1,e2,e3,e4.mono J (fun _ h=>.inl h) hH.same⟩
  .rw[if_neg e] at I
   by_cases e2:k=k0
   .grind
   .rw[if_neg e2] at I
    obtain⟨a3,e1,e3,e4,e5⟩:=hm.box k U' cs' I
    rw[if_neg e]
    exact⟨a3,e1,e3,e4,e5.mono J (fun _ h=>.inl h) hH.same⟩
theorem Pi {y:AV}{f:Nat->Rp->Option Rs}{r:Rs}(hu:P.underlying U=some (.slice e)) (hO:jJ H) (h:af0 H e sz y f=some r): ∃q ys,f q ys=some r/\ys.ok/\ys.flat.length=q*sz/\ (∀V A β w v,Mem V A (HS H) β w->RdA A (Zs V (HS H) β) w β v y-> ∃er,Src P sz U v q er w/\RdAs A (Zs V (HS H) β) w β er ys.flat)/\(q=0-> ∀A Z β w v,RdA A Z w β v y->Src P sz U v 0 [] w):=by
 have a5: ∀ {A Z:Nat->Prop}{β:Nat->Pl}{w:World}{v:Value},RdA A Z w β v .z->Src P sz U v 0 [] w:=fun h=>by rw[h.z_eq];exact Src.ofNil _ hu 0
 have R: ∀ {A Z:Nat->Prop}{β:Nat->Pl}{w:World}{v:Value},RdA A Z w β v .ev->Src P sz U v 0 [] w:=fun h=>by
  obtain⟨a,c,e1,_,_⟩:=h.ev_eq;rw[e1];cases a with
  |none=>exact Src.ofNil _ hu c
  |some a=>exact Src.ofSlice _ hu a 0 c [] (by simp) (fun j u J=>by simp at J) (fun _ h=>by cases h)
 rcases ll h with⟨k,off,q,lo,ex,m',rfl,h⟩|⟨rfl,h⟩|⟨rfl,h⟩
 .obtain⟨b,hb,h⟩:=aE h
  obtain⟨g1,h⟩:=bD h
  obtain⟨g2,h⟩:=bD h
  obtain⟨g3,a3⟩:=bD h
  rw[eL] at g3
  obtain⟨a6,a9⟩:=hO k b hb
  have b3:off+q*sz<=b.n:=g3
  obtain⟨k1,k2⟩:=kn b.r b.n off (q*sz) a6 a9 b3
  refine⟨q,iY b.r b.n off (q*sz),a3,k1,by rw[k2];simp;omega,fun V A β w v hm D=>?_,fun hq A Z β w v D=>?_⟩
  .obtain⟨c,e1,hk,c1,c2,c3,c4,c5⟩:=D.s_eq
   obtain⟨vs,ev,hz,hl,b4⟩:=hm.box k b.U b.r.flat (rm hb)
   have I:=(b4.drop off).take (q*sz)
   have a4:((vs.toList.take b.r.flat.length).drop off).take (q*sz)=(vs.toList.drop off).take (q*sz):=by rw[wH,xk,jh (by omega)]
   rw[a4] at I
   refine⟨(vs.toList.drop off).take (q*sz),?_,by rw[k2];exact I⟩
   rw[e1]
   refine Src.ofSlice w hu _ q c _ (by simp;omega) (fun j u J=>?_) I.one
   rw[fI]
   rw[kS] at J
   split at J
   .rw[bR ev,<-J];simp
   grind
  .obtain⟨c,e1,_⟩:=D.s_eq
   rw[e1,hq]
   exact Src.ofSlice w hu _ 0 c [] (by simp) (fun j u J=>by simp at J) (fun _ h=>by cases h)
 .exact⟨0,.e,h,trivial,by simp[Rp.flat],fun V A β w v _ D=>⟨[],a5 D,RdAs.nil⟩,fun _ A Z β w v D=>a5 D⟩
 .exact⟨0,.e,h,trivial,by simp[Rp.flat],fun V A β w v _ D=>⟨[],R D,RdAs.nil⟩,fun _ A Z β w v D=>R D⟩
theorem tH {y x:XV}{N':Nat}{H0 H1 H':Tr Bx}{g:Lg}(h:Xu y N1 H0 H1=some (.mk x N' H' g)):x=y/\N'=N1/\H'=H1/\g=.c H0 H1:=by unfold Xu at h;grind
theorem AB (R:Bc x) (J:jJ H') (I:jN N' H') (D:N<=N') (j:agQ P eO o TT ⟨x,HS H,HS H',N,N'⟩):gV P eO o TT N H x N' H' (.c H H'):=by have hf:Foot N N' H H' (HS H) (HS H') (.c H H'):=⟨rfl,rfl,rfl,rfl⟩;refine⟨D,R,J,I,HS H,HS H',j,fun k c h=>h,fun k c h=>?_,hf⟩;unfold iK;rw[h]
theorem pD {w w':World}(h:(Builtin.append_ #[U,U] ty #[a.eval y,a.eval z]).run P w=.ok v w'):(execOp a.eval ⟨dst,.call ⟨.builtin .append,#[y,z],#[U,U]⟩,ty,pos,af,gd⟩).run P w=.ok (.value v) w':=by simp only[execOp,resolve,invoke,builtin,fh,dA,ft,qe,lQ,qv];rw[h];rfl
theorem yX (hm:Mem V A Hm β w) (hN: ∀k,A k->k≠N) {i:TypeInfo}{z:Value}(J:z.cells.size=i.size) {c':Nat} (hl:(olds++er).length=(n+q)*i.size) (hr:RdAs A (Zs V Hm β) w β (olds++er) us) (I:n+q<=c') (a6:c'<=maxLen):∃A' β',(∀k,A k->A' k)/\(∀k,A' k->Ad A N (N+1) k)/\Mem V A' (fun k=>if k=N then some (e,us) else Hm k) β' (w.drew.alloc (.cells ((olds++er).toArray++Builtin.zeroCells z.cells (c'-(n+q))) e))/\ Hst N (N+1) A Hm β w (fun k=>if k=N then some (e,us) else Hm k) β' (w.drew.alloc (.cells ((olds++er).toArray++Builtin.zeroCells z.cells (c'-(n+q))) e))/\ ∀Z w',RdA A' Z w' β' (.slice (some ⟨w.heap.size,0,none⟩) (n+q) c') (.s N 0 (n+q) (n+q) false i.size):=by
 have a5:us.length=(n+q)*i.size:=by rw[<-hr.1,hl]
 have a3:(Builtin.zeroCells z.cells (c'-(n+q))).size=(c'-(n+q))*i.size:=by unfold Builtin.zeroCells;simp[J]
 have a4:((olds++er).toArray++Builtin.zeroCells z.cells (c'-(n+q))).size=c'*i.size:=by rw[Array.size_append,a3];show(olds++er).length+_=_;rw[hl,<-mS];congr 1;omega
 obtain⟨m1,j⟩:=YR (IS hm) hN (by rw[a4,a5];exact nD _ I) (by
  have e1:((olds++er).toArray++Builtin.zeroCells z.cells (c'-(n+q))).toList.take us.length=olds++er:=by grind
  rw[e1];have R:Keep (Zs V Hm β) (Zs V Hm β) w w.drew:=⟨Nat.le_refl _,fun _ _ _=>rfl,fun _ _ h=>h⟩;exact hr.mono R (fun _ h=>h) (fun _ _=>rfl))
 refine⟨_,_,fun k D=>.inl D,fun k D=>?_,m1,⟨j.os,j.tape,j.output,j.size,j.blk,j.same,j.own,j.nam⟩,fun Z w'=>?_⟩
 .rcases D with D|D
  .exact .inl D
  .exact .inr ⟨Nat.le_of_eq D.symm,by omega⟩
 .have:=RdA.s (A:=fun k=>A k\/k=N) (Z:=Z) (w:=w') (β:=fun k=>if k=N then⟨w.drew.heap.size,((olds++er).toArray++Builtin.zeroCells z.cells (c'-(n+q))).size⟩ else β k) N 0 (n+q) (n+q) false i.size c' (.inr rfl) (bk _) I a6 (fun e=>by cases e) (by rw[if_pos rfl];show 0+c'*i.size<=((olds++er).toArray++Builtin.zeroCells z.cells (c'-(n+q))).size;omega)
  have e2:(if N=N then(⟨w.drew.heap.size,((olds++er).toArray++Builtin.zeroCells z.cells (c'-(n+q))).size⟩:Pl) else β N)=⟨w.drew.heap.size,((olds++er).toArray++Builtin.zeroCells z.cells (c'-(n+q))).size⟩:=if_pos rfl
  rw[e2] at this
  exact this
end
section
variable {P:Program}{eO:Array Oper}{o:Oper}{TT:TX}{m N:Nat}{L:LX}{T:Tr XV}{H:Tr Bx}{x:XV}
variable {N':Nat}{H':Tr Bx}{g:Lg}{call:fV}
variable {dst:Option Nat}{ty:TypeId}{pos:String}{af:Array Edge}{gd:Option (Nat×Bool)}
theorem Kg {i:TypeInfo}(hu:P.underlying U=some (.slice e)) (hi:P.info? e=some i) {c:Nat}(j:Src P i.size U v q er w) (ev:w.heap[bl]? =some (.cells vs e (0,0))) (D:n+q<=c) (a3:off+c*i.size<=vs.size):(Builtin.append_ #[U,U] ty #[.slice (some ⟨bl,off,none⟩) n c,v]).run P w=.ok (.slice (some ⟨bl,off,none⟩) (n+q) c) (w.setRow bl (vs.toList.take (off+n*i.size)++er++vs.toList.drop (off+n*i.size+er.length)).toArray):=by
 have J:er.length=q*i.size:=j.newsLen
 have I:off+n*i.size+0+er.length<=vs.size:=by rw[J];have:=nD i.size D;rw[mS] at this;omega
 have ha:(⟨bl,off,none⟩:Addr).add (n*i.size)=⟨bl,off+n*i.size,none⟩:=fI _ _ _
 rcases j.kind with⟨e',hk⟩|hk<;>simp[Builtin.append_,run_underlying hu,sizeOf,typeInfo,hi,j.len,D,j.cells,ha,run_storeCells_at P bl (off+n*i.size) e er 0 vs w ev I j.one]
theorem Iu {i:TypeInfo}(J:P.underlying U=some (.slice e)) (hi:P.info? e=some i) {b:Option Addr}{c:Nat}(j:Src P i.size U v 0 [] w) (D:n<=c):(Builtin.append_ #[U,U] ty #[.slice b n c,v]).run P w=.ok (.slice b n c) w:=by rcases j.kind with⟨R,I⟩|I<;>cases b<;>simp[Builtin.append_,run_underlying J,sizeOf,typeInfo,hi,j.len,D,j.cells,storeCells]
theorem EY {c:Nat}(ev:w.heap[bl]? =some (.cells vs U (0,0))) (I:off+n*sz<=vs.size):(Builtin.firstCells sz n (.slice (some ⟨bl,off,none⟩) n c)).run P w.drew=.ok ((vs.toList.drop off).take (n*sz)).toArray w.drew:=by
 have:=run_loadCells_list (P:=P) w.drew ⟨bl,off,none⟩ ((vs.toList.drop off).take (n*sz)) (fun j u D=>by
  rw[fI];show w.cell? _=_;rw[kS] at D;split at D;·rw[bR ev,<-D];simp
  .cases D)
 have hl:((vs.toList.drop off).take (n*sz)).length=n*sz:=by grind
 rw[hl] at this
 exact this
theorem vG (j:RdAs A Z w β (vs.toList.take us.length) us) (D:off+n<=us.length):RdAs A Z w β ((vs.toList.drop off).take n) ((us.drop off).take n):=by
 have h:=(j.drop off).take n;have e:((vs.toList.take us.length).drop off).take n=(vs.toList.drop off).take n:=by rw[wH,xk,jh (by omega)]
 grind
theorem af3 (_hT:l6 (TS m L T)) (hO:jJ H) (hL:jN N H) {x:XV}(hU:QR P U=some (e,sz,by_,zs)) (h1:cO m y=some xo) (h2:cO m z=some yo) (h:Zi e sz by_ xo yo call L T N H=some (.mk x N' H' g)):gV P eO ⟨dst,.call ⟨.builtin .append,#[y,z],#[U,U]⟩,ty,pos,af,gd⟩ (TS m L T) N H x N' H' g:=by
 obtain⟨v,hv,h⟩:=aE h
 obtain⟨v2,c8,h⟩:=aE h
 obtain⟨a,q1,h3⟩:=iS h
 obtain⟨b,q2,h4⟩:=iS h3
 subst q1 q2
 obtain⟨hu,i,zv,hi,hz,i8,e6,k4,h0,k1⟩:=uk hU
 subst i8
 obtain⟨q,ys,hF,d2,g0,a9,d3⟩:=Pi hu hO h4
 have f3:zv.cells.size=i.size:=by have h1:=(k1 (fun _=>False) (fun _=>False) default (fun _=>⟨0,0⟩)).1;rw[k4] at h1;simpa using h1
 have c7:y∈(Op.call ⟨.builtin .append,#[y,z],#[U,U]⟩).operands:=by simp[Op.operands,Call.operands]
 have b5:z∈(Op.call ⟨.builtin .append,#[y,z],#[U,U]⟩).operands:=by simp[Op.operands,Call.operands]
 rw[iM] at hF
 split at hF
 .rename_i hq
  have hq:=dF hq
  subst hq
  rcases ll hF with⟨k,off,n,lo,ex,m',rfl,h5⟩|⟨rfl,h5⟩|⟨rfl,h5⟩
  .obtain⟨rfl,rfl,rfl,rfl⟩:=cn h5
   refine bn hO hL trivial fun A Z w β ac ht=>?_
   have hr:=aO (o:=⟨dst,.call ⟨.builtin .append,#[y,z],#[U,U]⟩,ty,pos,af,gd⟩) c7 h1 hv ht
   obtain⟨c,e1,hk,c1,c2,c3,c4,c5⟩:=RdA.s_eq hr
   have hs:=d3 rfl A Z β w _ (aO (o:=⟨dst,.call ⟨.builtin .append,#[y,z],#[U,U]⟩,ty,pos,af,gd⟩) b5 h2 c8 ht)
   refine⟨ac.eval y,pD ?_,hr⟩
   rw[e1]
   exact Iu hu hi hs (by omega)
  .obtain⟨rfl,rfl,rfl,rfl⟩:=cn h5
   refine bn hO hL trivial fun A Z w β ac ht=>?_
   have hr:=aO (o:=⟨dst,.call ⟨.builtin .append,#[y,z],#[U,U]⟩,ty,pos,af,gd⟩) c7 h1 hv ht
   have e1:=RdA.z_eq hr
   have hs:=d3 rfl A Z β w _ (aO (o:=⟨dst,.call ⟨.builtin .append,#[y,z],#[U,U]⟩,ty,pos,af,gd⟩) b5 h2 c8 ht)
   refine⟨ac.eval y,pD ?_,hr⟩
   rw[e1]
   exact Iu hu hi hs (bk _)
  .cases h5
 .rename_i hq
  have k8:0<q:=by
   rcases je q with e|e;·subst e;exact absurd rfl hq
   .exact e
  have d6: ∀ {A:Nat->Prop},(∀k,A k-> ¬(N<=k/\k<N+1))-> ∀k,A k->k≠N:=fun h k hk e=>h k hk ⟨by omega,by omega⟩
  rcases ll hF with⟨k,off,n,lo,ex,m',rfl,h5⟩|⟨rfl,h5⟩|⟨rfl,h5⟩
  .obtain⟨bx,hb,h6⟩:=aE h5
   obtain⟨g1,h7⟩:=bD h6
   obtain⟨g2,h8⟩:=bD h7
   obtain⟨g3,h9⟩:=bD h8
   obtain⟨g6,j0⟩:=bD h9
   obtain⟨g4,D⟩:=bD j0
   have g1:=dF g1
   have g2:=dF g2
   rw[eL] at g3 g4 g6
   have e2:n+q<=maxLen:=gG (show n+q<=1000000 from g6) (by decide)
   have g3:(n+q)*by_<=140737488355328:=g3
   have g4:off+n*i.size<=bx.n:=g4
   obtain⟨d5,b4⟩:=hO k bx hb
   have b7:=rm hb
   rw[g1] at b7
   subst g2
   have i6:=hL k bx hb
   have e5:(n+q)*i.size=n*i.size+q*i.size:=mS _ _ _
   have i4:off+n*i.size<=bx.r.flat.length:=by rw[<-b4];exact g4
   rw[iM] at D
   split at D
   .rename_i R
    rw[eL] at R
    have R:n+q<=lo:=R
    have g8: ∀(nb:Nat) (nr:Rp),nr.ok->nb=nr.flat.length->nr.flat=bx.r.flat.take (off+n*i.size)++ys.flat++bx.r.flat.drop (off+(n+q)*i.size)->
     gV P eO ⟨dst,.call ⟨.builtin .append,#[y,z],#[U,U]⟩,ty,pos,af,gd⟩ (TS m L T) N H (.c (.s k off (n+q) lo ex i.size)) N (H.set ⟨e,nb,nr⟩ k) (.c H (H.set ⟨e,nb,nr⟩ k)):=by
     intro nb nr j4 j3 g7
     refine AB trivial (oI hO j4 j3) (oR hL (bk _) i6) (bk _) fun V A β ac w hA hm ht=>?_
     obtain⟨c,e1,hk,c1,c2,c3,c4,c5⟩:=RdA.s_eq (aO (o:=⟨dst,.call ⟨.builtin .append,#[y,z],#[U,U]⟩,ty,pos,af,gd⟩) c7 h1 hv ht)
     obtain⟨er,hs,a4⟩:=a9 V A β w _ hm (aO (o:=⟨dst,.call ⟨.builtin .append,#[y,z],#[U,U]⟩,ty,pos,af,gd⟩) b5 h2 c8 ht)
     obtain⟨vs,ev,g5,i1,c6⟩:=hm.box k e bx.r.flat b7
     have k3:(n+q)*i.size<=c*i.size:=nD _ (by omega)
     have a3:=Kg (ty:=ty) hu hi hs ev (n:=n) (c:=c) (off:=off) (by omega) (by omega)
     have b6:er.length=q*i.size:=hs.newsLen
     have e9:=pD (dst:=dst) (pos:=pos) (af:=af) (gd:=gd) (a:=ac) (y:=y) (z:=z) (by rw[e1];exact a3)
     unfold Gives
     rw[e9]
     have k6:off+n*i.size+q*i.size<=vs.size:=by omega
     obtain⟨m1,m2⟩:=v5 (N:=N) (cs:=nr.flat) hm b7 (vs:=(vs.toList.take (off+n*i.size)++er++vs.toList.drop (off+n*i.size+er.length)).toArray) (by simp;omega) (f7 ev) rfl rfl rfl
      (by rw[g7];simp;omega) (by
       rw[g7];have hw:=tQ (tQ (vG (off:=0) (n:=off+n*i.size) c6 (by omega)) a4) (c6.drop (off+(n+q)*i.size));have e4:((vs.toList.take (off+n*i.size)++er++vs.toList.drop (off+n*i.size+er.length)).toArray).toList.take (bx.r.flat.take (off+n*i.size)++ys.flat++bx.r.flat.drop (off+(n+q)*i.size)).length=(vs.toList.drop 0).take (off+n*i.size)++er++(vs.toList.take bx.r.flat.length).drop (off+(n+q)*i.size):=by show(vs.toList.take (off+n*i.size)++er++vs.toList.drop (off+n*i.size+er.length)).take _=_;rw[List.take_append,dS (l:=vs.toList.take (off+n*i.size)++er) (by simp;omega),wH,mU,show off+n*i.size+er.length=off+(n+q)*i.size by omega];congr 2;simp;omega
       rw[e4];simpa using hw)
     refine⟨A,β,fun _ h=>h,fun _ h=>.inl h,m1.sub (fun j c hj=>?_),m2.less (fun j c hj=>?_),?_⟩
     .rcases pi hj with⟨r1,r2⟩|⟨r1,r2⟩
      .show(if j=k then some (e,nr.flat) else HS H j)=some c
       rw[if_pos r1,r2]
      .show(if j=k then some (e,nr.flat) else HS H j)=some c
       rw[if_neg r1];exact r2
     .rcases pi hj with⟨r1,r2⟩|⟨r1,r2⟩
      .show(if j=k then some (e,nr.flat) else HS H j)=some c
       rw[if_pos r1,r2]
      .show(if j=k then some (e,nr.flat) else HS H j)=some c
       rw[if_neg r1];exact r2
     .exact RdA.s k off (n+q) lo ex i.size c hk R c2 c3 c4 c5
    rw[iM] at D
    split at D
    .rename_i a6
     rw[eL] at a6
     have a6:off+(n+q)*i.size<=bx.n:=a6
     obtain⟨rfl,rfl,rfl,rfl⟩:=tH D
     obtain⟨u1,u2⟩:=vO d2 bx.r bx.n (off+n*i.size) (q*i.size) d5 b4 g0.symm (by omega)
     exact g8 bx.n (mQ ys bx.r bx.n (off+n*i.size) (q*i.size)) u1 (by rw[u2,b4];simp;omega) (by rw[u2,show off+n*i.size+q*i.size=off+(n+q)*i.size by omega])
    .rename_i a6
     rw[eL] at a6
     have a6: ¬off+(n+q)*i.size<=bx.n:=a6
     obtain⟨rfl,rfl,rfl,rfl⟩:=tH D
     obtain⟨s1,s2⟩:=kn bx.r bx.n 0 (off+n*i.size) d5 b4 (by omega)
     obtain⟨j1,j2⟩:=j8 (ls:=off+n*i.size) (l:=iY bx.r bx.n 0 (off+n*i.size)) (r:=ys) (by rw[s2];simp;omega) s1 d2
     refine g8 (off+(n+q)*i.size) (iX (off+n*i.size) (iY bx.r bx.n 0 (off+n*i.size)) ys) j1 (by rw[j2,s2];simp;omega) (by rw[j2,s2,mU,CL (i:=off+(n+q)*i.size) (by omega)];simp)
   .rename_i R
    rw[eL] at R
    have R: ¬n+q<=lo:=R
    rw[iM] at D
    split at D
    ·--it grows,for sure
     rename_i e9
     obtain⟨rfl,rfl,rfl,rfl⟩:=tH D
     obtain⟨s1,s2⟩:=kn bx.r bx.n off (n*i.size) d5 b4 g4
     obtain⟨j1,j2⟩:=j8 (ls:=n*i.size) (l:=iY bx.r bx.n off (n*i.size)) (r:=ys) (by rw[s2];simp;omega) s1 d2
     have jl:(n+q)*i.size=(iX (n*i.size) (iY bx.r bx.n off (n*i.size)) ys).flat.length:=by rw[j2,s2];simp;omega
     refine AB trivial (oI hO j1 jl) (oR hL (ra _) (Nat.lt_succ_self _)) (ra _) fun V A β ac w hA hm ht=>?_
     obtain⟨c,e1,hk,c1,c2,c3,c4,c5⟩:=RdA.s_eq (aO (o:=⟨dst,.call ⟨.builtin .append,#[y,z],#[U,U]⟩,ty,pos,af,gd⟩) c7 h1 hv ht)
     obtain⟨er,hs,a4⟩:=a9 V A β w _ hm (aO (o:=⟨dst,.call ⟨.builtin .append,#[y,z],#[U,U]⟩,ty,pos,af,gd⟩) b5 h2 c8 ht)
     obtain⟨vs,ev,g5,i1,c6⟩:=hm.box k e bx.r.flat b7
     have hc:=c4 e9
     have J:c<n+q:=by omega
     have a3:=run_append_grow_src (P:=P) (w:=w) U U ty e i zv hu hi hz (some ⟨(β k).b,off,none⟩) n c _ (EY (c:=c) ev (by omega)) (ac.eval z) q er hs J (by have:maxLen=9223372036854775807:=rfl;omega) (growslice_fits J (by rw[e6];exact g3))
     have b3:=vG c6 (off:=off) (n:=n*i.size) i4
     have b6:er.length=q*i.size:=hs.newsLen
     have e3:(((vs.toList.drop off).take (n*i.size))++er).length=(n+q)*i.size:=by rw[dB,b6,b3.1];simp;omega
     obtain⟨A',β',w1,w2,w3,w4,w5⟩:=yX (N:=N) (e:=e) (z:=zv) hm (d6 hA) f3 e3 (b3.append a4) (grownCap_ge w (n+q) c e) (grownCap_le_maxLen w (n+q) c e e2)
     have a5:=pD (dst:=dst) (pos:=pos) (af:=af) (gd:=gd) (a:=ac) (y:=y) (z:=z) (by rw[e1];exact a3)
     unfold Gives
     rw[a5]
     have d7:(iX (n*i.size) (iY bx.r bx.n off (n*i.size)) ys).flat=(bx.r.flat.drop off).take (n*i.size)++ys.flat:=by rw[j2,s2]
     have I: ∀j c,HS (H.set ⟨e,(n+q)*i.size,iX (n*i.size) (iY bx.r bx.n off (n*i.size)) ys⟩ N) j=some c->(if j=N then some (e,(bx.r.flat.drop off).take (n*i.size)++ys.flat) else HS H j)=some c:=by
      intro j c hj;rcases pi hj with⟨r1,r2⟩|⟨r1,r2⟩;·rw[if_pos r1,r2,d7]
      .rw[if_neg r1];exact r2
     exact⟨A',β',w1,w2,w3.sub I,w4.less I,w5 _ _⟩
    ·--not known
     obtain⟨d4,f2⟩:=bD D
     have d4:=dF d4
     subst d4
     obtain⟨rfl,rfl,rfl,rfl⟩:=tH f2
     obtain⟨s1,s2⟩:=kn bx.r bx.n 0 (n*i.size) d5 b4 g4
     obtain⟨j1,j2⟩:=j8 (ls:=n*i.size) (l:=iY bx.r bx.n 0 (n*i.size)) (r:=ys) (by rw[s2];simp;omega) s1 d2
     have jl:(n+q)*i.size=(iX (n*i.size) (iY bx.r bx.n 0 (n*i.size)) ys).flat.length:=by rw[j2,s2];simp;omega
     have k2:jJ (H.del k):=fun j b' hj=>hO j b' (Tr.del_get H k j hj).2
     have k5:jN N (H.del k):=fun j b' hj=>hL j b' (Tr.del_get H k j hj).2
     have f4: ∀j c,HS (H.del k) j=some c->j≠k/\HS H j=some c:=by
      intro j c hj;unfold HS at hj⊢;cases h9:(H.del k).get j with
      |none=>rw[h9] at hj;cases hj
      |some b'=>rw[h9] at hj;injection hj with hj;obtain⟨r1,r2⟩:=Tr.del_get H k j h9;refine⟨r1,?_⟩;rw[r2,<-hj];rfl
     have d7:(iX (n*i.size) (iY bx.r bx.n 0 (n*i.size)) ys).flat=(bx.r.flat.drop 0).take (n*i.size)++ys.flat:=by rw[j2,s2]
     refine AB trivial (oI k2 j1 jl) (oR k5 (ra _) (Nat.lt_succ_self _)) (ra _) fun V A β ac w hA hm ht=>?_
     obtain⟨c,e1,hk,c1,c2,c3,c4,c5⟩:=RdA.s_eq (aO (o:=⟨dst,.call ⟨.builtin .append,#[y,z],#[U,U]⟩,ty,pos,af,gd⟩) c7 h1 hv ht)
     obtain⟨er,hs,a4⟩:=a9 V A β w _ hm (aO (o:=⟨dst,.call ⟨.builtin .append,#[y,z],#[U,U]⟩,ty,pos,af,gd⟩) b5 h2 c8 ht)
     obtain⟨vs,ev,g5,i1,c6⟩:=hm.box k e bx.r.flat b7
     have b6:er.length=q*i.size:=hs.newsLen
     have b3:=vG c6 (off:=0) (n:=n*i.size) i4
     have k7:k≠N:=by omega
     by_cases hc:n+q<=c
     ·--in place:the box goes by a new name
      have k3:(n+q)*i.size<=c*i.size:=nD _ hc
      have a3:=Kg (ty:=ty) hu hi hs ev (n:=n) (c:=c) (off:=0) hc (by omega)
      have a5:=pD (dst:=dst) (pos:=pos) (af:=af) (gd:=gd) (a:=ac) (y:=y) (z:=z) (by rw[e1];exact a3)
      unfold Gives
      rw[a5]
      simp only[dN]
      obtain⟨m1,m2⟩:=v5 (N:=N) (cs:=(bx.r.flat.drop 0).take (n*i.size)++ys.flat) hm b7 (vs:=(vs.toList.take (n*i.size)++er++vs.toList.drop (n*i.size+er.length)).toArray) (by simp;omega) (f7 ev) rfl rfl rfl
       (by simp;omega) (by
        have hw:=b3.append a4;have e4:((vs.toList.take (n*i.size)++er++vs.toList.drop (n*i.size+er.length)).toArray).toList.take ((bx.r.flat.drop 0).take (n*i.size)++ys.flat).length=(vs.toList.drop 0).take (n*i.size)++er:=by show(vs.toList.take (n*i.size)++er++vs.toList.drop (n*i.size+er.length)).take _=_;rw[wt (by simp;omega),dS (by simp;omega),mU]
        rw[e4];exact hw)
      obtain⟨n1,n2⟩:=X3 (N:=N) m1 (d6 hA) (k0:=k) (U:=e) (cs:=(bx.r.flat.drop 0).take (n*i.size)++ys.flat) (if_pos rfl)
      have I: ∀j d,HS ((H.del k).set ⟨e,(n+q)*i.size,iX (n*i.size) (iY bx.r bx.n 0 (n*i.size)) ys⟩ N) j=some d->
       (if j=N then some (e,(bx.r.flat.drop 0).take (n*i.size)++ys.flat) else if j=k then none else if j=k then some (e,(bx.r.flat.drop 0).take (n*i.size)++ys.flat) else HS H j)=some d:=by
       intro j d hj
       rcases pi hj with⟨r1,r2⟩|⟨r1,r2⟩
       .rw[if_pos r1,r2,d7]
       .obtain⟨r3,r4⟩:=f4 j d r2
        rw[if_neg r1,if_neg r3,if_neg r3];exact r4
      refine⟨_,_,fun j hj=>.inl hj,fun j hj=>?_,n1.sub I,((m2.wide (bk _) (ra _)).trans (fun _ h=>h) n2).less I,?_⟩
      .rcases hj with hj|hj
       .exact .inl hj
       .exact .inr ⟨Nat.le_of_eq hj.symm,by show j<N+1;omega⟩
      .have i2:=RdA.s (A:=fun j=>A j\/j=N) (Z:=Zs V (HS ((H.del k).set ⟨e,(n+q)*i.size,iX (n*i.size) (iY bx.r bx.n 0 (n*i.size)) ys⟩ N)) (fun j=>if j=N then β k else β j))
        (w:=w.setRow (β k).b (vs.toList.take (n*i.size)++er++vs.toList.drop (n*i.size+er.length)).toArray) (β:=fun j=>if j=N then β k else β j) N 0 (n+q) (n+q) false i.size c (.inr rfl) (bk _) hc c3 (fun e=>by cases e) (by rw[if_pos rfl];exact c5)
       rw[if_pos rfl] at i2
       exact i2
     .have J:c<n+q:=by omega
      have a3:=run_append_grow_src (P:=P) (w:=w) U U ty e i zv hu hi hz (some ⟨(β k).b,0,none⟩) n c _ (EY (c:=c) ev (by omega)) (ac.eval z) q er hs J (by have:maxLen=9223372036854775807:=rfl;omega) (growslice_fits J (by rw[e6];exact g3))
      have e3:(((vs.toList.drop 0).take (n*i.size))++er).length=(n+q)*i.size:=by rw[dB,b6,b3.1];simp;omega
      obtain⟨A',β',w1,w2,w3,w4,w5⟩:=yX (N:=N) (e:=e) (z:=zv) hm (d6 hA) f3 e3 (b3.append a4) (grownCap_ge w (n+q) c e) (grownCap_le_maxLen w (n+q) c e e2)
      have a5:=pD (dst:=dst) (pos:=pos) (af:=af) (gd:=gd) (a:=ac) (y:=y) (z:=z) (by rw[e1];exact a3)
      unfold Gives
      rw[a5]
      have I: ∀j d,HS ((H.del k).set ⟨e,(n+q)*i.size,iX (n*i.size) (iY bx.r bx.n 0 (n*i.size)) ys⟩ N) j=some d->(if j=N then some (e,(bx.r.flat.drop 0).take (n*i.size)++ys.flat) else HS H j)=some d:=by
       intro j d hj;rcases pi hj with⟨r1,r2⟩|⟨r1,r2⟩;·rw[if_pos r1,r2,d7]
       .rw[if_neg r1];exact(f4 j d r2).2
      exact⟨A',β',w1,w2,w3.sub I,w4.less I,w5 _ _⟩
  ·--onto the nil slice
   obtain⟨g3,h6⟩:=bD h5
   obtain⟨g6,D⟩:=bD h6
   rw[eL] at g3 g6
   have g3:q*by_<=140737488355328:=g3
   have e2:0+q<=maxLen:=by rw[dN];exact gG g6 (by decide)
   obtain⟨rfl,rfl,rfl,rfl⟩:=tH D
   refine AB trivial (oI hO d2 g0.symm) (oR hL (ra _) (Nat.lt_succ_self _)) (ra _) fun V A β ac w hA hm ht=>?_
   have e1:=RdA.z_eq (aO (o:=⟨dst,.call ⟨.builtin .append,#[y,z],#[U,U]⟩,ty,pos,af,gd⟩) c7 h1 hv ht)
   obtain⟨er,hs,a4⟩:=a9 V A β w _ hm (aO (o:=⟨dst,.call ⟨.builtin .append,#[y,z],#[U,U]⟩,ty,pos,af,gd⟩) b5 h2 c8 ht)
   have b6:er.length=q*i.size:=hs.newsLen
   have i0:(Builtin.firstCells i.size 0 (.slice none 0 0)).run P w.drew=.ok ([]:List Value).toArray w.drew:=rfl
   have J:0<0+q:=by omega
   have a3:=run_append_grow_src (P:=P) (w:=w) U U ty e i zv hu hi hz none 0 0 _ i0 (ac.eval z) q er hs J (by have:maxLen=9223372036854775807:=rfl;omega) (growslice_fits J (by rw[e6,dN];exact g3))
   obtain⟨A',β',w1,w2,w3,w4,w5⟩:=yX (olds:=[]) (er:=er) hm (d6 hA) f3 (by simp[b6]) (by simpa using a4) (grownCap_ge w (0+q) 0 e) (grownCap_le_maxLen w (0+q) 0 e e2)
   have a5:=pD (dst:=dst) (pos:=pos) (af:=af) (gd:=gd) (a:=ac) (y:=y) (z:=z) (by rw[e1];exact a3)
   unfold Gives
   rw[a5]
   have I: ∀j d,HS (H.set ⟨e,q*i.size,ys⟩ N) j=some d->(if j=N then some (e,ys.flat) else HS H j)=some d:=by
    intro j d hj;rcases pi hj with⟨r1,r2⟩|⟨r1,r2⟩;·rw[if_pos r1,r2]
    .rw[if_neg r1];exact r2
   refine⟨A',β',w1,w2,w3.sub I,w4.less I,?_⟩
   show RdA A' _ _ β' _ (.s N 0 q q false i.size)
   rw[show AV.s N 0 q q false i.size=AV.s N 0 (0+q) (0+q) false i.size by rw[dN]]
   exact w5 _ _
  .cases h5
end
section
variable {P:Program}{eO:Array Oper}{TT:TX}{m N:Nat}{L:LX}{T:Tr XV}{H:Tr Bx}
variable {N':Nat}{H':Tr Bx}{g:Lg}{call:fV}
variable {dst:Option Nat}{ty:TypeId}{pos:String}{af:Array Edge}{gd:Option (Nat×Bool)}
theorem DT {i:TypeInfo}{z:Value}{k:IntKind}(hu:P.underlying U=some (.slice e)) (hW:P.underlying W=some (.int kk)) (hi:P.info? e=some i) (hz:i.zero=some z) (_a6:z.cells.size=i.size) (h0:0<i.size)  (hq:0<q) (a9:q<=1000000) (hb:q*i.bytes<=140737488355328):(Builtin.append_ #[U,W] ty #[.slice none 0 0,.int k (q:Int)]).run P w= .ok (.slice (some ⟨w.heap.size,0,none⟩) q (grownCap w q 0 e)) (w.drew.alloc (.cells (([]++(Builtin.zeroCells z.cells q).toList).toArray++Builtin.zeroCells z.cells (grownCap w q 0 e-q)) e)):=by
 have hw:IntKind.i64.wrap (q:Int)=(q:Int):=by unfold IntKind.wrap;simp[IntKind.bits,IntKind.signed];omega
 have hl: ¬((q:Int)<0):=by omega
 have R: ¬(281474976710656<(q:Int)*(i.bytes:Int)):=by grind
 have J: ¬(q<=0):=by omega
 have a5: ¬(q*i.size=0):=by have:=Nat.mul_pos hq h0;omega
 have j:Builtin.nextslicecap q 0=q:=by unfold Builtin.nextslicecap;rw[if_pos (by omega)]
 have a4: ¬(281474976710656<q*i.bytes):=by omega
 have D: ¬((9223372036854775807:Int)<(q:Int)):=by omega
 have a3:q≠0:=by omega
 have I:i.size≠0:=by omega
 simp[Builtin.append_,run_underlying hu,run_underlying hW,sizeOf,typeInfo,zeroValue,hi,hz,asInt,asIntOf,hw,hl,R,a5,j,a4,D,Question.forced,newRow,grownCap,Builtin.firstCells,a3]
theorem OT (h:(Builtin.append_ #[U,W] ty #[a.eval y,a.eval z]).run P w=.ok v w'):(execOp a.eval ⟨dst,.call ⟨.builtin .append,#[y,z],#[U,W]⟩,ty,pos,af,gd⟩).run P w=.ok (.value v) w':=by simp only[execOp,resolve,invoke,builtin,fh,dA,ft,qe,lQ,qv];rw[h];rfl
theorem aeB (_hT:l6 (TS m L T)) (hO:jJ H) (hL:jN N H) (hU:QR P U=some (e,sz,by_,zs)) (hW:YM P W=some kk) (h1:cO m y=some xo) (h2:cO m z=some yo) (h:aad e sz by_ (vV zs) xo yo call L T N H=some (.mk x N' H' g)):gV P eO ⟨dst,.call ⟨.builtin .append,#[y,z],#[U,W]⟩,ty,pos,af,gd⟩ (TS m L T) N H x N' H' g:=by
 obtain⟨v,hv,h⟩:=aE h
 obtain⟨v2,b7,h⟩:=aE h
 obtain⟨a,q1,h⟩:=iS h
 obtain⟨kb,q,q2,h⟩:=s7 h
 subst q1 q2
 obtain⟨hu,i,zv,hi,hz,b3,a9,J,h0,a3⟩:=uk hU
 have hw:P.underlying W=some (.int kk):=by unfold YM at hW;grind
 rcases ll h with⟨k,off,n,lo,ex,m',rfl,h5⟩|⟨rfl,h5⟩|⟨rfl,h5⟩
 .grind
 .obtain⟨g1,h6⟩:=bD h5
  obtain⟨g2,h7⟩:=bD h6
  obtain⟨g3,h8⟩:=bD h7
  rw[dj] at g1
  rw[eL] at g2 g3
  have D:zv.cells.size=i.size:=by have h1:=(a3 (fun _=>False) (fun _=>False) default (fun _=>⟨0,0⟩)).1;grind
  obtain⟨z1,z2⟩:=nF zs
  obtain⟨r1,r2⟩:=rQ (by rw[z2,J]) z1 q
  have b4:(rn sz (vV zs) q).flat=Aq zs q:=by grind
  have a5:q*sz=(rn sz (vV zs) q).flat.length:=by rw[b4,u7,J]
  have b6:0+q<=maxLen:=by rw[dN];exact gG g3 (by decide)
  obtain⟨rfl,rfl,rfl,rfl⟩:=tH h8
  have b5: ∀ {A:Nat->Prop},(∀k,A k-> ¬(N<=k/\k<N+1))-> ∀k,A k->k≠N:=by grind
  refine AB trivial (oI hO r1 a5) (oR hL (ra _) (Nat.lt_succ_self _)) (ra _) fun V A β ac w hA hm ht=>?_
  have e2:ac.eval z=.int kb (q:Int):=RdA.i_eq (aO (by simp[Op.operands,Call.operands]) h2 b7 ht)
  obtain⟨A',β',w1,w2,w3,w4,w5⟩:=yX (olds:=[]) (er:=(Builtin.zeroCells zv.cells q).toList) hm (b5 hA) D (by simp[Builtin.zeroCells,D]) (by
   have e3:(Builtin.zeroCells zv.cells q).toList=(madeCells zv.cells (q*sz)).toList:=by unfold Builtin.zeroCells madeCells;rw[D,b3]
   rw[qZ,e3];unfold madeCells;simpa using (yh J (a3 A (Zs V (HS H) β) w β) q)) (grownCap_ge w (0+q) 0 e) (grownCap_le_maxLen w (0+q) 0 e b6)
  unfold Gives
  rw[OT (dst:=dst) (pos:=pos) (af:=af) (gd:=gd) (z:=z) (by rw[RdA.z_eq (aO (by simp[Op.operands,Call.operands]) h1 hv ht),e2];exact (DT (ty:=ty) (w:=w) (k:=kb) hu hw hi hz D (by omega) g1 g3 (by rw[a9];exact g2)))]
  have I: ∀j d,HS (H.set ⟨e,q*sz,rn sz (vV zs) q⟩ N) j=some d->(if j=N then some (e,Aq zs q) else HS H j)=some d:=by
   intro j d hj;rcases pi hj with⟨r3,r4⟩|⟨r3,r4⟩;·grind
   grind
  rw[dN] at w3 w4
  refine⟨A',β',w1,w2,w3.sub I,w4.less I,?_⟩
  show RdA A' _ _ β' _ (.s N 0 q q false sz)
  grind
 grind
end
section
variable {P:Program}{eO:Array Oper}{o:Oper}{TT:TX}{m N:Nat}{L:LX}{T:Tr XV}{H:Tr Bx}{x:XV}
variable {N':Nat}{H':Tr Bx}{g:Lg}{call:fV}
variable {dst:Option Nat}{ty:TypeId}{pos:String}{af:Array Edge}{gd:Option (Nat×Bool)}
theorem XE:RdX2 A Z w β (.tuple #[]) (.t []):=⟨#[],rfl,RdDs.nil⟩
theorem yj (h:(Builtin.clear_ #[U] ty #[a.eval y]).run P w=.ok (.tuple #[]) w'):(execOp a.eval ⟨dst,.call ⟨.builtin .clear,#[y],#[U]⟩,ty,pos,af,gd⟩).run P w=.ok (.value (.tuple #[])) w':=by simp only[execOp,resolve,invoke,builtin,fh,dA,ft,qe,lQ,qv];rw[h];rfl
theorem agU (_hT:l6 (TS m L T)) (hO:jJ H) (hL:jN N H) {x:XV}(hU:QR P U=some (e,sz,by_,zs)) (h1:cO m y=some xo) (h:Zg sz (vV zs) xo call L T N H=some (.mk x N' H' g)):gV P eO ⟨dst,.call ⟨.builtin .clear,#[y],#[U]⟩,ty,pos,af,gd⟩ (TS m L T) N H x N' H' g:=by
 obtain⟨v,hv,h⟩:=aE h
 obtain⟨a,q1,h3⟩:=iS h
 subst q1
 obtain⟨hu,i,J,hi,hz,d7,d5,a5,h0,b3⟩:=uk hU
 have a6:y∈(Op.call ⟨.builtin .clear,#[y],#[U]⟩).operands:=by simp[Op.operands,Call.operands]
 have I: ∀(w:World) (A:Option Addr) (c:Nat),(Builtin.clear_ #[U] ty #[.slice A 0 c]).run P w=.ok (.tuple #[]) w:=fun w A c=>by cases A<;>simp[Builtin.clear_,run_underlying hu]
 rcases ll h3 with⟨k,off,n,lo,ex,m',rfl,h4⟩|⟨rfl,h4⟩|⟨rfl,h4⟩
 .rw[iM] at h4
  split at h4
  .rename_i hn
   have hn:=dF hn
   subst hn
   obtain⟨rfl,rfl,rfl,rfl⟩:=cn h4
   refine bn hO hL (fun d hd=>by cases hd) fun A Z w β ac ht=>?_
   obtain⟨c,e1,_⟩:=RdA.s_eq (aO a6 h1 hv ht)
   exact⟨_,yj (by rw[e1];exact I _ _ _),XE⟩
  .rename_i hn
   have hn:n≠0:=fun e=>by subst e;exact hn rfl
   obtain⟨b,hb,h5⟩:=aE h4
   obtain⟨g1,h6⟩:=bD h5
   obtain⟨g2,h7⟩:=bD h6
   obtain⟨rfl,rfl,rfl,rfl⟩:=tH h7
   have g1:=dF g1
   subst g1
   rw[eL] at g2
   have g2:off+n*sz<=b.n:=g2
   obtain⟨d2,a4⟩:=hO k b hb
   obtain⟨z1,z2⟩:=nF zs
   obtain⟨r1,r2⟩:=rQ (by rw[z2,a5]) z1 n
   have b4:(rn sz (vV zs) n).flat=Aq zs n:=by rw[r2,z2]
   have d3:n*sz=(rn sz (vV zs) n).flat.length:=by rw[b4,u7,a5]
   obtain⟨u1,u2⟩:=vO r1 b.r b.n off (n*sz) d2 a4 d3 g2
   have b5:=rm hb
   have e2:off+n*sz<=b.r.flat.length:=by rw[<-a4];exact g2
   have a3:b.n=(mQ (rn sz (vV zs) n) b.r b.n off (n*sz)).flat.length:=by rw[u2,a4];simp;omega
   refine AB (fun d hd=>by cases hd) (oI hO u1 a3) (oR hL (bk _) (hL k b hb)) (bk _) fun V A β ac w hA hm ht=>?_
   obtain⟨c,e1,hk,c1,c2,c3,c4,c5⟩:=RdA.s_eq (aO a6 h1 hv ht)
   obtain⟨vs,ev,d6,e3,c6⟩:=hm.box k b.U b.r.flat b5
   have R:=yh a5 (b3 A (Zs V (HS H) β) w β) n
   have d4:J.cells.size=sz:=by have:=(b3 A (Zs V (HS H) β) w β).1;rw[a5] at this;simpa using this
   have b7:(Builtin.zeroCells J.cells n).toList=(List.range (n*sz)).map (fun j=>J.cells[j%J.cells.size]!):=by unfold Builtin.zeroCells;rw[d4];simp
   rw[<-b7] at R
   have D:(Builtin.zeroCells J.cells n).toList.length=n*sz:=by rw[b7];simp
   have b6:=run_storeCells_at P (β k).b off b.U (Builtin.zeroCells J.cells n).toList 0 vs w ev (by omega) R.one
   simp only[ru] at b6
   have c7:(Builtin.clear_ #[U] ty #[.slice (some ⟨(β k).b,off,none⟩) n c]).run P w=.ok (.tuple #[]) (w.setRow (β k).b (vs.toList.take off++(Builtin.zeroCells J.cells n).toList++vs.toList.drop (off+(Builtin.zeroCells J.cells n).toList.length)).toArray):=by simp[Builtin.clear_,run_underlying hu,hn,zeroValue,typeInfo,hi,hz];rw[b6];simp
   unfold Gives
   rw[yj (dst:=dst) (pos:=pos) (af:=af) (gd:=gd) (by rw[e1];exact c7)]
   obtain⟨m1,m2⟩:=v5 hm b5 (vs:=(vs.toList.take off++(Builtin.zeroCells J.cells n).toList++vs.toList.drop (off+(Builtin.zeroCells J.cells n).toList.length)).toArray)
    (by simp only[List.size_toArray,dB,D];simp;omega) (f7 ev) rfl rfl rfl (by rw[<-a3,a4];simp only[List.size_toArray,dB,D];simp;omega) (by
     rw[<-a3,u2,b4];have e4:((vs.toList.take off++(Builtin.zeroCells J.cells n).toList++vs.toList.drop (off+(Builtin.zeroCells J.cells n).toList.length)).toArray).toList.take b.n=(vs.toList.drop 0).take off++(Builtin.zeroCells J.cells n).toList++(vs.toList.take b.r.flat.length).drop (off+n*sz):=by rw[List.take_append,dS (by rw[dB,D];simp;omega),wH,mU,D];congr 2;rw[dB,D];simp;omega
     rw[e4];simpa using (tQ (tQ (vG (off:=0) (n:=off) c6 (by omega)) R) (c6.drop (off+n*sz))))
   have a9: ∀j d,HS (H.set ⟨b.U,b.n,mQ (rn sz (vV zs) n) b.r b.n off (n*sz)⟩ k) j=some d->(if j=k then some (b.U,(mQ (rn sz (vV zs) n) b.r b.n off (n*sz)).flat) else HS H j)=some d:=by
    intro j d hj;rcases pi hj with⟨q1,q2⟩|⟨q1,q2⟩;·rw[if_pos q1,q2]
    .rw[if_neg q1];exact q2
   exact⟨A,β,fun _ h=>h,fun _ h=>.inl h,m1.sub a9,m2.less a9,XE⟩
 .obtain⟨rfl,rfl,rfl,rfl⟩:=cn h4
  refine bn hO hL (fun d hd=>by cases hd) fun A Z w β ac ht=>?_
  exact⟨_,yj (by rw[RdA.z_eq (aO a6 h1 hv ht)];exact I _ _ _),XE⟩
 .obtain⟨rfl,rfl,rfl,rfl⟩:=cn h4
  refine bn hO hL (fun d hd=>by cases hd) fun A Z w β ac ht=>?_
  obtain⟨b,c,e1,_⟩:=RdA.ev_eq (aO a6 h1 hv ht)
  exact⟨_,yj (by rw[e1];exact I _ _ _),XE⟩
theorem K8 {mx:Bool}{k:IntKind}{A Z:Nat->Prop}{w:World}{β:Nat->Pl}: ∀ {vs:List XV}{us:List Value}{a r:Int},D1 A Z w β us vs->mmX mx k vs a=some r->(us.foldlM (if mx then Builtin.max2 else Builtin.min2) (.int k a)).run P w=.ok (.int k r) w
 |[],[],a,r,_,h=>by have h:some a=some r:=h;injection h with h;subst h;rfl
 |[],_::_,a,r,hr,_=>by have:=hr.1;simp at this
 |_::_,[],a,r,hr,_=>by have:=hr.1;simp at this
 |v::vs,y::us,a,r,hr,h=>by
  obtain⟨k',b,q,R⟩:=mA (show xI v (fun k' b=>bT (Nat.beq (kN k) (kN k')) (mmX mx k vs (bI mx (bI (xv a b) b a) (bI (xv b a) b a))))=some r from h);subst q;obtain⟨I,h3⟩:=bD R;have I:=SU I;subst I;have e1:y=.int k b:=RdA.i_eq (hr.2 0 y (.c (.i k b)) rfl rfl);subst e1;have D:D1 A Z w β us vs:=⟨by have:=hr.1;simpa using this,fun j v x hv hx=>hr.2 (j+1) v x (by simpa using hv) (by simpa using hx)⟩;have ih:=K8 D h3;rw[List.foldlM_cons];cases mx with
  |true=>
   have J:Builtin.max2 (.int k a) (.int k b)=pure (.int k (bI true (bI (xv a b) b a) (bI (xv b a) b a))):=by
    show pure (Value.int k (if b>a then b else a))=pure (Value.int k (bI (xv a b) b a));rw[iM,nl];by_cases a3:a<b;·grind
    grind
   show(do let s' <-Builtin.max2 (.int k a) (.int k b);List.foldlM Builtin.max2 s' us:Go.Sem Value).run P w=_;rw[J];exact ih
  |false=>
   have J:Builtin.min2 (.int k a) (.int k b)=pure (.int k (bI false (bI (xv a b) b a) (bI (xv b a) b a))):=by show pure (Value.int k (if b<a then b else a))=pure (Value.int k (bI (xv b a) b a));rw[iM,nl];grind
   grind
theorem afV (_hT:l6 (TS m L T)) (hO:jJ H) (hL:jN N H) {zs:List Operand}{x:XV}(D:ys.toList=y::zs) (h1:cO m y=some xo) (h2:lE (cO m) zs=some xs) (h:Ym true xo xs call L T N H=some (.mk x N' H' g)):gV P eO ⟨dst,.call ⟨.builtin .max,ys,ts⟩,ty,pos,af,gd⟩ (TS m L T) N H x N' H' g:=by
 obtain⟨v,hv,h⟩:=aE h
 obtain⟨k,a,q1,h3⟩:=mA h
 subst q1
 obtain⟨vs,J,h4⟩:=aE h3
 obtain⟨r,hr,h5⟩:=aE h4
 obtain⟨rfl,rfl,rfl,rfl⟩:=cn h5
 have j: ∀z∈ys.toList,z∈(Op.call ⟨.builtin .max,ys,ts⟩).operands:=fun z hz=>by have:=tz.1 hz;simp[Op.operands,Call.operands,this]
 refine bn hO hL trivial fun A Z w β ac ht=>?_
 have e1:ac.eval y=.int k a:=RdA.i_eq (aO (j y (by rw[D];simp)) h1 hv ht)
 refine⟨.int k r,?_,.i _ _⟩
 have e2:(ys.map ac.eval).toList=ac.eval y::zs.map ac.eval:=by rw[q9,D];rfl
 show(do let r <-Builtin.max_ ts ty (ys.map ac.eval);pure (Next.value r):Go.Sem Next).run P w=_
 unfold Builtin.max_
 rw[e2,e1,fh]
 rw[show(List.foldlM Builtin.max2 (Value.int k a) (zs.map ac.eval)).run P w=.ok (.int k r) w from (K8 (P:=P) (o8 (fun z hz=>j z (by rw[D];simp[hz])) h2 J ht) hr)]
 rfl
theorem afS (_hT:l6 (TS m L T)) (hO:jJ H) (hL:jN N H) {zs:List Operand}{x:XV}(D:ys.toList=y::zs) (h1:cO m y=some xo) (h2:lE (cO m) zs=some xs) (h:Ym false xo xs call L T N H=some (.mk x N' H' g)):gV P eO ⟨dst,.call ⟨.builtin .min,ys,ts⟩,ty,pos,af,gd⟩ (TS m L T) N H x N' H' g:=by
 obtain⟨v,hv,h⟩:=aE h
 obtain⟨k,a,q1,h3⟩:=mA h
 subst q1
 obtain⟨vs,J,h4⟩:=aE h3
 obtain⟨r,hr,h5⟩:=aE h4
 obtain⟨rfl,rfl,rfl,rfl⟩:=cn h5
 have j: ∀z∈ys.toList,z∈(Op.call ⟨.builtin .min,ys,ts⟩).operands:=fun z hz=>by have:=tz.1 hz;simp[Op.operands,Call.operands,this]
 refine bn hO hL trivial fun A Z w β ac ht=>?_
 have e1:ac.eval y=.int k a:=RdA.i_eq (aO (j y (by rw[D];simp)) h1 hv ht)
 refine⟨.int k r,?_,.i _ _⟩
 have e2:(ys.map ac.eval).toList=ac.eval y::zs.map ac.eval:=by rw[q9,D];rfl
 show(do let r <-Builtin.min_ ts ty (ys.map ac.eval);pure (Next.value r):Go.Sem Next).run P w=_
 unfold Builtin.min_
 rw[e2,e1,fh]
 rw[show(List.foldlM Builtin.min2 (Value.int k a) (zs.map ac.eval)).run P w=.ok (.int k r) w from (K8 (P:=P) (o8 (fun z hz=>j z (by rw[D];simp[hz])) h2 J ht) hr)]
 rfl
theorem UX (s:ByteArray) (j:Nat):s[j]? =s.data.toList[j]? :=by
 rw[mW];by_cases h:j<s.size
 .have D:j<s.data.size:=h;rw[getElem?_pos s j h,uw D];rfl
 .simp_all
theorem abL (_hT:l6 (TS m L T)) (I:jJ H) (J:jN N H) {s:ByteArray}{x:XV}(hU:P.underlying U=some .string) (h1:cO m y=some xo) (h:SV s xo call L T N H=some (.mk x N' H' g)):gV P eO ⟨dst,.index U (.const (.string s)) y,ty,pos,af,gd⟩ (TS m L T) N H x N' H' g:=by
 obtain⟨v,hv,h⟩:=aE h
 obtain⟨k,j,q1,R⟩:=s7 h
 subst q1
 obtain⟨b,hb,h4⟩:=aE R
 obtain⟨rfl,rfl,rfl,rfl⟩:=cn h4
 refine bn I J trivial fun A Z w β ac ht=>?_
 have e1:ac.eval y=.int k (j:Int):=RdA.i_eq (aO (by simp[Op.operands]) h1 hv ht)
 have e2:ac.eval (.const (.string s))=.string s:=rfl
 have D:s[j]? =some b:=by rw[UX];exact hb
 refine⟨.int .u8 b.toNat,?_,.i _ _⟩
 simp[execOp,Instr.index,e1,e2,asIntOf,run_underlying hU,D]
theorem agr (_hT:l6 (TS m L T)) (hO:jJ H) (hL:jN N H) {x:XV}(hU:arA P U=some (n,sz)) (h1:cO m y=some xo) (h2:cO m z=some yo) (h:aag n sz xo yo call L T N H=some (.mk x N' H' g)):gV P eO ⟨dst,.indexAddr U y z,ty,pos,af,gd⟩ (TS m L T) N H x N' H' g:=by
 obtain⟨v,hv,h⟩:=aE h
 obtain⟨v2,a4,h⟩:=aE h
 obtain⟨k,off,q1,h3⟩:=qI h
 obtain⟨ki,j,q2,h4⟩:=s7 h3
 subst q1 q2
 obtain⟨hj,h5⟩:=bD h4
 obtain⟨rfl,rfl,rfl,rfl⟩:=cn h5
 rw[dj] at hj
 refine bn hO hL trivial fun A Z w β ac ht=>?_
 obtain⟨e1,hk⟩:=RdA.p_eq (aO (by simp[Op.operands]) h1 hv ht)
 have e2:ac.eval z=.int ki (j:Int):=RdA.i_eq (aO (by simp[Op.operands]) h2 a4 ht)
 unfold arA at hU
 split at hU
 case h_2=>cases hU
 rename_i n' el J
 cases D:P.info? el with
 |none=>rw[D] at hU;cases hU
 |some a5=>
  rw[D] at hU
  simp at hU
  obtain⟨q1,q2⟩:=hU
  subst q1
  have R: ∀w,(sizeOf el).run P w=.ok sz w:=fun w=>by unfold sizeOf typeInfo;simp[program,Sem.run,D,q2]
  have a3:(0:Int)<=(j:Int):=by omega
  have I:(j:Int)<(n':Int):=by omega
  refine⟨.pointer (some ⟨(β k).b,off+j*sz,none⟩),?_,.p _ _ hk⟩
  simp[execOp,Instr.indexAt,e1,e2,asIntOf,run_underlying J,Instr.sureAddr,a3,R,fI,hj]
end
section
variable {P:Program}{eO:Array Oper}{o:Oper}{TT:TX}{m N:Nat}{L:LX}{T:Tr XV}{H:Tr Bx}{x:XV}
variable {N':Nat}{H':Tr Bx}{g:Lg}{call:fV}
theorem sb {j β:Type}{f:j->β}{x:Option j}{y:β}(h:x.map f=some y): ∃v,x=some v/\f v=y:=by simp_all
theorem PP {j:Type}{a:Array j}{x:j}(h:a.toList=[x]):a= #[x]:=by apply Array.ext';exact h
theorem XY {j:Type}{a:Array j}{x y:j}(h:a.toList=[x,y]):a= #[x,y]:=by apply Array.ext';exact h
theorem OJ (hT:l6 (TS m L T)) (J:jJ H) (R:jN N H) (a3:jU P call) {k:oZ}(j:AO P m o.op=some k) (h:k call L T N H=some (.mk x N' H' g)):gV P eO o (TS m L T) N H x N' H' g:=by
 obtain⟨dst,op,ty,pos,af,gd⟩:=o;change AO P m op=some k at j;cases op;case move y=>obtain⟨xo,h1,rfl⟩:=gB j;exact adS hT J R h1 h
 case assign y=>obtain⟨xo,h1,rfl⟩:=gB j;exact Um hT J R h1 h
 case pick c y z=>
  unfold AO at j;dsimp only at j;split at j
  .rename_i co h1;obtain⟨xo,yo,D,I,rfl⟩:=mN j;exact ad0 hT J R h1 D I h
  .cases j
 case alloc U=>obtain⟨zs,h1,rfl⟩:=sb j;exact Yi J R h1 h
 case box U y=>obtain⟨xo,h1,rfl⟩:=gB j;exact afN hT J R h1 h
 case build U ps=>
  unfold AO at j;dsimp only at j;split at j
  .rename_i pl zs h1 D;obtain⟨qs,I,rfl⟩:=sb j;exact VX hT J R h1 D I h
  .cases j
 case buildSlice U n ps=>
  unfold AO at j;dsimp only at j;split at j
  .rename_i e sz by_ zs h1;cases hb:Nat.ble (n*sz) 10000 with
   |false=>rw[hb] at j;cases j
   |true=>rw[hb] at j;obtain⟨qs,I,rfl⟩:=sb j;exact ag5 hT J R h1 (eL.1 hb) I h
  .cases j
 case load U y=>
  unfold AO at j;dsimp only at j;split at j;·rename_i n h1;obtain⟨xo,D,rfl⟩:=gB j;exact afJ hT J R h1 D h
  .rename_i n h1;obtain⟨xo,D,rfl⟩:=gB j;exact ae2 hT J R h1 D h
  .cases j
 case store U a y=>
  unfold AO at j;dsimp only at j;split at j;·rename_i q n h1;obtain⟨xo,yo,D,I,rfl⟩:=mN j;exact ah4 hT J R h1 D I h
  .cases j
 case nilCheck y=>obtain⟨xo,h1,rfl⟩:=gB j;exact aaP hT J R h1 h
 case binOp op U y z yt=>
  unfold AO at j;dsimp only at j;split at j
  .rename_i h1;split at j;·obtain⟨xo,yo,D,I,rfl⟩:=mN j;exact aeD hT J R h1 D I h
   .obtain⟨xo,yo,D,I,rfl⟩:=mN j;exact agX hT J R h1 D I h
   .cases j
  .rename_i k1 h1;split at j;·rename_i f hf;obtain⟨xo,yo,D,I,rfl⟩:=mN j;exact agh hT J R hf D I h
   .split at j;·rename_i f hf;obtain⟨xo,yo,D,I,rfl⟩:=mN j;exact aef hT J R hf D I h
    .cases j
  .rename_i e h1;split at j;·obtain⟨xo,D,rfl⟩:=gB j;exact ae5 hT J R h1 D h
   .obtain⟨xo,D,rfl⟩:=gB j;exact afD hT J R h1 D h
   .cases j
  .cases j
 case unOp op t y=>
  cases op<;>first|(obtain⟨xo,h1,rfl⟩:=gB j;exact ag2 hT J R h1 h)|(obtain⟨xo,h1,rfl⟩:=gB j;exact ae0 hT J R h1 h)|cases j
 case convert s d y=>
  unfold AO at j;dsimp only at j;split at j;·rename_i k0 k1 h1 D;obtain⟨xo,I,rfl⟩:=gB j;exact aaZ hT J R h1 D I h
  .cases j
 case makeFunc fn first cs=>
  cases fn with
  |func f=>
   unfold AO at j;dsimp only at j;cases hb:first.isEmpty with
   |false=>rw[hb] at j;cases j
   |true=>rw[hb] at j;obtain⟨xs,h1,rfl⟩:=sb j;exact agx hT J R hb h1 h
  |_=>cases j
 case makeSlice U y z=>
  unfold AO at j;dsimp only at j;split at j;·rename_i e sz by_ zs h1;obtain⟨xo,yo,D,I,rfl⟩:=mN j;exact af2 hT J R h1 D I h
  .cases j
 case slice U y lo hi mx=>
  unfold AO at j;dsimp only at j;split at j
  .rename_i sz xo a4 a5 h1 D I h4 h5;injection j with j;subst j;have:mx=none:=by
    cases mx with
    |none=>rfl
    |some z=>cases hz:cO m z with
     |none=>simp[FL,hz] at h5
     |some w=>simp[FL,hz] at h5
   subst this;exact aeG hT J R h1 D I h4 h
  .rename_i sz xo a4 ho Mo h1 D I h4 h5;injection j with j;subst j;cases hi with
   |none=>simp[FL] at h4
   |some zh=>
    cases mx with
    |none=>simp[FL] at h5
    |some zM=>
     have g4:cO m zh=some ho:=by
      cases hz:cO m zh with
      |none=>simp[FL,hz] at h4
      |some w=>simp[FL,hz] at h4;rw[h4]
     have g5:cO m zM=some Mo:=by
      cases hz:cO m zM with
      |none=>simp[FL,hz] at h5
      |some w=>simp[FL,hz] at h5;rw[h5]
     exact agC hT J R h1 D I g4 g5 h
  .cases j
 case fieldAddr U y f=>
  unfold AO at j;dsimp only at j;split at j;·rename_i off h1;obtain⟨xo,D,rfl⟩:=gB j;exact ah3 hT J R h1 D h
  .cases j
 case field U y f=>
  unfold AO at j;dsimp only at j;split at j;·rename_i off n h1;obtain⟨xo,D,rfl⟩:=gB j;exact aeJ hT J R h1 D h
  .rename_i off n h1;obtain⟨xo,D,rfl⟩:=gB j;exact agc hT J R h1 D h
  .cases j
 case indexAddr U y z=>
  unfold AO at j;dsimp only at j;split at j;·rename_i sz h1;obtain⟨xo,yo,D,I,rfl⟩:=mN j;exact ahr hT J R h1 D I h
  .split at j;·rename_i n sz h1;obtain⟨xo,yo,D,I,rfl⟩:=mN j;exact agr hT J R h1 D I h
   .cases j
 case index U y z=>
  cases y with
  |const v=>
   cases v with
   |string b=>
    unfold AO at j;dsimp only at j;split at j;·rename_i h1;obtain⟨xo,D,rfl⟩:=gB j;exact abL hT J R h1 D h
    .cases j
   |_=>cases j
  |_=>cases j
 case extract y i=>obtain⟨xo,h1,rfl⟩:=gB j;exact aeM hT J R h1 h
 case call c=>
  obtain⟨callee,ys,ts⟩:=c;cases callee with
  |value f=>
   cases f with
   |func f=>obtain⟨xs,h1,rfl⟩:=sb (show(lE (cO m) ys.toList).map (Lk f)=some k from j);exact abi hT J R a3 h1 h
   |tmp t=>
    unfold AO at j;dsimp only at j;split at j
    .rename_i fo xs h1 D;injection j with j;subst j;exact aaR hT J R a3 h1 D h
    .cases j
   |_=>cases j
  |invoke r mt=>cases j
  |builtin b=>
   cases b;case len=>
    unfold AO at j;dsimp only at j;split at j
    .rename_i y U h1 D;split at j
     .rename_i sz I;obtain⟨xo,h4,rfl⟩:=gB j;rw[PP h1,PP D];exact aeF hT J R I h4 h
     .cases j
    .cases j
   case cap=>
    unfold AO at j;dsimp only at j;split at j
    .rename_i y U h1 D;split at j
     .rename_i sz I;obtain⟨xo,h4,rfl⟩:=gB j;rw[PP h1,PP D];exact agE hT J R I h4 h
     .cases j
    .cases j
   case append=>
    unfold AO at j;dsimp only at j;split at j
    .rename_i y z U W h1 D;split at j
     .rename_i e sz by_ zs I;cases hb:Nat.beq U W with
      |false=>
       rw[hb] at j;split at j
       .rename_i kk h6;obtain⟨xo,yo,h4,h5,rfl⟩:=mN j;rw[XY h1,XY D];exact aeB hT J R I h6 h4 h5 h
       .cases j
      |true=>rw[hb] at j;obtain⟨xo,yo,h4,h5,rfl⟩:=mN j;have e:=dF hb;subst e;rw[XY h1,XY D];exact af3 hT J R I h4 h5 h
     .cases j
    .cases j
   case max=>
    unfold AO at j;dsimp only at j;split at j
    .rename_i y r h1;split at j
     .rename_i xo xs D I;injection j with j;subst j;exact afV hT J R h1 D I h
     .cases j
    .cases j
   case min=>
    unfold AO at j;dsimp only at j;split at j
    .rename_i y r h1;split at j
     .rename_i xo xs D I;injection j with j;subst j;exact afS hT J R h1 D I h
     .cases j
    grind
   case clear=>
    unfold AO at j;dsimp only at j;split at j
    .rename_i y U h1 D;split at j
     .rename_i e sz by_ zs I;obtain⟨xo,h4,rfl⟩:=gB j;rw[PP h1,PP D];exact agU hT J R I h4 h
     grind
    grind
   all_goals cases j
 all_goals cases j
end
section
variable {P:Program}{eO:Array Oper}{o:Oper}{TT:TX}{n m N:Nat}{L:LX}{T:Tr XV}{H:Tr Bx}{x:XV}
variable {N':Nat}{H':Tr Bx}{g:Lg}{call:fV}
theorem Kn {gq:Option (XO×Bool)}(D:cG m eO o=some gq) (j:gdX gq L T=some b) (ht:zq A Z w β (ek eO o) (TS m L T) a):xc o eO a=b:=by
 unfold cG at D;unfold xc Region.wanted;cases J:o.guard with
 |none=>rw[J] at D;injection D with D;subst D;injection j with j
 |some gb=>
  obtain⟨gi,gv⟩:=gb;rw[J] at D;dsimp only at D⊢;unfold yielded;cases h1:(eO[gi]?).bind (·.dst) with
  |none=>rw[h1] at D;cases D
  |some t=>
   rw[h1] at D;obtain⟨xo,h2,h3⟩:=sb D;subst h3;obtain⟨v,hv,j⟩:=aE (show oO (xo.get L T) (fun v=>@XV.rec (fun _=>Option Bool) (fun a=>aB a fun b=>some (b==gv)) (fun _ _=>none) (fun _=>none) (some false) v)=some b from j);have hl:ek eO o t:=List.mem_append_right _ (by rw[J];simp[h1]);obtain⟨u,e,R⟩:=ht t v hl (LN h2 hv);simp only[Option.bind_some,e];cases v with
   |c a'=>obtain⟨c,q,j⟩:=BH j;subst q;have I:u=.bool c:=RdA.b_eq R;subst I;injection j with j
   |a _ _=>cases j
   |t _=>cases j
   |u=>have I:u=undef:=R;subst I;injection j with j
theorem LL (t d:Nat) (y:XV) (L:LX):Ff t ((d,y)::L)=if d=t then some y else Ff t L:=by show @Bool.rec (fun _=>Option XV) (Ff t L) (some y) (Nat.beq d t)=_;rw[sK]
theorem ER {κ:LX->Tr XV->Ro}: ∃j D,Pn d (WC m d) x L T κ=κ j D/\ ∀t y,TS m j D t=some y->FM d x (TS m L T) t=some y:=by
 cases d with
 |none=>exact⟨L,T,rfl,fun t y h=>h⟩
 |some d=>
  show ∃j D,@Bool.rec (fun _=>Ro) (κ L (T.set x d)) (κ ((d,x)::L) T) (m.testBit d)=κ j D/\_;cases R:m.testBit d with
  |true=>
   refine⟨(d,x)::L,T,rfl,fun t y h=>?_⟩;unfold TS at h;unfold FM TS;cases I:m.testBit t with
   |true=>
    rw[LL] at h;by_cases e:d=t;·grind
    grind
   |false=>grind
  |false=>
   refine⟨L,T.set x d,rfl,fun t y h=>?_⟩;unfold TS at h;unfold FM TS;cases I:m.testBit t with
   |true=>grind
   |false=>
    rw[I] at h;rcases Tr.set_get T d t h with⟨e1,J⟩|⟨e1,J⟩;·grind
    grind
theorem JC (h:Xc P n m eO o=some i):(∀t,o.dst=some t->t<n)/\i.dst=o.dst/\i.lo=WC m o.dst/\cG m eO o=some i.g/\(AO P m o.op=some i.k\/i.k=aah):=by
 unfold Xc at h;cases j:aaI n o.dst with
 |false=>rw[j] at h;cases h
 |true=>
  rw[j] at h;split at h
  .rename_i gq k h1 I;injection h with h;subst h;refine⟨fun t D=>?_,rfl,rfl,h1,.inl I⟩;rw[D] at j;exact dj.1 j
  .rename_i gq h1 I;injection h with h;subst h;refine⟨fun t D=>?_,rfl,rfl,h1,.inr rfl⟩;rw[D] at j;exact dj.1 j
  grind
structure Did (P:Program) (eO:Array Oper) (o:Oper) (n m:Nat) (L:LX) (T:Tr XV) (N:Nat) (H:Tr Bx) (e:Evt) (L':LX) (T':Tr XV) (H':Tr Bx) (g:Lg):Prop where
 run:QQ P eO o (TS m L T) e\/J7 eO o (TS m L T) e
 nm:e.N=N
 le:N<=e.N'
 tmp: ∀t y,TS m L' T' t=some y->FM o.dst e.x (TS m L T) t=some y
 tok:l6 (TS m L' T')
 hok:jJ H'
 hlt:jN e.N' H'
 sub: ∀k c,e.Hv k=some c->HS H k=some c
 put: ∀k c,HS H' k=some c->iK (HS H) e.Hv e.Hv' k=some c
 foot:Foot N e.N' H H' e.Hv e.Hv' g
 dn: ∀t,o.dst=some t->t<n
theorem zS (hT:l6 (TS m L T)) (hO:jJ H) (hL:jN N H) (a4:jU P call) (hi:Xc P n m eO o=some i) (hr:WK call i L T N H κ≠ .no):∃e R J H' g,WK call i L T N H κ=κ R J e.N' H' g/\Did P eO o n m L T N H e R J H' g:=by
 obtain⟨a5,hd,a6,hg,hk⟩:=JC hi
 have a3: ∀ {x:XV}{R J},Bc x->(∀t y,TS m R J t=some y->FM o.dst x (TS m L T) t=some y)->l6 (TS m R J):=by
  intro x R J hx h t y ht;have:=h t y ht;unfold FM at this;split at this;·grind
  .exact hT t y this
 cases I:gdX i.g L T with
 |none=>
  exfalso
  apply hr
  show @Option.rec Bool (fun _=>Ro) .no _ (gdX i.g L T)=.no
  rw[I]
 |some b=>
  cases b with
  |false=>
   have e1:WK call i L T N H κ=Pn i.dst i.lo .u L T fun L T=>κ L T N H .p:=by show @Option.rec Bool (fun _=>Ro) .no _ (gdX i.g L T)=_;rw[I]
   rw[hd,a6] at e1
   obtain⟨R,J,e2,j⟩:=ER
   have hf:Foot N N H H e0 e0 .p:=⟨rfl,rfl,rfl⟩
   refine⟨⟨.u,e0,e0,N,N⟩,R,J,H,.p,e1.trans e2,.inr ⟨rfl,rfl,fun V A β a w ht=>?_⟩,rfl,bk _,j,a3 (x:=.u) trivial j,hO,hL,fun k c h=>(by cases h),fun k c h=>(by show iK (HS H) e0 e0 k=_;rw[Gs];exact h),hf,a5⟩
   exact Kn hg I ht
  |true=>
   have e1:WK call i L T N H κ= @Option.rec Rs (fun _=>Ro) .no (fun r=>@Rs.rec (fun _=>Ro) (fun x N' H' g=>Pn i.dst i.lo x L T fun L T=>κ L T N' H' g) r) (i.k call L T N H):=by show @Option.rec Bool (fun _=>Ro) .no _ (gdX i.g L T)=_;rw[I]
   cases D:i.k call L T N H with
   |none=>
    exfalso
    apply hr
    rw[e1,D]
   |some r=>
    obtain⟨x,N',H',g⟩:=r
    have hk:AO P m o.op=some i.k:=by
     rcases hk with hk|hk;·grind
     .rw[hk] at D;cases D
    have e2:WK call i L T N H κ=Pn i.dst i.lo x L T fun L T=>κ L T N' H' g:=by rw[e1,D]
    rw[hd,a6] at e2
    obtain⟨R,J,e3,j⟩:=ER
    obtain⟨h1,h2,h3,h4,Hv,Hv',h5,h6,h7,h8⟩:=OJ hT hO hL a4 hk D
    exact⟨⟨x,Hv,Hv',N,N'⟩,R,J,H',g,e2.trans e3,.inl fun V A β a w hA hm ht=>⟨Kn hg I ht,h5 V A β a w hA hm ht⟩,rfl,h1,j,a3 h2 j,h3,h4,h6,h7,h8,a5⟩
theorem StX.less (h:StX V A n T1 H1 β a w) (R: ∀t y,T2 t=some y->T1 t=some y) (D: ∀k c,H2 k=some c->H1 k=some c):StX V A n T2 H2 β a w:=by
 refine⟨h.mem.sub D,h.dfr,h.siz,fun t y ht=>?_⟩;obtain⟨v,e,J⟩:=h.tmp t y (R t y ht);have j:Keep (Zs V H1 β) (Zs V H2 β) w w:=⟨Nat.le_refl _,fun _ _ _=>rfl,fun b _ hb=>hb.imp id fun⟨k,I,e⟩=>⟨k,(by
  cases q:H2 k with
  |none=>exact absurd q I
  |some c=>rw[D k c q];simp),e⟩⟩
 exact⟨v,e,J.mono j (fun _ h=>h) (fun _ _=>rfl)⟩
def Ends (_P:Program) (n _m:Nat) (V A:Nat->Prop) (N:Nat) (H:HF) (β:Nat->Pl) (w:World) (N':Nat) (D:TX) (H':HF) (j:Act) (w':World):Prop:=
 ∃A' β',(∀k,A k->A' k)/\(∀k,A' k->Ad A N N' k)/\Hst N N' A H β w H' β' w'/\StX V A' n D H' β' j w'
theorem Dv {N:Nat}(J: ∀k,A k-> ¬(N<=k/\k<N2)) (h: ∀k,A' k->Ad A N N1 k) (j:N<=N1): ∀k,A' k-> ¬(N1<=k/\k<N2):=by
 intro k D ⟨I,R⟩;rcases h k D with h|h;·grind
 grind
theorem Ql {N:Nat}(h: ∀k,A' k->Ad A N N1 k) (h1:N<=N1) (D:N1<=N2): ∀k,Ad A' N1 N2 k->Ad A N N2 k:=by
 intro k j;rcases j with j|j
 .rcases h k j with g|g;·exact .inl g
  .exact .inr ⟨g.1,by omega⟩
 .exact .inr ⟨by omega,j.2⟩
theorem GZ {y:XV}(h:TS m [] T t=some y):TS m L T t=some y:=by
 unfold TS at h⊢;cases j:m.testBit t with
 |true=>rw[j] at h;cases h
 |false=>rw[j] at h;exact h
theorem xe (D:jU P call) {Q:Exit->Act->World->Prop}: ∀(l:List Oper) (is:List XI) (L:LX) (T:Tr XV) (N:Nat) (H:Tr Bx),lE (Xc P n m eO) l=some is->l6 (TS m L T)->jJ H->jN N H->K7 call is L T N H≠ .no-> ∃T' N' H',K7 call is L T N H=.n T' N' H'/\N<=N'/\l6 (TS m [] T')/\jJ H'/\jN N' H'/\ ∀V A β a w,(∀k,A k-> ¬(N<=k/\k<N'))->StX V A n (TS m L T) (HS H) β a w-> (∀a' w',Ends P n m V A N (HS H) β w N' (TS m [] T') (HS H') a' w'->Q .normal a' w')->wpList P eO Q l a w
 |[],is,L,T,N,H,hl,hT,hO,hL,_=>by injection hl with hl;subst hl;refine⟨T,N,H,rfl,bk _,fun t y h=>hT t y (GZ h),hO,hL,fun V A β a w _ I hQ=>?_⟩;exact hQ a w ⟨A,β,fun _ h=>h,fun _ h=>.inl h,Hst.refl,I.less (fun t y h=>GZ h) (fun _ _ h=>h)⟩
 |o::l,is,L,T,N,H,hl,hT,hO,hL,hr=>by
  unfold lE at hl;split at hl;·cases hl
  .rename_i i hi;split at hl;·cases hl
   .rename_i J a5;injection hl with hl;subst hl;have a3:K7 call (i::J) L T N H=WK call i L T N H fun L T N H _=>K7 call J L T N H:=rfl;rw[a3] at hr;obtain⟨e,L',T',H',g,e1,j⟩:=zS hT hO hL D hi hr;rw[e1] at hr;obtain⟨T2,N2,H2,e2,k1,k2,k3,k4,k5⟩:=xe D l J L' T' e.N' H' a5 j.tok j.hok j.hlt hr;refine⟨T2,N2,H2,a3.trans (e1.trans e2),gG j.le k1,k2,k3,k4,fun V A β a w hA I hQ=>?_⟩;unfold wpList;have hf: ∀k,A k-> ¬(e.N<=k/\k<e.N'):=fun k R hh=>hA k R ⟨by rw[<-j.nm];exact hh.1,kW hh.2 k1⟩;refine I.step j.run (fun t y _ h=>h) j.sub hf j.dn (fun A' β' a' w' g1 g2 g3 g4=>?_);rw[j.nm] at g2 g3;refine k5 V A' β' a' w' (Dv hA g2 j.le) (g4.less j.tmp j.put) (fun a2 w2 ⟨A2,a4,f1,f2,f3,f4⟩=>?_);refine hQ a2 w2 ⟨A2,a4,fun k R=>f1 k (g1 k R),fun k R=>Ql g2 j.le k1 k (f2 k R),?_,f4⟩;exact((g3.less j.put).wide (bk _) k1).trans g1 (f3.wide j.le (bk _))
end
abbrev PE:=Oper×Evt
def fT (l:List PE) (T:TX):TX:=l.foldl (fun T p=>FM p.1.dst p.2.x T) T
def fH (l:List PE) (H:HF):HF:=l.foldl (fun H p=>iK H p.2.Hv p.2.Hv') H
section
variable {γ:Type}
def AX (F:Nat->Option γ) (u:Nat->Option (Option γ)):Nat->Option γ:=fun t=>(u t).getD (F t)
theorem CT: ∀(us:List (Nat->Option (Option γ))) (i:Nat) (F:Nat->Option γ),iq (fun j=>decide (j<i)) 0 us F=(us.take i).foldl AX F
 |[],i,F=>by simp[iq]
 |u::us,0,F=>by rw[List.take_zero];exact funext fun t=>iV _ _ _ (fun j u _ hm=>by simp at hm)
 |u::us,i+1,F=>by rw[List.take_succ_cons,re,<-CT us i];show iq (fun j=>decide (j<i+1)) (0+1) us (if decide (0<i+1)=true then(fun t=>(u t).getD (F t)) else F)=_;rw[ni,if_pos (by simp)];congr 1;funext j;simp
theorem Gd: ∀(us:List (Nat->Option (Option γ))) (F:Nat->Option γ),iq (fun _=>true) 0 us F=us.foldl AX F
 |[],F=>rfl
 |u::us,F=>by rw[re,<-Gd us];show iq (fun _=>true) (0+1) us (if true=true then(fun t=>(u t).getD (F t)) else F)=_;rw[ni,if_pos rfl];rfl
end
section
variable {P:Program}{eO:Array Oper}{n m:Nat}{call:fV}
theorem Ep {j:Type}(f:Oper->Evt->j): ∀(l:List PE),List.zipWith f (l.map Prod.fst) (l.map Prod.snd)=l.map fun p=>f p.1 p.2
 |[]=>rfl
 |p::l=>by simp[Ep f l]
theorem afK (T:TX) (p:PE):AX T (Sy p.1.dst p.2)=FM p.1.dst p.2.x T:=by funext t;unfold AX Sy FM;split<;>rfl
theorem Up: ∀(l:List PE) (T:TX),(l.map fun p=>Sy p.1.dst p.2).foldl AX T=fT l T
 |[],_=>rfl
 |p::l,T=>by rw[lQ,re,Up l,afK];rfl
theorem aeX {e:Evt}(h: ∀k c,e.Hv k=some c->H k=some c):AX H (uH e)=iK H e.Hv e.Hv':=by
 funext k;unfold AX;by_cases j:e.Hv' k=e.Hv k
 .rw[show uH e k=none from by unfold uH;rw[if_pos j]];unfold iK;grind
 .rw[aai j];unfold iK;grind
theorem Q8: ∀(l:List PE) (H:HF),(∀(j:Nat) (p:PE),l[j]? =some p-> ∀k c,p.2.Hv k=some c->fH (l.take j) H k=some c)->(l.map fun p=>uH p.2).foldl AX H=fH l H
 |[],_,_=>rfl
 |p::l,H,h=>by have h0: ∀k c,p.2.Hv k=some c->H k=some c:=h 0 p rfl;rw[lQ,re,aeX h0,Q8 l _ (fun j q D=>h (j+1) q (by simpa using D))];rfl
def pO (Hv Hv':HF):Lg->Prop
 | .p=>Hv=e0/\Hv'=e0
 | .r k=>(∀j,j≠k->Hv j=none)/\Hv'=Hv
 | .w k=> ∀j,j≠k->Hv j=none/\Hv' j=none
 | .nw k=>Hv=e0/\ ∀j,j≠k->Hv' j=none
 | .c K K'=>Hv=HS K/\Hv'=HS K'
theorem Foot.c {N N':Nat}{H:Tr Bx}(h:Foot N N' H H' Hv Hv' g):pO Hv Hv' g:=by
 cases g with
 |p=>exact⟨h.1,h.2.1⟩
 |r k=>exact⟨h.1,h.2.1⟩
 |w k=>exact h.1
 |nw k=>exact⟨h.2.2.1,h.2.2.2⟩
 |c K K'=>exact⟨h.1,h.2.1⟩
def Clear (Hv Hv' Hw Hw':HF):Prop:= ∀k,(Hv' k≠Hv k->Hw k=none/\Hw' k=none)/\(Hw' k≠Hw k->Hv k=none/\Hv' k=none)
theorem Gu: ∀ {x y:AV},yY x y=true->x=y
 | .b _,y,h=>by cases y<;>simp[yY] at h;subst h;rfl
 | .i _ _,y,h=>by cases y<;>simp[yY] at h;obtain⟨h1,j⟩:=h;subst h1 j;rfl
 | .l _,y,h=>by cases y<;>simp[yY] at h;subst h;rfl
 | .p _ _,y,h=>by cases y<;>simp[yY] at h;obtain⟨h1,j⟩:=h;subst h1 j;rfl
 | .s _ _ _ _ _ _,y,h=>by cases y<;>simp[yY] at h;obtain⟨⟨⟨⟨⟨h1,j⟩,I⟩,J⟩,D⟩,R⟩:=h;subst h1 j I J D R;rfl
 | .z,y,h=>by cases y<;>simp[yY] at h;rfl
 | .ev,y,h=>by cases y<;>simp[yY] at h
 | .np,y,h=>by cases y<;>simp[yY] at h;rfl
 | .f0 _,y,h=>by cases y<;>simp[yY] at h;subst h;rfl
 | .fc a b,y,h=>by cases y<;>simp[yY] at h;obtain⟨h1,j⟩:=h;rw[Gu h1,Gu j]
theorem G6: ∀ {x y:Rp},Lf x y=true->x.flat=y.flat
 | .e,y,h=>by cases y<;>simp[Lf] at h;rfl
 | .c _,y,h=>by cases y<;>simp[Lf] at h;rw[Gu h]
 | .n _ _ l r,y,h=>by cases y<;>simp[Lf] at h;obtain⟨h1,j⟩:=h;show l.flat++r.flat=_;rw[G6 h1,G6 j];rfl
theorem F4 (h:Ec (K.get k) (K'.get k)=true):HS K k=HS K' k:=by
 unfold HS;cases h1:K.get k with
 |none=>
  cases j:K'.get k with
  |none=>rfl
  |some b=>rw[h1,j] at h;simp[Ec] at h
 |some b=>
  cases j:K'.get k with
  |none=>rw[h1,j] at h;simp[Ec] at h
  |some D=>rw[h1,j] at h;simp[Ec] at h;obtain⟨I,J⟩:=h;show some (b.U,b.r.flat)=some (D.U,D.r.flat);rw[I,G6 J]
theorem qf (h:t7 K k=true):HS K k=none:=by
 unfold t7 at h;unfold HS;cases h1:K.get k with
 |none=>rfl
 |some b=>rw[h1] at h;cases h
theorem tx:Clear e0 e0 Hw Hw':=fun _k=>⟨fun h=>absurd rfl h,fun _=>⟨rfl,rfl⟩⟩
theorem Clear.symm (h:Clear Hv Hv' Hw Hw'):Clear Hw Hw' Hv Hv':=fun k=>⟨(h k).2,(h k).1⟩
theorem Jg {a b:Nat}(h:(!Nat.beq a b)=true):a≠b:=fun e=>by subst e;rw[tN] at h;cases h
theorem yu (h1:pO Hv Hv' (.r k)) (D: ∀j,j≠k'->Hw j=none/\Hw' j=none) (J:k≠k'):Clear Hv Hv' Hw Hw':=fun j=>by
 obtain⟨h1,e⟩:=h1;subst e;refine⟨fun h=>absurd rfl h,fun h=>?_⟩;by_cases I:j=k;·exact absurd (by rw[(D j (by omega)).1,(D j (by omega)).2]) h
 .exact⟨h1 j I,h1 j I⟩
theorem ya (h1: ∀j,j≠k->Hv j=none/\Hv' j=none) (D: ∀j,j≠k'->Hw j=none/\Hw' j=none) (J:k≠k'):Clear Hv Hv' Hw Hw':=fun j=>by
 constructor
 .intro h;by_cases I:j=k';·exact absurd (by rw[(h1 j (by omega)).1,(h1 j (by omega)).2]) h
  .exact D j I
 .intro h;by_cases I:j=k;·exact absurd (by rw[(D j (by omega)).1,(D j (by omega)).2]) h
  .exact h1 j I
theorem yp (h1: ∀j,j≠k->Hv j=none/\Hv' j=none) (I:Hw k=none) (J:Hw' k=none):Clear Hv Hv' Hw Hw':=fun j=>by
 constructor
 .intro h;by_cases D:j=k;·subst D;exact⟨I,J⟩
  .exact absurd (by rw[(h1 j D).1,(h1 j D).2]) h
 .intro h;by_cases D:j=k;·subst D;exact absurd (by rw[I,J]) h
  .exact h1 j D
theorem I0 (h1:pO Hv Hv' (.r k)) (I:Hw k=Hw' k):Clear Hv Hv' Hw Hw':=fun j=>by
 obtain⟨h1,e⟩:=h1;subst e;refine⟨fun h=>absurd rfl h,fun h=>?_⟩;by_cases D:j=k;·subst D;exact absurd I.symm h
 .exact⟨h1 j D,h1 j D⟩
theorem nw2 (h:pO Hv Hv' (.nw k)): ∀j,j≠k->Hv j=none/\Hv' j=none:=fun j D=>⟨by rw[h.1];rfl,h.2 j D⟩
theorem qA {I:Lg}(h1:pO Hv Hv' g) (D:pO Hw Hw' I) (h:apart g I=true):Clear Hv Hv' Hw Hw':=by
 cases g with
 |p=>obtain⟨rfl,rfl⟩:=h1;exact tx
 |r k=>
  cases I with
  |p=>obtain⟨rfl,rfl⟩:=D;exact tx.symm
  |r k'=>obtain⟨_,rfl⟩:=h1;obtain⟨_,rfl⟩:=D;exact fun j=>⟨fun h=>absurd rfl h,fun h=>absurd rfl h⟩
  |w k'=>exact yu h1 D (Jg h)
  |nw k'=>exact yu h1 (nw2 D) (Jg h)
  |c K K'=>obtain⟨rfl,rfl⟩:=D;exact I0 h1 (F4 h)
 |w k=>
  cases I with
  |p=>obtain⟨rfl,rfl⟩:=D;exact tx.symm
  |r k'=>exact(yu D h1 (Jg h)).symm
  |w k'=>exact ya h1 D (Jg h)
  |nw k'=>exact ya h1 (nw2 D) (Jg h)
  |c K K'=>obtain⟨rfl,rfl⟩:=D;have h:(t7 K k&&t7 K' k)=true:=h;rw[di] at h;exact yp h1 (qf h.1) (qf h.2)
 |nw k=>
  cases I with
  |p=>obtain⟨rfl,rfl⟩:=D;exact tx.symm
  |r k'=>exact(yu D (nw2 h1) (Jg h)).symm
  |w k'=>exact ya (nw2 h1) D (Ne.symm (Jg h))
  |nw k'=>exact ya (nw2 h1) (nw2 D) (Jg h)
  |c K K'=>obtain⟨rfl,rfl⟩:=D;have h:(t7 K k&&t7 K' k)=true:=h;rw[di] at h;exact yp (nw2 h1) (qf h.1) (qf h.2)
 |c K K'=>
  cases I with
  |p=>obtain⟨rfl,rfl⟩:=D;exact tx.symm
  |r k'=>obtain⟨rfl,rfl⟩:=h1;exact(I0 D (F4 h)).symm
  |w k'=>obtain⟨rfl,rfl⟩:=h1;have h:(t7 K k'&&t7 K' k')=true:=h;rw[di] at h;exact(yp D (qf h.1) (qf h.2)).symm
  |nw k'=>obtain⟨rfl,rfl⟩:=h1;have h:(t7 K k'&&t7 K' k')=true:=h;rw[di] at h;exact(yp (nw2 D) (qf h.1) (qf h.2)).symm
  |c _ _=>cases h
theorem vW {mk:Nat}{g:Lg}: ∀ {l:D3},zI mk g l=true-> ∀j I,(j,I)∈l->mk.testBit j=false->apart I g=true
 |[],_,j,I,h,_=>by cases h
 |(i,q)::l,D,j,I,h,hb=>by
  have D: @Bool.rec (fun _=>Bool) (bA (apart q g) (zI mk g l)) (zI mk g l) (mk.testBit i)=true:=D;rcases dt.1 h with h|h
  .injection h with h1 R;subst h1 R;rw[hb] at D;have D:bA (apart I g) (zI mk g l)=true:=D;rw[Qs,di] at D;exact D.1
  .refine vW ?_ j I h hb;cases J:mk.testBit i with
   |true=>rw[J] at D;exact D
   |false=>rw[J] at D;have D:bA (apart q g) (zI mk g l)=true:=D;rw[Qs,di] at D;exact D.2
end
section
variable {P:Program}{eO:Array Oper}{o:Oper}{n m N:Nat}{L:LX}{T:Tr XV}{H:Tr Bx}{call:fV}
theorem Es {D:List Nat}{j:Nat}: ∀(l:List Nat) (I:Nat),(l.foldl (fun m j=>m|||2^j|||D.getD j 0) I).testBit j=true->I.testBit j=true\/ ∃b∈l,j=b\/(D.getD b 0).testBit j=true
 |[],I,h=>.inl h
 |b::l,I,h=>by
  rcases Es l _ h with h|⟨J,R,h⟩
  .rw[Nat.testBit_or,Nat.testBit_or,rV,rV] at h;rcases h with(h|h)|h;·exact .inl h
   .rw[Nat.testBit_two_pow] at h;have h:b=j:=by simpa using h
    exact .inr ⟨b,fC ..,.inl h.symm⟩
   .exact .inr ⟨b,fC ..,.inr h⟩
  .exact .inr ⟨J,fv _ R,h⟩
def ado (eO:Array Oper) (D:List Nat):Prop:= ∀(i mk:Nat),D[i]? =some mk-> ∀j,mk.testBit j=true->Prec eO j i
theorem BV: ∀(l:List Oper) (D:List Nat),(∀k,k<l.length->l[k]? =eO[D.length+k]?)->ado eO D->ado eO (l.foldl (fun D o=>D++[Kf D o]) D)/\(l.foldl (fun D o=>D++[Kf D o]) D).length=D.length+l.length
 |[],D,_,hi=>⟨hi,rfl⟩
 |o::l,D,hl,hi=>by
  have ho:eO[D.length]? =some o:=by have:=hl 0 (by simp);simpa using this.symm
  have J:ado eO (D++[Kf D o]):=by
   intro i mk I j hj;by_cases hlt:i<D.length
   .rw[ui hlt] at I;exact hi i mk I j hj
   .have a3:=(fM.1 I).1;have e:i=D.length:=by grind
    subst e;simp at I;subst I;rcases Es (bP o) 0 hj with h|⟨b,hb,h⟩;·grind
    .rcases h with h|h;·subst h;exact .one ho hb
     .refine Prec.tr ?_ (.one ho hb);cases R:D[b]? with
      |none=>rw[BW,R] at h;simp at h
      |some mk=>rw[BW,R] at h;exact hi b mk R j h
  obtain⟨h1,h2⟩:=BV l (D++[Kf D o]) (fun k hk=>by have:=hl (k+1) (by simpa using hk);rw[dB];simp only[uh,List.length_nil];rw[show D.length+(0+1)+k=D.length+(k+1) by omega];simpa using this) J
  refine⟨h1,?_⟩;rw[re,h2];simp;omega
structure DidC (P:Program) (eO:Array Oper) (o:Oper) (n m:Nat) (L:LX) (T:Tr XV) (N:Nat) (H:Tr Bx) (e:Evt) (L':LX) (T':Tr XV) (H':Tr Bx) (g:Lg):Prop where
 run:QQ P eO o (TS m L T) e\/J7 eO o (TS m L T) e
 nm:e.N=N
 le:N<=e.N'
 tmp: ∀t y,TS m L' T' t=some y->FM o.dst e.x (TS m L T) t=some y
 tok:l6 (TS m L' T')
 hok:jJ H'
 hlt:jN e.N' H'
 sub: ∀k c,e.Hv k=some c->HS H k=some c
 put: ∀k c,HS H' k=some c->iK (HS H) e.Hv e.Hv' k=some c
 foot:pO e.Hv e.Hv' g
theorem aca {j:Nat}{c}(h:HS (H.del k) j=some c):j≠k/\HS H j=some c:=by
 unfold HS at h⊢;cases D:(H.del k).get j with
 |none=>rw[D] at h;cases h
 |some J=>obtain⟨I,r2⟩:=Tr.del_get H k j D;grind
theorem Br: ∀ {hs:List Nat}{H:Tr Bx}{j:Nat}{c},HS (O4 H hs) j=some c->j∉hs/\HS H j=some c
 |[],H,j,c,h=>⟨by simp,h⟩
 |k::hs,H,j,c,h=>by obtain⟨h1,D⟩:=Br (hs:=hs) h;obtain⟨I,J⟩:=aca D;exact⟨by simp[I,h1],J⟩
theorem B8: ∀ {hs:List Nat}{H:Tr Bx}{j:Nat}{b:Bx},(O4 H hs).get j=some b->H.get j=some b
 |[],_H,_j,_b,h=>h
 |k::_,H,j,_b,h=>(Tr.del_get H k j (B8 h)).2
theorem Eq {H0 Hc:Tr Bx}(D:jJ H0) (I:jN N H0): ∀ {hs:List Nat}{H H2:Tr Bx},Ik H0 Hc hs H=some H2->jJ H->jN N H->jJ H2/\jN N H2/\ ∀j c,HS H2 j=some c->HS H j=some c\/(j∈hs/\HS H0 j=some c/\HS Hc j=none)
 |[],H,H2,h,hO,hL=>by injection h with h;subst h;exact⟨hO,hL,fun j c h=>.inl h⟩
 |k::hs,H,H2,h,hO,hL=>by
  unfold Ik at h;split at h
  .rename_i b h1 J;obtain⟨g1,g2,g3⟩:=Eq D I h (oI hO (D k b J).1 (D k b J).2) (oR hL (bk _) (I k b J));refine⟨g1,g2,fun j c hj=>?_⟩;rcases g3 j c hj with q|⟨q1,q2,q3⟩
   .rcases pi q with⟨e1,R⟩|⟨_,R⟩
    .subst e1 R;exact .inr ⟨by simp,rm J,by unfold HS;rw[h1];rfl⟩
    .exact .inl R
   .exact .inr ⟨by simp[q1],q2,q3⟩
  .cases h
theorem Lv (hT:l6 (TS m L T)) (hO:jJ H) (hL:jN N H) (I:jU P call) (hi:Xc P n m eO o=some i) {hs:List Nat}(hr:OX call i hs L T N H κ≠ .no):∃e L' R H' g,OX call i hs L T N H κ=κ L' R e.N' H' g/\DidC P eO o n m L T N H e L' R H' g:=by
 cases hs with
 |nil=>
  obtain⟨e,L',R,H',g,e1,D⟩:=zS hT hO hL I hi hr
  exact⟨e,L',R,H',g,e1,D.run,D.nm,D.le,D.tmp,D.tok,D.hok,D.hlt,D.sub,D.put,D.foot.c⟩
 |cons h t=>
  have a6:jJ (O4 H (h::t)):=fun j b hj=>hO j b (B8 hj)
  have b3:jN N (O4 H (h::t)):=fun j b hj=>hL j b (B8 hj)
  obtain⟨e,L',R,H',g,e1,D⟩:=zS hT a6 b3 I hi (κ:=fun L T N H' g=>bI (Sc g) (@Option.rec (Tr Bx) (fun _=>Ro) .no (fun H2=>κ L T N H2 g) (Ik H H' (h::t) H')) .no) hr
  have a5:OX call i (h::t) L T N H κ=bI (Sc g) (@Option.rec (Tr Bx) (fun _=>Ro) .no (fun H2=>κ L' R e.N' H2 g) (Ik H H' (h::t) H')) .no:=e1
  have a4:Sc g=true:=by
   cases hq:Sc g with
   |true=>rfl
   |false=>rw[a5,hq] at hr;exact absurd rfl hr
  have a3:OX call i (h::t) L T N H κ= @Option.rec (Tr Bx) (fun _=>Ro) .no (fun H2=>κ L' R e.N' H2 g) (Ik H H' (h::t) H'):=by rw[a5,a4];rfl
  cases ha:Ik H H' (h::t) H' with
  |none=>rw[a3,ha] at hr;exact absurd rfl hr
  |some H2=>
   rw[ha] at a3
   have b4:jN e.N' H:=fun j b hj=>kW (hL j b hj) D.le
   obtain⟨g1,g2,g3⟩:=Eq hO b4 ha D.hok D.hlt
   refine⟨e,L',R,H2,g,a3,D.run,D.nm,D.le,D.tmp,D.tok,g1,g2,fun k c hk=>(Br (D.sub k c hk)).2,fun k c hk=>?_,D.foot.c⟩
   rcases g3 k c hk with q|⟨q1,q2,q3⟩
   .have hp:=D.put k c q
    rcases zj hp with r|⟨r1,r2,r3⟩
    .unfold iK;rw[r]
    .unfold iK;rw[r1,r2];exact(Br r3).2
   ·--a hidden box
    have hv:e.Hv k=none:=by
     cases J:e.Hv k with
     |none=>rfl
     |some d=>exact absurd q1 (Br (D.sub k d J)).1
    have a9:e.Hv' k=none:=by
     cases J:e.Hv' k with
     |none=>rfl
     |some d=>
      have hf:=D.foot;cases g with
      |p=>obtain⟨_,h2,_⟩:=hf;rw[h2] at J;cases J
      |r b=>obtain⟨_,h2,_⟩:=hf;rw[h2,hv] at J;cases J
      |w b=>cases a4
      |nw b=>cases a4
      |c K K'=>obtain⟨_,h2,_,h4⟩:=hf;rw[h2,h4,q3] at J;cases J
    unfold iK;rw[a9,hv];exact q2
end
section
variable {P:Program}{eO:Array Oper}{n m:Nat}{call:fV}
def pd (lr lw:D3) (j:Nat) (g:Lg):Prop:=(j,g)∈lw\/((j,g)∈lr/\ ∃b,g=.r b)
theorem QA {x:Ro}(h:bI b x .no≠ .no):b=true:=by
 cases b with
 |true=>rfl
 |false=>exact absurd rfl h
theorem O6 {κ:D3->D3->Ro}(h:FS mk k g lr lw κ≠ .no):FS mk k g lr lw κ=κ lr ((k,g)::lw)/\ ∀j D Hv Hv' Hw Hw',pd lr lw j D->mk.testBit j=false->pO Hv Hv' D->pO Hw Hw' g->Clear Hv Hv' Hw Hw':=by
 have h1:=QA h;have e1:FS mk k g lr lw κ=bI (zI mk g lr) (κ lr ((k,g)::lw)) .no:=by unfold FS;rw[h1];rfl
 rw[e1] at h;have I:=QA h;refine⟨by rw[e1,I];rfl,fun j D Hv Hv' Hw Hw' hl R f1 J=>?_⟩;rcases hl with hl|⟨hl,_⟩;·exact qA f1 J (vW h1 j D hl R)
 .exact qA f1 J (vW I j D hl R)
theorem PD {κ:D3->D3->Ro}(h:XB mk k g lr lw κ≠ .no): ∃I J,XB mk k g lr lw κ=κ I J/\(∀j D,pd lr lw j D->pd I J j D)/\(g=.p\/pd I J k g)/\ ∀j D Hv Hv' Hw Hw',pd lr lw j D->mk.testBit j=false->pO Hv Hv' D->pO Hw Hw' g->Clear Hv Hv' Hw Hw':=by
 have hB: ∀ {g:Lg},FS mk k g lr lw κ≠ .no-> ∃I J,FS mk k g lr lw κ=κ I J/\(∀j D,pd lr lw j D->pd I J j D)/\(g=.p\/pd I J k g)/\
  ∀j D Hv Hv' Hw Hw',pd lr lw j D->mk.testBit j=false->pO Hv Hv' D->pO Hw Hw' g->Clear Hv Hv' Hw Hw':=fun{g} h=>by
  obtain⟨h1,h2⟩:=O6 h
  exact⟨lr,(k,g)::lw,h1,fun j D hl=>hl.imp (fun q=>fv _ q) id,.inr (.inl (fC ..)),h2⟩
 cases g with
 |p=>exact⟨lr,lw,rfl,fun _ _ h=>h,.inl rfl,fun j D Hv Hv' Hw Hw' _ _ _ R=>by obtain⟨rfl,rfl⟩:=R;exact tx.symm⟩
 |r b=>
  have h1:=QA h
  refine⟨(k,.r b)::lr,lw,?_,fun j D hl=>hl.imp id fun q=>⟨List.mem_cons_of_mem _ q.1,q.2⟩,.inr (.inr ⟨List.mem_cons_self ..,b,rfl⟩),fun j D Hv Hv' Hw Hw' hl hb f1 R=>?_⟩
  .show bI (zI mk (.r b) lw) (κ ((k,.r b)::lr) lw) .no=_
   rw[h1];rfl
  .rcases hl with hl|⟨hl,b',rfl⟩
   .exact qA f1 R (vW h1 j D hl hb)
   .exact qA f1 R rfl
 |w b=>exact hB h
 |nw b=>exact hB h
 |c K K'=>exact hB h
def PM (eO:Array Oper) (j i:Nat):Prop:=((ol eO.toList).getD i 0).testBit j=true
structure InvD (P:Program) (eO:Array Oper) (T0:TX) (H0:HF) (N0:Nat) (full:List PE) (N:Nat):Prop where
 all: ∀(j:Nat) (p:PE),full[j]? =some p-> ∃Tl,(QQ P eO p.1 Tl p.2\/J7 eO p.1 Tl p.2)/\(∀t x,Tl t=some x->fT (full.take j) T0 t=some x)/\ ∀k c,p.2.Hv k=some c->fH (full.take j) H0 k=some c
 nm: ∀(j:Nat) (p:PE),full[j]? =some p->N0<=p.2.N/\p.2.N<=p.2.N'/\p.2.N'<=N
 mono: ∀(j i:Nat) (p q:PE),j<i->full[j]? =some p->full[i]? =some q->p.2.N'<=q.2.N
 con: ∀(j i:Nat) (p q:PE),j<i-> ¬PM eO j i->full[j]? =some p->full[i]? =some q->Clear p.2.Hv p.2.Hv' q.2.Hv q.2.Hv'
theorem Wr (l:List PE) (p:PE) (T:TX):fT (l++[p]) T=FM p.1.dst p.2.x (fT l T):=by unfold fT;rw[List.foldl_append];rfl
theorem Wq (l:List PE) (p:PE) (H:HF):fH (l++[p]) H=iK (fH l H) p.2.Hv p.2.Hv':=by unfold fH;rw[List.foldl_append];rfl
theorem Vm (h: ∀t y,T1 t=some y->T2 t=some y): ∀t y,FM d x T1 t=some y->FM d x T2 t=some y:=by intro t y j;unfold FM at j⊢;grind
theorem Pm (h: ∀k c,H1 k=some c->H2 k=some c): ∀k c,iK H1 Hv Hv' k=some c->iK H2 Hv Hv' k=some c:=by
 intro k c I;rcases zj I with r|⟨j,r2,D⟩;·unfold iK;rw[r]
 .unfold iK;rw[j,r2];exact h k c D
theorem B7 (a3:jU P call) {T0:TX}{H0:HF}{N0:Nat}: ∀(l:List Oper) (ms:List Nat) (js:List XJ) (pre:List PE) (L:LX) (T:Tr XV) (N:Nat) (H:Tr Bx) (lr lw:D3),vb P n m eO ms l=some js->ms.length=l.length->(∀k,k<l.length->ms[k]? =(ol eO.toList)[pre.length+k]?)->eO.toList=pre.map Prod.fst++l-> l6 (TS m L T)->jJ H->jN N H->N0<=N->InvD P eO T0 H0 N0 pre N->(∀t y,TS m L T t=some y->fT pre T0 t=some y)->(∀k c,HS H k=some c->fH pre H0 k=some c)-> (∀(j:Nat) (p:PE),pre[j]? =some p->(p.2.Hv=e0/\p.2.Hv'=e0)\/ ∃g,pO p.2.Hv p.2.Hv' g/\pd lr lw j g)->FP call js pre.length L T N H lr lw≠ .no-> ∃J T' N' H',FP call js pre.length L T N H lr lw=.n T' N' H'/\N<=N'/\InvD P eO T0 H0 N0 J N'/\J.map Prod.fst=eO.toList/\l6 (TS m [] T')/\jJ H'/\jN N' H'/\ (∀t y,TS m [] T' t=some y->fT J T0 t=some y)/\ ∀k c,HS H' k=some c->fH J H0 k=some c
 |[],ms,js,pre,L,T,N,H,lr,lw,hw,hml,hms,ho,hT,hO,hL,hN,hi,hts,hhs,hlg,hr=>by
  have:js=[]:=by
   cases ms with
   |nil=>injection hw with hw;exact hw.symm
   |cons a b=>simp at hml
  subst this;refine⟨pre,T,N,H,rfl,bk _,hi,by rw[ho];simp,fun t y h=>hT t y (GZ h),hO,hL,fun t y h=>hts t y (GZ h),hhs⟩
 |o::l,[],js,pre,L,T,N,H,lr,lw,hw,hml,hms,ho,hT,hO,hL,hN,hi,hts,hhs,hlg,hr=>by simp at hml
 |o::l,mk::ms,js,pre,L,T,N,H,lr,lw,hw,hml,hms,ho,hT,hO,hL,hN,hi,hts,hhs,hlg,hr=>by
  unfold vb at hw;split at hw;·cases hw
  .rename_i x hx;split at hw;·cases hw
   .rename_i xs b7;injection hw with hw;subst hw;have e1:FP call (⟨x,Gj o.op,mk⟩::xs) pre.length L T N H lr lw=OX call x (@Bool.rec (fun _=>List Nat) [] (afT mk lw) (Gj o.op)) L T N H fun L T N H g=>XB mk pre.length g lr lw fun lr lw=>FP call xs (pre.length+1) L T N H lr lw:=rfl;rw[e1] at hr;obtain⟨e,L',T',H',g,e2,R⟩:=Lv hT hO hL a3 hx hr;rw[e2] at hr;obtain⟨b3,b4,e3,g1,g2,g3⟩:=PD hr;rw[e3] at hr;have c3:(ol eO.toList)[pre.length]? =some mk:=by have:=hms 0 (by simp);simpa using this.symm
    have a4:(pre++[(o,e)]).length=pre.length+1:=by simp
    have I: ∀(j:Nat) (p:PE),(pre++[(o,e)])[j]? =some p->(j<pre.length/\pre[j]? =some p)\/(j=pre.length/\p=(o,e)):=by
     intro j p D;by_cases hlt:j<pre.length;·rw[ui hlt] at D;exact .inl ⟨hlt,D⟩
     .have h1:=(fM.1 D).1;have ej:j=pre.length:=by simp at h1;omega
      subst ej;rw[xq (bk _)] at D;simp at D;exact .inr ⟨rfl,D.symm⟩
    have b6: ∀j,j<=pre.length->(pre++[(o,e)]).take j=pre.take j:=fun j D=>wt D;have a5:N<=e.N':=R.le;have c5:InvD P eO T0 H0 N0 (pre++[(o,e)]) e.N':=by
     refine⟨fun j p D=>?_,fun j p D=>?_,fun j i p q a6 D hq=>?_,fun j i p q a6 b5 D hq=>?_⟩
     .rcases I j p D with⟨hlt,D⟩|⟨rfl,rfl⟩;·rw[b6 j (xl hlt)];exact hi.all j p D
      .rw[b6 pre.length (bk _),pP];exact⟨TS m L T,R.run,hts,fun k c hk=>hhs k c (R.sub k c hk)⟩
     .rcases I j p D with⟨hlt,D⟩|⟨rfl,rfl⟩;·have:=hi.nm j p D;exact⟨this.1,this.2.1,gG this.2.2 a5⟩
      .refine⟨by show N0<=e.N;rw[R.nm];exact hN,by show e.N<=e.N';rw[R.nm];exact a5,bk _⟩
     .rcases I i q hq with⟨hlt,hq⟩|⟨rfl,rfl⟩
      .rcases I j p D with⟨_,D⟩|⟨rfl,rfl⟩;·exact hi.mono j i p q a6 D hq
       .omega
      .rcases I j p D with⟨_,D⟩|⟨rfl,rfl⟩
       .show p.2.N'<=e.N;rw[R.nm];exact(hi.nm j p D).2.2
       .omega
     .rcases I i q hq with⟨hlt,hq⟩|⟨rfl,rfl⟩
      .rcases I j p D with⟨_,D⟩|⟨rfl,rfl⟩;·exact hi.con j i p q a6 b5 D hq
       .omega
      .rcases I j p D with⟨_,D⟩|⟨rfl,rfl⟩
       .rcases hlg j p D with⟨h1,h2⟩|⟨g',f1,hl⟩;·rw[h1,h2];exact tx
        .refine g3 j g' _ _ _ _ hl ?_ f1 R.foot;cases hb:mk.testBit j with
         |false=>rfl
         |true=>exfalso;apply b5;unfold PM;rw[BW,c3];exact hb
       .omega
    have a9: ∀(j:Nat) (p:PE),(pre++[(o,e)])[j]? =some p->(p.2.Hv=e0/\p.2.Hv'=e0)\/ ∃g,pO p.2.Hv p.2.Hv' g/\pd b3 b4 j g:=by
     intro j p D;rcases I j p D with⟨hlt,D⟩|⟨rfl,rfl⟩
     .rcases hlg j p D with h|⟨g',f1,hl⟩;·exact .inl h
      .exact .inr ⟨g',f1,g1 j g' hl⟩
     .rcases g2 with rfl|h;·exact .inl R.foot
      .exact .inr ⟨g,R.foot,h⟩
    rw[<-a4] at hr;obtain⟨J,T2,N2,H2,e4,k1,k2,k3,k4,k5,k6,k7,k8⟩:=B7 a3 l ms xs (pre++[(o,e)]) L' T' e.N' H' b3 b4 b7 (by simpa using hml) (fun k hk=>by
     have:=hms (k+1) (by simpa using hk);rw[a4,show pre.length+1+k=pre.length+(k+1) by omega];simpa using this) (by rw[ho];simp) R.tok R.hok R.hlt (gG hN a5) c5
     (fun t y h=>by rw[Wr];exact Vm hts t y (R.tmp t y h)) (fun k c h=>by rw[Wq];exact Pm hhs k c (R.put k c h)) a9 hr
    grind
end
end Go.Proofs.YtegeknjkgadehaaGreat
