/-A run on known values:slices made,appended to,cleared. -/
import Derived.Test.YtegeknjkgadehaaGreatTwW
namespace Go.Proofs.YtegeknjkgadehaaGreat
open Go Go.RowKit
variable {a:Act}{ys:Array Operand}{ts:Array TypeId}{vs:Array Value}{H H2 Hv Hv' Hw Hw':HF}{kk:IntKind}{κ:LX->Tr XV->Nat->Tr Bx->Lg->Ro}{cs us zs:List AV}{news olds:List Value}{xs:List XO}{N1 N2 bl by_ k k' k0 n off q sz t:Nat}{β:Nat->Pl}{A A' V Z:Nat->Prop}{y z:Operand}{H' K K':Tr Bx}{U W e:TypeId}{v:Value}{w w':World}{i:XI}{xo yo:XO}
theorem Bi:type_of% @List.getD_eq_getElem?_getD:=@List.getD_eq_getElem?_getD
section
variable {P:Program}{ops:Array Oper}{o:Oper}{TT:TX}{m N:Nat}{L:LX}{T:Tr XV}{H:Tr Bx}{x:XV}
variable {N':Nat}{H':Tr Bx}{g:Lg}{call:fF}
variable {dst:Option Nat}{ty:TypeId}{pos:String}{af:Array Edge}{gd:Option (Nat×Bool)}
theorem tR (h:R4 P U=some (e,sz,by_,zs)):P.underlying U=some (.slice e)/\ ∃i z,P.info? e=some i/\i.zero=some z/\i.size=sz/\i.bytes=by_/\zs.length=sz/\0<sz/\ ∀A Z w β,RdAs A Z w β z.cells.toList zs:=by
 unfold R4 at h;split at h
 ·rename_i R hu;split at h
  ·rename_i i zs' hi D;cases j:Nat.beq zs'.length i.size&&Nat.blt 0 i.size with
   |false=>rw[j] at h;cases h
   |true=>
    rw[j] at h;have h:=Option.some.inj (show some (R,i.size,i.bytes,zs')=some (e,sz,by_,zs) from h);injection h with h1 h;injection h with h2 h;injection h with I h4;subst h1 h2 I h4;rw[de] at j;obtain⟨it,z,u,J,E⟩:=yW D;rw[hi] at u;injection u with u;subst u;exact⟨hu,i,z,hi,J,rfl,rfl,fe j.1,cJ.1 j.2,E⟩
  ·cases h
 ·cases h
theorem wG {z:Value}(hl:zs.length=sz) (u:RdAs A Z w β z.cells.toList zs): ∀n:Nat,RdAs A Z w β ((List.range (n*sz)).map (fun j=>z.cells[j%z.cells.size]!)) (yA zs n):=by
 have h:z.cells.size=sz:=by rw[<-hl,<-u.1];simp
 intro n;induction n with
 |zero=>simp[yA];exact RdAs.nil
 |succ n I=>
  rw[Nat.succ_mul,Nat.add_comm,List.range_add,zw];refine xi ?_ ?_
  ·have J:(List.range sz).map (fun j=>z.cells[j%z.cells.size]!)=z.cells.toList:=by apply List.ext_getElem (by simp[h]);intro j D R;simp at D;simp only[List.getElem_map,List.getElem_range,h];rw[Nat.mod_eq_of_lt D,getElem!_pos z.cells j (by omega)];simp
   rw[J];exact u
  ·have E:(List.map (fun x=>sz+x) (List.range (n*sz))).map (fun j=>z.cells[j%z.cells.size]!)=(List.range (n*sz)).map (fun j=>z.cells[j%z.cells.size]!):=by rw[List.map_map];apply List.map_congr_left;intro j _;show z.cells[(sz+j)%z.cells.size]! =_;rw[h,Nat.add_mod_left]
   rw[E];exact I
theorem Ah (w:World) (t e:TypeId) (len:Nat) (j:Array (Nat×Value)) (cells:Array Value) (D:TypeInfo)
 (J:P.underlying t=some (.slice e)) (E:P.info? e=some D) (u:len*D.size=0) (h:Instr.fill (fun i=>some (i*D.size,D.size)) #[] j.toList=some cells):
 (Instr.buildSlice t len j).run P w=.ok (.slice (some ⟨w.heap.size,0,none⟩) len len) (w.alloc (.cells cells e)):=by
 have I: ∀f:Nat->Value,Array.map f (Array.range 0)= #[]:=fun f=>by apply Array.eq_empty_of_size_eq_zero;simp
 simp[Instr.buildSlice,run_underlying J,sizeOf,typeInfo,E,u,I,h,newRow]
theorem aeZ (hT:lm (TS m L T)) (hO:jp H) (hL:jx N H) {ps:Array (Nat×Operand)}{qs:List (Nat×Nat×XO)}{x:XV}(hU:R4 P U=some (e,sz,by_,zs)) (hn:n*sz<=10000) (hp:cPs m (fun i=>some (i*sz,sz)) ps.toList=some qs)
 (h:Y2 e n sz (pj sz (th zs) n) qs call L T N H=some (.mk x N' H' g)):gz P ops ⟨dst,.buildSlice U n ps,ty,pos,af,gd⟩ (TS m L T) N H x N' H' g:=by
 obtain⟨r,hr,h⟩:=aC h
 obtain⟨rfl,rfl,rfl,rfl⟩:=xO h
 obtain⟨hu,i,z,hi,hz,R,b0,D,h0,a5⟩:=tR hU
 obtain⟨z1,z2⟩:=nv zs
 obtain⟨r1,r2⟩:=qH (m:=sz) (z:=th zs) (by rw[z2,D]) z1 n
 have a3:(pj sz (th zs) n).flat=yA zs n:=by rw[r2,z2]
 have I:n*sz=(pj sz (th zs) n).flat.length:=by rw[a3,tW,D]
 obtain⟨k1,k2,k3⟩:=Gh (ops:=ops) (o:=⟨dst,.buildSlice U n ps,ty,pos,af,gd⟩) hT hp hr r1 I
 refine wR hO hL k1 k2 fun A Z w β a ht=>?_
 have J:=wG D (a5 A Z w β) n
 obtain⟨cells,E,a1⟩:=k3 A Z w β a ((Array.range (n*sz)).map (z.cells[· %z.cells.size]!)) (fun p hp=>by simp only[Op.operands,List.mem_toArray,nC];exact⟨p,hp,rfl⟩) ht (by rw[a3];simpa using J)
 have a9:cells.size=n*sz:=by have h1:=a1.1;have h2:n*sz=r.flat.length:=k2;simp at h1;omega
 have a2: ∀A' Z' w' β',A' N->β' N=⟨w.heap.size,cells.size⟩->RdA A' Z' w' β' (.slice (some ⟨w.heap.size,0,none⟩) n n) (.s N 0 n n true sz):=by
  intro A' Z' w' β' hA a0;have a4:n<=maxLen:=by have:n<=n*sz:=Nat.le_mul_of_pos_right n h0;have:maxLen=9223372036854775807:=rfl;omega
  have:=RdA.s (A:=A') (Z:=Z') (w:=w') (β:=β') N 0 n n true sz n hA (bd _) (bd _) a4 (fun _=>rfl) (by rw[a0];show 0+n*sz<=cells.size;omega);rw[a0] at this;exact this
 refine⟨.slice (some ⟨w.heap.size,0,none⟩) n n,cells,?_,a1,a2⟩
 by_cases j:n*sz=0
 ·have hc:cells= #[]:=by apply Array.eq_empty_of_size_eq_zero;omega
  subst hc
  have a6:(Array.range (n*sz)).map (z.cells[· %z.cells.size]!)= #[]:=by rw[j];apply Array.eq_empty_of_size_eq_zero;simp
  rw[a6] at E
  subst R
  have u:=Ah (P:=P) w U e n (ps.map fun(i,x)=>(i,a.eval x)) #[] i hu hi j (by simpa using E)
  simp only[execOp,fq,u,dd,dx]
 ·subst R
  have u:=run_buildSlice (P:=P) w U e n (ps.map fun(i,x)=>(i,a.eval x)) cells i z hu hi hz (by have:(2:Nat)^24=16777216:=rfl;omega) j (by simpa using E)
  simp only[execOp,fq,u,dd,dx]
theorem adj (_hT:lm (TS m L T)) (hO:jp H) (hL:jx N H) {x:XV}(hU:R4 P U=some (e,sz,by_,zs)) (h1:cO m y=some xo) (h2:cO m z=some yo)
 (h:YG e sz by_ (th zs) xo yo call L T N H=some (.mk x N' H' g)):gz P ops ⟨dst,.makeSlice U y z,ty,pos,af,gd⟩ (TS m L T) N H x N' H' g:=by
 obtain⟨v,hv,h⟩:=aC h
 obtain⟨v2,a4,h⟩:=aC h
 obtain⟨ka,a,q1,h⟩:=ru h
 obtain⟨kb,b,q2,h⟩:=ru h
 subst q1 q2
 obtain⟨g1,h⟩:=bv h
 obtain⟨g2,h⟩:=bv h
 obtain⟨g3,h⟩:=bv h
 obtain⟨rfl,rfl,rfl,rfl⟩:=xO h
 rw[dN] at g1 g2 g3
 obtain⟨hu,i,zv,hi,hz,a3,a0,j,h0,a2⟩:=tR hU
 obtain⟨z1,z2⟩:=nv zs
 obtain⟨r1,r2⟩:=qH (m:=sz) (z:=th zs) (by rw[z2,j]) z1 b
 have J:(pj sz (th zs) b).flat=yA zs b:=by rw[r2,z2]
 have u:b*sz=(pj sz (th zs) b).flat.length:=by rw[J,tW,j]
 refine wR hO hL r1 u fun A Z w β ac ht=>?_
 have e1:ac.eval y=.int ka (a:Int):=RdA.i_eq (aM (o:=⟨dst,.makeSlice U y z,ty,pos,af,gd⟩) (by simp[Op.operands]) h1 hv ht)
 have e2:ac.eval z=.int kb (b:Int):=RdA.i_eq (aM (o:=⟨dst,.makeSlice U y z,ty,pos,af,gd⟩) (by simp[Op.operands]) h2 a4 ht)
 have R:(b*by_:Nat)<=140737488355328:=g2
 have D:=run_make (P:=P) w U e i zv hu hi hz ka kb a b (by omega) (by omega) (by rw[a0];have h2:((b*by_:Nat):Int)<=140737488355328:=Int.ofNat_le.2 R;rw[wd,sU] at h2;omega) (by omega)
 have E:=wG j (a2 A Z w β) b
 refine⟨.slice (some ⟨w.heap.size,0,none⟩) a b,madeCells zv.cells (b*sz),?_,?_,fun A' Z' w' β' hA I=>?_⟩
 ·simp only[execOp,e1,e2,fq,D,dd,dx,a3]
  simp
 ·rw[J]
  unfold madeCells
  simpa using E
 ·have a1:b<=maxLen:=by have:maxLen=9223372036854775807:=rfl;omega
  have:=RdA.s (A:=A') (Z:=Z') (w:=w') (β:=β') N 0 a b true sz b hA g1 (bd _) a1 (fun _=>rfl) (by rw[I];show 0+b*sz<=(madeCells zv.cells (b*sz)).size;simp[madeCells])
  rw[I] at this;exact this
end
section
variable {P:Program}{ops:Array Oper}{o:Oper}{TT:TX}{m N:Nat}{L:LX}{T:Tr XV}{H:Tr Bx}{x:XV}
variable {N':Nat}{H':Tr Bx}{g:Lg}{call:fF}
variable {dst:Option Nat}{ty:TypeId}{pos:String}{af:Array Edge}{gd:Option (Nat×Bool)}
variable {V A A':Nat->Prop}{Hm Hn:HF}{β β':Nat->Pl}{w w':World}
theorem Hst.less (h:Hst N N' A Hm β w Hn β' w') (hs: ∀k c,H2 k=some c->Hn k=some c):Hst N N' A Hm β w H2 β' w':=by
 have u: ∀k,H2 k≠none->Hn k≠none:=fun k j=>by
  cases e:H2 k with
  |none=>exact absurd e j
  |some c=>rw[hs k c e];simp
 exact⟨h.os,h.tape,h.output,h.size,h.blk,h.same,fun k j=>h.own k (u k j),fun k j=>h.nam k (u k j)⟩
theorem GV (j:Mem V A Hm β w):Mem V A Hm β w.drew:=by refine⟨j.vlt,j.dom,j.lt,j.inj,j.clr,fun k U cs E=>?_⟩;obtain⟨vs,I,J,D,R⟩:=j.box k U cs E;have u:Keep (Zs V Hm β) (Zs V Hm β) w w.drew:=⟨Nat.le_refl _,fun _ _ _=>rfl,fun _ _ h=>h⟩;exact⟨vs,I,J,D,R.mono u (fun _ h=>h) (fun _ _=>rfl)⟩
theorem Vs (E:Mem V A Hm β w) (hN: ∀k,A k->k≠N) (hl:cs.length<=vs.size) (hr:RdAs A (Zs V Hm β) w β (vs.toList.take cs.length) cs):
 Mem V (fun k=>A k\/k=N) (fun k=>if k=N then some (U,cs) else Hm k) (fun k=>if k=N then⟨w.heap.size,vs.size⟩ else β k) (w.alloc (.cells vs U))/\
  Hst N (N+1) A Hm β w (fun k=>if k=N then some (U,cs) else Hm k) (fun k=>if k=N then⟨w.heap.size,vs.size⟩ else β k) (w.alloc (.cells vs U)):=by
 have u: ∀k,(if k=N then some (U,cs) else Hm k)≠none->k≠N->Hm k≠none:=fun k j e=>by rw[if_neg e] at j;exact j
 have hH:Hst N (N+1) A Hm β w (fun k=>if k=N then some (U,cs) else Hm k) (fun k=>if k=N then⟨w.heap.size,vs.size⟩ else β k) (w.alloc (.cells vs U)):=by
  refine⟨rfl,rfl,rfl,by simp,fun b hb _=>vN _ _ _ hb,fun k j=>if_neg (hN k j),fun k j=>?_,fun k j=>?_⟩
  ·by_cases e:k=N;·rw[if_pos e];exact .inl (bd _)
   ·rw[if_neg e];exact .inr ⟨k,u k j e,rfl⟩
  ·by_cases e:k=N;·exact .inr ⟨Nat.le_of_eq e.symm,by omega⟩
   ·exact .inl (u k j e)
 have I:=hH.keep E
 refine⟨⟨fun b hb=>by rw[dA];exact Nat.lt_succ_of_lt (E.vlt b hb),fun k j=>?_,fun k j=>?_,fun k l j hl e=>?_,fun k j hv=>?_,fun k U' a0 j=>?_⟩,hH⟩
 ·by_cases e:k=N
  ·exact .inr e
  ·exact .inl (E.dom k (u k j e))
 ·rw[dA]
  rcases j with j|j
  ·rw[if_neg (hN k j)];exact Nat.lt_succ_of_lt (E.lt k j)
  ·rw[if_pos j];exact wl _
 ·by_cases R:k=N<;>by_cases J:l=N
  ·rw[R,J]
  ·rw[if_pos R,if_neg J] at e
   have:=E.lt l (E.dom l (u l hl J))
   rw[<-e] at this;exact absurd this (Nat.lt_irrefl _)
  ·rw[if_neg R,if_pos J] at e
   have:=E.lt k (E.dom k (u k j R))
   rw[e] at this;exact absurd this (Nat.lt_irrefl _)
  ·rw[if_neg R,if_neg J] at e
   exact E.inj k l (u k j R) (u l hl J) e
 ·by_cases e:k=N
  ·rw[if_pos e] at hv;exact Nat.lt_irrefl _ (E.vlt _ hv)
  ·rw[if_neg e] at hv;exact E.clr k (u k j e) hv
 ·have D:(if k=N then some (U,cs) else Hm k)=some (U',a0):=j
  by_cases e:k=N
  ·rw[if_pos e] at D
   injection D with D
   injection D with h1 h2
   subst h1 h2
   rw[if_pos e]
   exact⟨vs,heap_alloc_new w _,rfl,hl,hr.mono I (fun _ h=>.inl h) hH.same⟩
  ·rw[if_neg e] at D
   obtain⟨a1,R,J,e3,e4⟩:=E.box k U' a0 D
   rw[if_neg e]
   exact⟨a1,(vN _ _ _ (E.lt k (E.dom k (by rw[D];simp)))).trans R,J,e3,e4.mono I (fun _ h=>.inl h) hH.same⟩
theorem Vd (I:Mem V A Hm β w) (hN: ∀k,A k->k≠N) (J:Hm k0=some (U,cs)):
 Mem V (fun k=>A k\/k=N) (fun k=>if k=N then some (U,cs) else if k=k0 then none else Hm k) (fun k=>if k=N then β k0 else β k) w/\
  Hst N (N+1) A Hm β w (fun k=>if k=N then some (U,cs) else if k=k0 then none else Hm k) (fun k=>if k=N then β k0 else β k) w:=by
 have a2:=I.dom k0 (by rw[J];simp)
 have u: ∀k,(if k=N then some (U,cs) else if k=k0 then none else Hm k)≠none->k≠N->k≠k0/\Hm k≠none:=fun k j e=>by
  rw[if_neg e] at j;by_cases E:k=k0;·rw[if_pos E] at j;exact absurd rfl j
  ·rw[if_neg E] at j;exact⟨E,j⟩
 have hH:Hst N (N+1) A Hm β w (fun k=>if k=N then some (U,cs) else if k=k0 then none else Hm k) (fun k=>if k=N then β k0 else β k) w:=by
  refine⟨rfl,rfl,rfl,bd _,fun _ _ _=>rfl,fun k j=>if_neg (hN k j),fun k j=>?_,fun k j=>?_⟩
  ·by_cases e:k=N;·rw[if_pos e];exact .inr ⟨k0,by rw[J];simp,rfl⟩
   ·rw[if_neg e];exact .inr ⟨k,(u k j e).2,rfl⟩
  ·by_cases e:k=N;·exact .inr ⟨Nat.le_of_eq e.symm,by omega⟩
   ·exact .inl (u k j e).2
 have R:=hH.keep I
 refine⟨⟨I.vlt,fun k j=>?_,fun k j=>?_,fun k l j hl e=>?_,fun k j hv=>?_,fun k U' a1 j=>?_⟩,hH⟩
 ·by_cases e:k=N
  ·exact .inr e
  ·exact .inl (I.dom k (u k j e).2)
 ·rcases j with j|j
  ·rw[if_neg (hN k j)];exact I.lt k j
  ·rw[if_pos j];exact I.lt k0 a2
 ·by_cases e1:k=N<;>by_cases E:l=N
  ·rw[e1,E]
  ·rw[if_pos e1,if_neg E] at e
   exact absurd (I.inj k0 l (by rw[J];simp) (u l hl E).2 e).symm (u l hl E).1
  ·rw[if_neg e1,if_pos E] at e
   exact absurd (I.inj k k0 (u k j e1).2 (by rw[J];simp) e) (u k j e1).1
  ·rw[if_neg e1,if_neg E] at e
   exact I.inj k l (u k j e1).2 (u l hl E).2 e
 ·by_cases e:k=N
  ·rw[if_pos e] at hv;exact I.clr k0 (by rw[J];simp) hv
  ·rw[if_neg e] at hv;exact I.clr k (u k j e).2 hv
 ·have D:(if k=N then some (U,cs) else if k=k0 then none else Hm k)=some (U',a1):=j
  by_cases e:k=N
  ·rw[if_pos e] at D
   injection D with D
   injection D with h1 h2
   subst h1 h2
   rw[if_pos e]
   obtain⟨a0,e1,E,e3,e4⟩:=I.box k0 U cs J
   exact⟨a0,e1,E,e3,e4.mono R (fun _ h=>.inl h) hH.same⟩
  ·rw[if_neg e] at D
   by_cases E:k=k0
   ·rw[if_pos E] at D;cases D
   ·rw[if_neg E] at D
    obtain⟨a0,e1,e3,e4,e5⟩:=I.box k U' a1 D
    rw[if_neg e]
    exact⟨a0,e1,e3,e4,e5.mono R (fun _ h=>.inl h) hH.same⟩
theorem Ov {y:AV}{f:Nat->Rp->Option Rs}{r:Rs}(R:P.underlying U=some (.slice e)) (hO:jp H) (h:ac5 H e sz y f=some r): ∃q ys,f q ys=some r/\ys.ok/\ys.flat.length=q*sz/\
 (∀V A β w v,Mem V A (HS H) β w->RdA A (Zs V (HS H) β) w β v y-> ∃news,Src P sz U v q news w/\RdAs A (Zs V (HS H) β) w β news ys.flat)/\(q=0-> ∀A Z β w v,RdA A Z w β v y->Src P sz U v 0 [] w):=by
 have a4: ∀ {A Z:Nat->Prop}{β:Nat->Pl}{w:World}{v:Value},RdA A Z w β v .z->Src P sz U v 0 [] w:=fun h=>by rw[h.z_eq];exact Src.ofNil _ R 0
 have a1: ∀ {A Z:Nat->Prop}{β:Nat->Pl}{w:World}{v:Value},RdA A Z w β v .ev->Src P sz U v 0 [] w:=fun h=>by
  obtain⟨a,c,e1,_,_⟩:=h.ev_eq;rw[e1];cases a with
  |none=>exact Src.ofNil _ R c
  |some a=>exact Src.ofSlice _ R a 0 c [] (by simp) (fun j u E=>by simp at E) (fun _ h=>by cases h)
 rcases kO h with⟨k,off,q,lo,ex,m',rfl,h⟩|⟨rfl,h⟩|⟨rfl,h⟩
 ·obtain⟨b,hb,h⟩:=aC h
  obtain⟨g1,h⟩:=bv h
  obtain⟨g2,h⟩:=bv h
  obtain⟨g3,J⟩:=bv h
  have g1:=fe g1
  have g2:=fe g2
  rw[dN] at g3
  subst g1 g2
  obtain⟨a5,a2⟩:=hO k b hb
  have a3:off+q*sz<=b.n:=g3
  obtain⟨k1,k2⟩:=jW b.r b.n off (q*sz) a5 a2 a3
  refine⟨q,iB b.r b.n off (q*sz),J,k1,by rw[k2];simp;omega,fun V A β w v hm D=>?_,fun hq A Z β w v D=>?_⟩
  ·obtain⟨c,e1,hk,c1,c2,c3,c4,c5⟩:=D.s_eq
   obtain⟨vs,ev,hz,hl,a6⟩:=hm.box k b.U b.r.flat (qh hb)
   have I:=(a6.drop off).take (q*sz)
   have a9:off+q*sz<=b.r.flat.length:=by rw[<-a2];exact a3
   have a0:((vs.toList.take b.r.flat.length).drop off).take (q*sz)=(vs.toList.drop off).take (q*sz):=by rw[tz,uj,dK (by omega)]
   rw[a0] at I
   refine⟨(vs.toList.drop off).take (q*sz),?_,by rw[k2];exact I⟩
   rw[e1]
   refine Src.ofSlice w R _ q c _ (by simp;omega) (fun j u E=>?_) I.one
   rw[d8]
   rw[j6] at E
   split at E
   ·rw[bE ev,<-E];simp
   ·cases E
  ·obtain⟨c,e1,_⟩:=D.s_eq
   rw[e1,hq]
   exact Src.ofSlice w R _ 0 c [] (by simp) (fun j u E=>by simp at E) (fun _ h=>by cases h)
 ·exact⟨0,.e,h,trivial,by simp[Rp.flat],fun V A β w v _ D=>⟨[],a4 D,RdAs.nil⟩,fun _ A Z β w v D=>a4 D⟩
 ·exact⟨0,.e,h,trivial,by simp[Rp.flat],fun V A β w v _ D=>⟨[],a1 D,RdAs.nil⟩,fun _ A Z β w v D=>a1 D⟩
theorem rF {y x:XV}{N':Nat}{H0 j H':Tr Bx}{g:Lg}(h:XM y N1 H0 j=some (.mk x N' H' g)):x=y/\N'=N1/\H'=j/\g=.c H0 j:=by unfold XM at h;injection h with h;injection h with D E u I;exact⟨D.symm,E.symm,u.symm,I.symm⟩
theorem yQ (I:Ai x) (u:jp H') (D:jx N' H') (E:N<=N') (j:acY P ops o TT ⟨x,HS H,HS H',N,N'⟩):gz P ops o TT N H x N' H' (.c H H'):=by have J:Foot N N' H H' (HS H) (HS H') (.c H H'):=⟨rfl,rfl,rfl,rfl⟩;refine⟨E,I,u,D,HS H,HS H',j,fun k c h=>h,fun k c h=>?_,J⟩;unfold gU;rw[h]
theorem o6 {w w':World}(h:(Builtin.append_ #[U,U] ty #[a.eval y,a.eval z]).run P w=.ok v w'):(execOp a.eval ⟨dst,.call ⟨.builtin .append,#[y,z],#[U,U]⟩,ty,pos,af,gd⟩).run P w=.ok (.value v) w':=by simp only[execOp,resolve,invoke,builtin,fq,dx,dd,qT,mm,qy];rw[h];rfl
theorem xc (hm:Mem V A Hm β w) (hN: ∀k,A k->k≠N) {i:TypeInfo}{z:Value}(I:z.cells.size=i.size) {c':Nat}
 (hl:(olds++news).length=(n+q)*i.size) (hr:RdAs A (Zs V Hm β) w β (olds++news) us) (E:n+q<=c') (a0:c'<=maxLen):
 ∃A' β',(∀k,A k->A' k)/\(∀k,A' k->Ad A N (N+1) k)/\Mem V A' (fun k=>if k=N then some (e,us) else Hm k) β' (w.drew.alloc (.cells ((olds++news).toArray++Builtin.zeroCells z.cells (c'-(n+q))) e))/\
  Hst N (N+1) A Hm β w (fun k=>if k=N then some (e,us) else Hm k) β' (w.drew.alloc (.cells ((olds++news).toArray++Builtin.zeroCells z.cells (c'-(n+q))) e))/\
  ∀Z w',RdA A' Z w' β' (.slice (some ⟨w.heap.size,0,none⟩) (n+q) c') (.s N 0 (n+q) (n+q) false i.size):=by
 have D:us.length=(n+q)*i.size:=by rw[<-hr.1,hl]
 have J:(Builtin.zeroCells z.cells (c'-(n+q))).size=(c'-(n+q))*i.size:=by unfold Builtin.zeroCells;simp[I]
 have R:((olds++news).toArray++Builtin.zeroCells z.cells (c'-(n+q))).size=c'*i.size:=by rw[Array.size_append,J];show(olds++news).length+_=_;rw[hl,<-iP];congr 1;omega
 obtain⟨m1,j⟩:=Vs (U:=e) (vs:=(olds++news).toArray++Builtin.zeroCells z.cells (c'-(n+q))) (cs:=us) (GV hm) hN (by rw[R,D];exact mE _ E) (by
  have e1:((olds++news).toArray++Builtin.zeroCells z.cells (c'-(n+q))).toList.take us.length=olds++news:=by rw[Array.toList_append,sM (by rw[D,<-hl];exact bd _),f9 (by rw[D,<-hl];exact bd _)]
  rw[e1];have a1:Keep (Zs V Hm β) (Zs V Hm β) w w.drew:=⟨Nat.le_refl _,fun _ _ _=>rfl,fun _ _ h=>h⟩;exact hr.mono a1 (fun _ h=>h) (fun _ _=>rfl))
 refine⟨_,_,fun k u=>.inl u,fun k u=>?_,m1,⟨j.os,j.tape,j.output,j.size,j.blk,j.same,j.own,j.nam⟩,fun Z w'=>?_⟩
 ·rcases u with u|u
  ·exact .inl u
  ·exact .inr ⟨Nat.le_of_eq u.symm,by omega⟩
 ·have:=RdA.s (A:=fun k=>A k\/k=N) (Z:=Z) (w:=w') (β:=fun k=>if k=N then⟨w.drew.heap.size,((olds++news).toArray++Builtin.zeroCells z.cells (c'-(n+q))).size⟩ else β k) N 0 (n+q) (n+q) false i.size c' (.inr rfl) (bd _) E a0 (fun e=>by cases e) (by show 0+c'*i.size<=(if N=N then(⟨w.drew.heap.size,_⟩:Pl) else β N).z;rw[if_pos rfl];show 0+c'*i.size<=((olds++news).toArray++Builtin.zeroCells z.cells (c'-(n+q))).size;omega)
  have e2:(if N=N then(⟨w.drew.heap.size,((olds++news).toArray++Builtin.zeroCells z.cells (c'-(n+q))).size⟩:Pl) else β N)=⟨w.drew.heap.size,((olds++news).toArray++Builtin.zeroCells z.cells (c'-(n+q))).size⟩:=if_pos rfl
  rw[e2] at this
  exact this
end
section
variable {P:Program}{ops:Array Oper}{o:Oper}{TT:TX}{m N:Nat}{L:LX}{T:Tr XV}{H:Tr Bx}{x:XV}
variable {N':Nat}{H':Tr Bx}{g:Lg}{call:fF}
variable {dst:Option Nat}{ty:TypeId}{pos:String}{af:Array Edge}{gd:Option (Nat×Bool)}
theorem IL {i:TypeInfo}(hu:P.underlying U=some (.slice e)) (hi:P.info? e=some i) {c:Nat}(h:Src P i.size U v q news w)
 (R:w.heap[bl]? =some (.cells vs e (0,0))) (j:n+q<=c) (I:off+c*i.size<=vs.size):
 (Builtin.append_ #[U,U] ty #[.slice (some ⟨bl,off,none⟩) n c,v]).run P w=.ok (.slice (some ⟨bl,off,none⟩) (n+q) c) (w.setRow bl (vs.toList.take (off+n*i.size)++news++vs.toList.drop (off+n*i.size+news.length)).toArray):=by
 have E:news.length=q*i.size:=h.newsLen
 have u:off+n*i.size+0+news.length<=vs.size:=by rw[E];have:=mE i.size j;rw[iP] at this;omega
 have D:=run_storeCells_at P bl (off+n*i.size) e news 0 vs w R u h.one
 simp only[um] at D
 have ha:(⟨bl,off,none⟩:Addr).add (n*i.size)=⟨bl,off+n*i.size,none⟩:=d8 _ _ _
 rcases h.kind with⟨e',J⟩|J<;>simp[Builtin.append_,run_underlying hu,sizeOf,typeInfo,hi,h.len,j,h.cells,ha,D]
theorem Jk {i:TypeInfo}(D:P.underlying U=some (.slice e)) (hi:P.info? e=some i) {b:Option Addr}{c:Nat}(h:Src P i.size U v 0 [] w) (j:n<=c):
 (Builtin.append_ #[U,U] ty #[.slice b n c,v]).run P w=.ok (.slice b n c) w:=by
 rcases h.kind with⟨E,u⟩|u<;>cases b<;>simp[Builtin.append_,run_underlying D,sizeOf,typeInfo,hi,h.len,j,h.cells,storeCells]
theorem EK {c:Nat}(E:w.heap[bl]? =some (.cells vs U (0,0))) (D:off+n*sz<=vs.size):
 (Builtin.firstCells sz n (.slice (some ⟨bl,off,none⟩) n c)).run P w.drew=.ok ((vs.toList.drop off).take (n*sz)).toArray w.drew:=by
 have:=run_loadCells_list (P:=P) w.drew ⟨bl,off,none⟩ ((vs.toList.drop off).take (n*sz)) (fun j u h=>by
  rw[d8];show w.cell? _=_;rw[j6] at h;split at h;·rw[bE E,<-h];simp
  ·cases h)
 have hl:((vs.toList.drop off).take (n*sz)).length=n*sz:=by simp;omega
 rw[hl] at this
 exact this
theorem u5 (j:RdAs A Z w β (vs.toList.take us.length) us) (u:off+n<=us.length):RdAs A Z w β ((vs.toList.drop off).take n) ((us.drop off).take n):=by
 have h:=(j.drop off).take n;have e:((vs.toList.take us.length).drop off).take n=(vs.toList.drop off).take n:=by rw[tz,uj,dK (by omega)]
 rw[e] at h;exact h
theorem ae8 (_hT:lm (TS m L T)) (hO:jp H) (hL:jx N H) {x:XV}(hU:R4 P U=some (e,sz,by_,zs)) (h1:cO m y=some xo) (h2:cO m z=some yo)
 (h:Y3 e sz by_ xo yo call L T N H=some (.mk x N' H' g)):gz P ops ⟨dst,.call ⟨.builtin .append,#[y,z],#[U,U]⟩,ty,pos,af,gd⟩ (TS m L T) N H x N' H' g:=by
 obtain⟨v,hv,h⟩:=aC h
 obtain⟨v2,b1,h⟩:=aC h
 obtain⟨a,q1,h3⟩:=il h
 obtain⟨b,q2,h4⟩:=il h3
 subst q1 q2
 obtain⟨hu,i,zv,hi,hz,f3,d2,f2,h0,g5⟩:=tR hU
 subst f3
 obtain⟨q,ys,hF,b4,d4,a3,b5⟩:=Ov hu hO h4
 have d1:zv.cells.size=i.size:=by have h1:=(g5 (fun _=>False) (fun _=>False) default (fun _=>⟨0,0⟩)).1;rw[f2] at h1;simpa using h1
 have b0:y∈(Op.call ⟨.builtin .append,#[y,z],#[U,U]⟩).operands:=by simp[Op.operands,Call.operands]
 have a6:z∈(Op.call ⟨.builtin .append,#[y,z],#[U,U]⟩).operands:=by simp[Op.operands,Call.operands]
 rw[ig] at hF
 split at hF
 ·rename_i hq
  have hq:=fe hq
  subst hq
  rcases kO hF with⟨k,off,n,lo,ex,m',rfl,h5⟩|⟨rfl,h5⟩|⟨rfl,h5⟩
  ·obtain⟨rfl,rfl,rfl,rfl⟩:=cg h5
   refine bq hO hL trivial fun A Z w β ac ht=>?_
   have hr:=aM (o:=⟨dst,.call ⟨.builtin .append,#[y,z],#[U,U]⟩,ty,pos,af,gd⟩) b0 h1 hv ht
   obtain⟨c,e1,hk,c1,c2,c3,c4,c5⟩:=RdA.s_eq hr
   have hs:=b5 rfl A Z β w _ (aM (o:=⟨dst,.call ⟨.builtin .append,#[y,z],#[U,U]⟩,ty,pos,af,gd⟩) a6 h2 b1 ht)
   refine⟨ac.eval y,o6 ?_,hr⟩
   rw[e1]
   exact Jk hu hi hs (by omega)
  ·obtain⟨rfl,rfl,rfl,rfl⟩:=cg h5
   refine bq hO hL trivial fun A Z w β ac ht=>?_
   have hr:=aM (o:=⟨dst,.call ⟨.builtin .append,#[y,z],#[U,U]⟩,ty,pos,af,gd⟩) b0 h1 hv ht
   have e1:=RdA.z_eq hr
   have hs:=b5 rfl A Z β w _ (aM (o:=⟨dst,.call ⟨.builtin .append,#[y,z],#[U,U]⟩,ty,pos,af,gd⟩) a6 h2 b1 ht)
   refine⟨ac.eval y,o6 ?_,hr⟩
   rw[e1]
   exact Jk hu hi hs (bd _)
  ·cases h5
 ·rename_i hq
  have i6:0<q:=by
   rcases iS q with e|e;·subst e;exact absurd rfl hq
   ·exact e
  have c6: ∀ {A:Nat->Prop},(∀k,A k-> ¬(N<=k/\k<N+1))-> ∀k,A k->k≠N:=fun h k hk e=>h k hk ⟨by omega,by omega⟩
  rcases kO hF with⟨k,off,n,lo,ex,m',rfl,h5⟩|⟨rfl,h5⟩|⟨rfl,h5⟩
  ·obtain⟨bx,hb,h6⟩:=aC h5
   obtain⟨g1,h7⟩:=bv h6
   obtain⟨g2,h8⟩:=bv h7
   obtain⟨g3,h9⟩:=bv h8
   obtain⟨g6,g8⟩:=bv h9
   obtain⟨g4,u⟩:=bv g8
   have g1:=fe g1
   have g2:=fe g2
   rw[dN] at g3 g4 g6
   have c7:n+q<=maxLen:=fw (show n+q<=1000000 from g6) (by decide)
   have g3:(n+q)*by_<=140737488355328:=g3
   have g4:off+n*i.size<=bx.n:=g4
   obtain⟨b8,a9⟩:=hO k bx hb
   have b2:=qh hb
   rw[g1] at b2
   subst g2
   have g0:=hL k bx hb
   have e5:(n+q)*i.size=n*i.size+q*i.size:=iP _ _ _
   have e8:off+n*i.size<=bx.r.flat.length:=by rw[<-a9];exact g4
   rw[ig] at u
   split at u
   ·rename_i I
    rw[dN] at I
    have I:n+q<=lo:=I
    have e6: ∀(nb:Nat) (nr:Rp),nr.ok->nb=nr.flat.length->nr.flat=bx.r.flat.take (off+n*i.size)++ys.flat++bx.r.flat.drop (off+(n+q)*i.size)->
     gz P ops ⟨dst,.call ⟨.builtin .append,#[y,z],#[U,U]⟩,ty,pos,af,gd⟩ (TS m L T) N H (.c (.s k off (n+q) lo ex i.size)) N (H.set ⟨e,nb,nr⟩ k) (.c H (H.set ⟨e,nb,nr⟩ k)):=by
     intro nb nr i0 f4 e9
     refine yQ trivial (n9 hO i0 f4) (oA hL (bd _) g0) (bd _) fun V A β ac w hA hm ht=>?_
     obtain⟨c,e1,hk,c1,c2,c3,c4,c5⟩:=RdA.s_eq (aM (o:=⟨dst,.call ⟨.builtin .append,#[y,z],#[U,U]⟩,ty,pos,af,gd⟩) b0 h1 hv ht)
     obtain⟨news,hs,a0⟩:=a3 V A β w _ hm (aM (o:=⟨dst,.call ⟨.builtin .append,#[y,z],#[U,U]⟩,ty,pos,af,gd⟩) a6 h2 b1 ht)
     obtain⟨vs,ev,e3,e2,a5⟩:=hm.box k e bx.r.flat b2
     have g7:(n+q)*i.size<=c*i.size:=mE _ (by omega)
     have R:=IL (ty:=ty) hu hi hs ev (n:=n) (c:=c) (off:=off) (by omega) (by omega)
     have a4:news.length=q*i.size:=hs.newsLen
     have c8:=o6 (dst:=dst) (pos:=pos) (af:=af) (gd:=gd) (a:=ac) (y:=y) (z:=z) (by rw[e1];exact R)
     unfold Gives
     rw[c8]
     have i4:off+n*i.size+q*i.size<=vs.size:=by omega
     obtain⟨m1,m2⟩:=vf (N:=N) (cs:=nr.flat) hm b2 (vs:=(vs.toList.take (off+n*i.size)++news++vs.toList.drop (off+n*i.size+news.length)).toArray) (by simp;omega) (fK ev) rfl rfl rfl
      (by rw[e9];simp;omega) (by
       rw[e9];have hw:=xi (xi (u5 (off:=0) (n:=off+n*i.size) a5 (by omega)) a0) (a5.drop (off+(n+q)*i.size));have e4:((vs.toList.take (off+n*i.size)++news++vs.toList.drop (off+n*i.size+news.length)).toArray).toList.take (bx.r.flat.take (off+n*i.size)++ys.flat++bx.r.flat.drop (off+(n+q)*i.size)).length=(vs.toList.drop 0).take (off+n*i.size)++news++(vs.toList.take bx.r.flat.length).drop (off+(n+q)*i.size):=by show(vs.toList.take (off+n*i.size)++news++vs.toList.drop (off+n*i.size+news.length)).take _=_;rw[List.take_append,f9 (l:=vs.toList.take (off+n*i.size)++news) (by simp;omega),tz,lE,show off+n*i.size+news.length=off+(n+q)*i.size by omega];congr 2;simp;omega
       rw[e4];simpa using hw)
     refine⟨A,β,fun _ h=>h,fun _ h=>.inl h,m1.sub (fun j c J=>?_),m2.less (fun j c J=>?_),?_⟩
     ·rcases ph J with⟨r1,r2⟩|⟨r1,r2⟩
      ·show(if j=k then some (e,nr.flat) else HS H j)=some c
       rw[if_pos r1,r2]
      ·show(if j=k then some (e,nr.flat) else HS H j)=some c
       rw[if_neg r1];exact r2
     ·rcases ph J with⟨r1,r2⟩|⟨r1,r2⟩
      ·show(if j=k then some (e,nr.flat) else HS H j)=some c
       rw[if_pos r1,r2]
      ·show(if j=k then some (e,nr.flat) else HS H j)=some c
       rw[if_neg r1];exact r2
     ·exact RdA.s k off (n+q) lo ex i.size c hk I c2 c3 c4 c5
    rw[ig] at u
    split at u
    ·rename_i a2
     rw[dN] at a2
     have a2:off+(n+q)*i.size<=bx.n:=a2
     obtain⟨rfl,rfl,rfl,rfl⟩:=rF u
     obtain⟨u1,u2⟩:=va b4 bx.r bx.n (off+n*i.size) (q*i.size) b8 a9 d4.symm (by omega)
     exact e6 bx.n (updR ys bx.r bx.n (off+n*i.size) (q*i.size)) u1 (by rw[u2,a9];simp;omega) (by rw[u2,show off+n*i.size+q*i.size=off+(n+q)*i.size by omega])
    ·rename_i a2
     rw[dN] at a2
     have a2: ¬off+(n+q)*i.size<=bx.n:=a2
     obtain⟨rfl,rfl,rfl,rfl⟩:=rF u
     obtain⟨s1,s2⟩:=jW bx.r bx.n 0 (off+n*i.size) b8 a9 (by omega)
     obtain⟨j1,j2⟩:=jM (ls:=off+n*i.size) (l:=iB bx.r bx.n 0 (off+n*i.size)) (r:=ys) (by rw[s2];simp;omega) s1 b4
     refine e6 (off+(n+q)*i.size) (iE (off+n*i.size) (iB bx.r bx.n 0 (off+n*i.size)) ys) j1 (by rw[j2,s2];simp;omega) (by rw[j2,s2,lE,yw (i:=off+(n+q)*i.size) (by omega)];simp)
   ·rename_i I
    rw[dN] at I
    have I: ¬n+q<=lo:=I
    rw[ig] at u
    split at u
    ·--it grows,for sure
     rename_i c8
     obtain⟨rfl,rfl,rfl,rfl⟩:=rF u
     obtain⟨s1,s2⟩:=jW bx.r bx.n off (n*i.size) b8 a9 g4
     obtain⟨j1,j2⟩:=jM (ls:=n*i.size) (l:=iB bx.r bx.n off (n*i.size)) (r:=ys) (by rw[s2];simp;omega) s1 b4
     have jl:(n+q)*i.size=(iE (n*i.size) (iB bx.r bx.n off (n*i.size)) ys).flat.length:=by rw[j2,s2];simp;omega
     refine yQ trivial (n9 hO j1 jl) (oA hL (qd _) (wl _)) (qd _) fun V A β ac w hA hm ht=>?_
     obtain⟨c,e1,hk,c1,c2,c3,c4,c5⟩:=RdA.s_eq (aM (o:=⟨dst,.call ⟨.builtin .append,#[y,z],#[U,U]⟩,ty,pos,af,gd⟩) b0 h1 hv ht)
     obtain⟨news,hs,a0⟩:=a3 V A β w _ hm (aM (o:=⟨dst,.call ⟨.builtin .append,#[y,z],#[U,U]⟩,ty,pos,af,gd⟩) a6 h2 b1 ht)
     obtain⟨vs,ev,e3,e2,a5⟩:=hm.box k e bx.r.flat b2
     have hc:=c4 c8
     have E:c<n+q:=by omega
     have R:=run_append_grow_src (P:=P) (w:=w) U U ty e i zv hu hi hz (some ⟨(β k).b,off,none⟩) n c _ (EK (c:=c) ev (by omega)) (ac.eval z) q news hs E (by have:maxLen=9223372036854775807:=rfl;omega) (growslice_fits E (by rw[d2];exact g3))
     have b3:=u5 a5 (off:=off) (n:=n*i.size) e8
     have a4:news.length=q*i.size:=hs.newsLen
     have d0:(((vs.toList.drop off).take (n*i.size))++news).length=(n+q)*i.size:=by rw[dc,a4,b3.1];simp;omega
     obtain⟨A',β',w1,w2,w3,w4,w5⟩:=xc (N:=N) (e:=e) (z:=zv) hm (c6 hA) d1 d0 (b3.append a0) (grownCap_ge w (n+q) c e) (grownCap_le_maxLen w (n+q) c e c7)
     have a1:=o6 (dst:=dst) (pos:=pos) (af:=af) (gd:=gd) (a:=ac) (y:=y) (z:=z) (by rw[e1];exact R)
     unfold Gives
     rw[a1]
     have c0:(iE (n*i.size) (iB bx.r bx.n off (n*i.size)) ys).flat=(bx.r.flat.drop off).take (n*i.size)++ys.flat:=by rw[j2,s2]
     have D: ∀j c,HS (H.set ⟨e,(n+q)*i.size,iE (n*i.size) (iB bx.r bx.n off (n*i.size)) ys⟩ N) j=some c->(if j=N then some (e,(bx.r.flat.drop off).take (n*i.size)++ys.flat) else HS H j)=some c:=by
      intro j c J;rcases ph J with⟨r1,r2⟩|⟨r1,r2⟩;·rw[if_pos r1,r2,c0]
      ·rw[if_neg r1];exact r2
     exact⟨A',β',w1,w2,w3.sub D,w4.less D,w5 _ _⟩
    ·--not known
     obtain⟨b6,c9⟩:=bv u
     have b6:=fe b6
     subst b6
     obtain⟨rfl,rfl,rfl,rfl⟩:=rF c9
     obtain⟨s1,s2⟩:=jW bx.r bx.n 0 (n*i.size) b8 a9 g4
     obtain⟨j1,j2⟩:=jM (ls:=n*i.size) (l:=iB bx.r bx.n 0 (n*i.size)) (r:=ys) (by rw[s2];simp;omega) s1 b4
     have jl:(n+q)*i.size=(iE (n*i.size) (iB bx.r bx.n 0 (n*i.size)) ys).flat.length:=by rw[j2,s2];simp;omega
     have i2:jp (H.del k):=fun j b' J=>hO j b' (Tr.del_get H k j J).2
     have i1:jx N (H.del k):=fun j b' J=>hL j b' (Tr.del_get H k j J).2
     have f0: ∀j c,HS (H.del k) j=some c->j≠k/\HS H j=some c:=by
      intro j c J;unfold HS at J⊢;cases h9:(H.del k).get j with
      |none=>rw[h9] at J;cases J
      |some b'=>
       rw[h9] at J;injection J with J;obtain⟨r1,r2⟩:=Tr.del_get H k j h9;refine⟨r1,?_⟩;rw[r2,<-J];rfl
     have c0:(iE (n*i.size) (iB bx.r bx.n 0 (n*i.size)) ys).flat=(bx.r.flat.drop 0).take (n*i.size)++ys.flat:=by rw[j2,s2]
     refine yQ trivial (n9 i2 j1 jl) (oA i1 (qd _) (wl _)) (qd _) fun V A β ac w hA hm ht=>?_
     obtain⟨c,e1,hk,c1,c2,c3,c4,c5⟩:=RdA.s_eq (aM (o:=⟨dst,.call ⟨.builtin .append,#[y,z],#[U,U]⟩,ty,pos,af,gd⟩) b0 h1 hv ht)
     obtain⟨news,hs,a0⟩:=a3 V A β w _ hm (aM (o:=⟨dst,.call ⟨.builtin .append,#[y,z],#[U,U]⟩,ty,pos,af,gd⟩) a6 h2 b1 ht)
     obtain⟨vs,ev,e3,e2,a5⟩:=hm.box k e bx.r.flat b2
     have a4:news.length=q*i.size:=hs.newsLen
     have b3:=u5 a5 (off:=0) (n:=n*i.size) e8
     have i5:k≠N:=by omega
     by_cases hc:n+q<=c
     ·--in place:the box goes by a new name
      have g7:(n+q)*i.size<=c*i.size:=mE _ hc
      have R:=IL (ty:=ty) hu hi hs ev (n:=n) (c:=c) (off:=0) hc (by omega)
      have a1:=o6 (dst:=dst) (pos:=pos) (af:=af) (gd:=gd) (a:=ac) (y:=y) (z:=z) (by rw[e1];exact R)
      unfold Gives
      rw[a1]
      simp only[dt]
      obtain⟨m1,m2⟩:=vf (N:=N) (cs:=(bx.r.flat.drop 0).take (n*i.size)++ys.flat) hm b2 (vs:=(vs.toList.take (n*i.size)++news++vs.toList.drop (n*i.size+news.length)).toArray) (by simp;omega) (fK ev) rfl rfl rfl
       (by simp;omega) (by
        have hw:=b3.append a0;have e4:((vs.toList.take (n*i.size)++news++vs.toList.drop (n*i.size+news.length)).toArray).toList.take ((bx.r.flat.drop 0).take (n*i.size)++ys.flat).length=(vs.toList.drop 0).take (n*i.size)++news:=by show(vs.toList.take (n*i.size)++news++vs.toList.drop (n*i.size+news.length)).take _=_;rw[sM (by simp;omega),f9 (by simp;omega),lE]
        rw[e4];exact hw)
      obtain⟨n1,n2⟩:=Vd (N:=N) m1 (c6 hA) (k0:=k) (U:=e) (cs:=(bx.r.flat.drop 0).take (n*i.size)++ys.flat) (if_pos rfl)
      have D: ∀j d,HS ((H.del k).set ⟨e,(n+q)*i.size,iE (n*i.size) (iB bx.r bx.n 0 (n*i.size)) ys⟩ N) j=some d->
       (if j=N then some (e,(bx.r.flat.drop 0).take (n*i.size)++ys.flat) else if j=k then none else if j=k then some (e,(bx.r.flat.drop 0).take (n*i.size)++ys.flat) else HS H j)=some d:=by
       intro j d J
       rcases ph J with⟨r1,r2⟩|⟨r1,r2⟩
       ·rw[if_pos r1,r2,c0]
       ·obtain⟨r3,r4⟩:=f0 j d r2
        rw[if_neg r1,if_neg r3,if_neg r3];exact r4
      refine⟨_,_,fun j J=>.inl J,fun j J=>?_,n1.sub D,((m2.wide (bd _) (qd _)).trans (fun _ h=>h) n2).less D,?_⟩
      ·rcases J with J|J
       ·exact .inl J
       ·exact .inr ⟨Nat.le_of_eq J.symm,by show j<N+1;omega⟩
      ·have d3:=RdA.s (A:=fun j=>A j\/j=N) (Z:=Zs V (HS ((H.del k).set ⟨e,(n+q)*i.size,iE (n*i.size) (iB bx.r bx.n 0 (n*i.size)) ys⟩ N)) (fun j=>if j=N then β k else β j))
        (w:=w.setRow (β k).b (vs.toList.take (n*i.size)++news++vs.toList.drop (n*i.size+news.length)).toArray) (β:=fun j=>if j=N then β k else β j) N 0 (n+q) (n+q) false i.size c (.inr rfl) (bd _) hc c3 (fun e=>by cases e) (by rw[if_pos rfl];exact c5)
       rw[if_pos rfl] at d3
       exact d3
     ·have E:c<n+q:=by omega
      have R:=run_append_grow_src (P:=P) (w:=w) U U ty e i zv hu hi hz (some ⟨(β k).b,0,none⟩) n c _ (EK (c:=c) ev (by omega)) (ac.eval z) q news hs E (by have:maxLen=9223372036854775807:=rfl;omega) (growslice_fits E (by rw[d2];exact g3))
      have d0:(((vs.toList.drop 0).take (n*i.size))++news).length=(n+q)*i.size:=by rw[dc,a4,b3.1];simp;omega
      obtain⟨A',β',w1,w2,w3,w4,w5⟩:=xc (N:=N) (e:=e) (z:=zv) hm (c6 hA) d1 d0 (b3.append a0) (grownCap_ge w (n+q) c e) (grownCap_le_maxLen w (n+q) c e c7)
      have a1:=o6 (dst:=dst) (pos:=pos) (af:=af) (gd:=gd) (a:=ac) (y:=y) (z:=z) (by rw[e1];exact R)
      unfold Gives
      rw[a1]
      have D: ∀j d,HS ((H.del k).set ⟨e,(n+q)*i.size,iE (n*i.size) (iB bx.r bx.n 0 (n*i.size)) ys⟩ N) j=some d->(if j=N then some (e,(bx.r.flat.drop 0).take (n*i.size)++ys.flat) else HS H j)=some d:=by
       intro j d J;rcases ph J with⟨r1,r2⟩|⟨r1,r2⟩;·rw[if_pos r1,r2,c0]
       ·rw[if_neg r1];exact(f0 j d r2).2
      exact⟨A',β',w1,w2,w3.sub D,w4.less D,w5 _ _⟩
  ·--onto the nil slice
   obtain⟨g3,h6⟩:=bv h5
   obtain⟨g6,u⟩:=bv h6
   rw[dN] at g3 g6
   have g3:q*by_<=140737488355328:=g3
   have c7:0+q<=maxLen:=by rw[dt];exact fw g6 (by decide)
   obtain⟨rfl,rfl,rfl,rfl⟩:=rF u
   refine yQ trivial (n9 hO b4 d4.symm) (oA hL (qd _) (wl _)) (qd _) fun V A β ac w hA hm ht=>?_
   have e1:=RdA.z_eq (aM (o:=⟨dst,.call ⟨.builtin .append,#[y,z],#[U,U]⟩,ty,pos,af,gd⟩) b0 h1 hv ht)
   obtain⟨news,hs,a0⟩:=a3 V A β w _ hm (aM (o:=⟨dst,.call ⟨.builtin .append,#[y,z],#[U,U]⟩,ty,pos,af,gd⟩) a6 h2 b1 ht)
   have a4:news.length=q*i.size:=hs.newsLen
   have f1:(Builtin.firstCells i.size 0 (.slice none 0 0)).run P w.drew=.ok ([]:List Value).toArray w.drew:=rfl
   have E:0<0+q:=by omega
   have R:=run_append_grow_src (P:=P) (w:=w) U U ty e i zv hu hi hz none 0 0 _ f1 (ac.eval z) q news hs E (by have:maxLen=9223372036854775807:=rfl;omega) (growslice_fits E (by rw[d2,dt];exact g3))
   obtain⟨A',β',w1,w2,w3,w4,w5⟩:=xc (N:=N) (e:=e) (z:=zv) (n:=0) (q:=q) (olds:=[]) (news:=news) hm (c6 hA) d1 (by simp[a4]) (by simpa using a0) (grownCap_ge w (0+q) 0 e) (grownCap_le_maxLen w (0+q) 0 e c7)
   have a1:=o6 (dst:=dst) (pos:=pos) (af:=af) (gd:=gd) (a:=ac) (y:=y) (z:=z) (by rw[e1];exact R)
   unfold Gives
   rw[a1]
   have D: ∀j d,HS (H.set ⟨e,q*i.size,ys⟩ N) j=some d->(if j=N then some (e,ys.flat) else HS H j)=some d:=by
    intro j d J;rcases ph J with⟨r1,r2⟩|⟨r1,r2⟩;·rw[if_pos r1,r2]
    ·rw[if_neg r1];exact r2
   refine⟨A',β',w1,w2,w3.sub D,w4.less D,?_⟩
   show RdA A' _ _ β' _ (.s N 0 q q false i.size)
   rw[show AV.s N 0 q q false i.size=AV.s N 0 (0+q) (0+q) false i.size by rw[dt]]
   exact w5 _ _
  ·cases h5
end
section
variable {P:Program}{ops:Array Oper}{TT:TX}{m N:Nat}{L:LX}{T:Tr XV}{H:Tr Bx}
variable {N':Nat}{H':Tr Bx}{g:Lg}{call:fF}
variable {dst:Option Nat}{ty:TypeId}{pos:String}{af:Array Edge}{gd:Option (Nat×Bool)}
theorem De {i:TypeInfo}{z:Value}{k:IntKind}(hu:P.underlying U=some (.slice e)) (hW:P.underlying W=some (.int kk)) (hi:P.info? e=some i) (hz:i.zero=some z) (_a0:z.cells.size=i.size) (h0:0<i.size) 
 (hq:0<q) (a1:q<=1000000) (hb:q*i.bytes<=140737488355328):
 (Builtin.append_ #[U,W] ty #[.slice none 0 0,.int k (q:Int)]).run P w=
  .ok (.slice (some ⟨w.heap.size,0,none⟩) q (grownCap w q 0 e)) (w.drew.alloc (.cells (([]++(Builtin.zeroCells z.cells q).toList).toArray++Builtin.zeroCells z.cells (grownCap w q 0 e-q)) e)):=by
 have hw:IntKind.i64.wrap (q:Int)=(q:Int):=by unfold IntKind.wrap;simp[IntKind.bits,IntKind.signed];omega
 have hl: ¬((q:Int)<0):=by omega
 have u: ¬(281474976710656<(q:Int)*(i.bytes:Int)):=by have h2:((q*i.bytes:Nat):Int)<=140737488355328:=Int.ofNat_le.2 hb;rw[wd] at h2;omega
 have I: ¬(q<=0):=by omega
 have J: ¬(q*i.size=0):=by have:=Nat.mul_pos hq h0;omega
 have h:Builtin.nextslicecap q 0=q:=by unfold Builtin.nextslicecap;rw[if_pos (by omega)]
 have D: ¬(281474976710656<q*i.bytes):=by omega
 have j: ¬((9223372036854775807:Int)<(q:Int)):=by omega
 have E:q≠0:=by omega
 have R:i.size≠0:=by omega
 simp[Builtin.append_,run_underlying hu,run_underlying hW,sizeOf,typeInfo,zeroValue,hi,hz,asInt,asIntOf,hw,hl,u,J,h,D,j,Question.forced,newRow,grownCap,Builtin.firstCells,E]
theorem NB (h:(Builtin.append_ #[U,W] ty #[a.eval y,a.eval z]).run P w=.ok v w'):(execOp a.eval ⟨dst,.call ⟨.builtin .append,#[y,z],#[U,W]⟩,ty,pos,af,gd⟩).run P w=.ok (.value v) w':=by simp only[execOp,resolve,invoke,builtin,fq,dx,dd,qT,mm,qy];rw[h];rfl
theorem aeg (_hT:lm (TS m L T)) (hO:jp H) (hL:jx N H) {x:XV}(hU:R4 P U=some (e,sz,by_,zs)) (R:Xm P W=some kk) (h1:cO m y=some xo) (h2:cO m z=some yo)
 (h:Ya e sz by_ (th zs) xo yo call L T N H=some (.mk x N' H' g)):gz P ops ⟨dst,.call ⟨.builtin .append,#[y,z],#[U,W]⟩,ty,pos,af,gd⟩ (TS m L T) N H x N' H' g:=by
 obtain⟨v,hv,h⟩:=aC h
 obtain⟨v2,a9,h⟩:=aC h
 obtain⟨a,q1,h⟩:=il h
 obtain⟨kb,q,q2,h⟩:=ru h
 subst q1 q2
 obtain⟨hu,i,I,hi,hz,J,a6,u,h0,a3⟩:=tR hU
 have hw:P.underlying W=some (.int kk):=by
  unfold Xm at R;split at R;·rename_i k e1;injection R with R;subst R;exact e1
  ·cases R
 rcases kO h with⟨k,off,n,lo,ex,m',rfl,h5⟩|⟨rfl,h5⟩|⟨rfl,h5⟩
 ·cases h5
 ·obtain⟨g1,h6⟩:=bv h5
  obtain⟨g2,h7⟩:=bv h6
  obtain⟨g3,h8⟩:=bv h7
  rw[cJ] at g1
  rw[dN] at g2 g3
  have g2:q*by_<=140737488355328:=g2
  have D:I.cells.size=i.size:=by have h1:=(a3 (fun _=>False) (fun _=>False) default (fun _=>⟨0,0⟩)).1;rw[u] at h1;rw[J];simpa using h1
  obtain⟨z1,z2⟩:=nv zs
  obtain⟨r1,r2⟩:=qH (m:=sz) (z:=th zs) (by rw[z2,u]) z1 q
  have a2:(pj sz (th zs) q).flat=yA zs q:=by rw[r2,z2]
  have a0:q*sz=(pj sz (th zs) q).flat.length:=by rw[a2,tW,u]
  have b0:0+q<=maxLen:=by rw[dt];exact fw g3 (by decide)
  obtain⟨rfl,rfl,rfl,rfl⟩:=rF h8
  have b1: ∀ {A:Nat->Prop},(∀k,A k-> ¬(N<=k/\k<N+1))-> ∀k,A k->k≠N:=fun h k hk e=>h k hk ⟨by omega,by omega⟩
  refine yQ trivial (n9 hO r1 a0) (oA hL (qd _) (wl _)) (qd _) fun V A β ac w hA hm ht=>?_
  have e1:=RdA.z_eq (aM (o:=⟨dst,.call ⟨.builtin .append,#[y,z],#[U,W]⟩,ty,pos,af,gd⟩) (by simp[Op.operands,Call.operands]) h1 hv ht)
  have e2:ac.eval z=.int kb (q:Int):=RdA.i_eq (aM (o:=⟨dst,.call ⟨.builtin .append,#[y,z],#[U,W]⟩,ty,pos,af,gd⟩) (by simp[Op.operands,Call.operands]) h2 a9 ht)
  have a1:=De (ty:=ty) (w:=w) (k:=kb) hu hw hi hz D (by omega) g1 g3 (by rw[a6];exact g2)
  have a4:=wG u (a3 A (Zs V (HS H) β) w β) q
  obtain⟨A',β',w1,w2,w3,w4,w5⟩:=xc (N:=N) (e:=e) (z:=I) (n:=0) (q:=q) (olds:=[]) (news:=(Builtin.zeroCells I.cells q).toList) (us:=yA zs q) hm (b1 hA) D (by simp[Builtin.zeroCells,D]) (by
   have e3:(Builtin.zeroCells I.cells q).toList=(madeCells I.cells (q*sz)).toList:=by unfold Builtin.zeroCells madeCells;rw[D,J]
   rw[rI,e3];unfold madeCells;simpa using a4) (grownCap_ge w (0+q) 0 e) (grownCap_le_maxLen w (0+q) 0 e b0)
  have a5:=NB (dst:=dst) (pos:=pos) (af:=af) (gd:=gd) (a:=ac) (y:=y) (z:=z) (by rw[e1,e2];exact a1)
  unfold Gives
  rw[a5]
  have E: ∀j d,HS (H.set ⟨e,q*sz,pj sz (th zs) q⟩ N) j=some d->(if j=N then some (e,yA zs q) else HS H j)=some d:=by
   intro j d hj;rcases ph hj with⟨r3,r4⟩|⟨r3,r4⟩;·rw[if_pos r3,r4];exact congrArg (fun l=>some (e,l)) a2.symm
   ·rw[if_neg r3];exact r4
  rw[dt] at w3 w4
  refine⟨A',β',w1,w2,w3.sub E,w4.less E,?_⟩
  show RdA A' _ _ β' _ (.s N 0 q q false sz)
  have:=w5 (Zs V (HS (H.set ⟨e,q*sz,pj sz (th zs) q⟩ N)) β') (w.drew.alloc (.cells (([]++(Builtin.zeroCells I.cells q).toList).toArray++Builtin.zeroCells I.cells (grownCap w q 0 e-q)) e))
  rw[dt,J] at this
  exact this
 ·cases h5
end
section
variable {P:Program}{ops:Array Oper}{o:Oper}{TT:TX}{m N:Nat}{L:LX}{T:Tr XV}{H:Tr Bx}{x:XV}
variable {N':Nat}{H':Tr Bx}{g:Lg}{call:fF}
variable {dst:Option Nat}{ty:TypeId}{pos:String}{af:Array Edge}{gd:Option (Nat×Bool)}
theorem WM:RdX2 A Z w β (.tuple #[]) (.t []):=⟨#[],rfl,RdDs.nil⟩
theorem wZ (h:(Builtin.clear_ #[U] ty #[a.eval y]).run P w=.ok (.tuple #[]) w'):(execOp a.eval ⟨dst,.call ⟨.builtin .clear,#[y],#[U]⟩,ty,pos,af,gd⟩).run P w=.ok (.value (.tuple #[])) w':=by simp only[execOp,resolve,invoke,builtin,fq,dx,dd,qT,mm,qy];rw[h];rfl
theorem aez (_hT:lm (TS m L T)) (hO:jp H) (hL:jx N H) {x:XV}(hU:R4 P U=some (e,sz,by_,zs)) (h1:cO m y=some xo)
 (h:Yl sz (th zs) xo call L T N H=some (.mk x N' H' g)):gz P ops ⟨dst,.call ⟨.builtin .clear,#[y],#[U]⟩,ty,pos,af,gd⟩ (TS m L T) N H x N' H' g:=by
 obtain⟨v,hv,h⟩:=aC h
 obtain⟨a,q1,h3⟩:=il h
 subst q1
 obtain⟨hu,i,E,hi,hz,c0,b8,R,h0,b0⟩:=tR hU
 have a1:y∈(Op.call ⟨.builtin .clear,#[y],#[U]⟩).operands:=by simp[Op.operands,Call.operands]
 have D: ∀(w:World) (A:Option Addr) (c:Nat),(Builtin.clear_ #[U] ty #[.slice A 0 c]).run P w=.ok (.tuple #[]) w:=fun w A c=>by cases A<;>simp[Builtin.clear_,run_underlying hu]
 rcases kO h3 with⟨k,off,n,lo,ex,m',rfl,h4⟩|⟨rfl,h4⟩|⟨rfl,h4⟩
 ·rw[ig] at h4
  split at h4
  ·rename_i hn
   have hn:=fe hn
   subst hn
   obtain⟨rfl,rfl,rfl,rfl⟩:=cg h4
   refine bq hO hL (fun d hd=>by cases hd) fun A Z w β ac ht=>?_
   obtain⟨c,e1,_⟩:=RdA.s_eq (aM (o:=⟨dst,.call ⟨.builtin .clear,#[y],#[U]⟩,ty,pos,af,gd⟩) a1 h1 hv ht)
   exact⟨_,wZ (by rw[e1];exact D _ _ _),WM⟩
  ·rename_i hn
   have hn:n≠0:=fun e=>by subst e;exact hn rfl
   obtain⟨b,hb,h5⟩:=aC h4
   obtain⟨g1,h6⟩:=bv h5
   obtain⟨g2,h7⟩:=bv h6
   obtain⟨rfl,rfl,rfl,rfl⟩:=rF h7
   have g1:=fe g1
   subst g1
   rw[dN] at g2
   have g2:off+n*sz<=b.n:=g2
   obtain⟨b2,a0⟩:=hO k b hb
   obtain⟨z1,z2⟩:=nv zs
   obtain⟨r1,r2⟩:=qH (m:=sz) (z:=th zs) (by rw[z2,R]) z1 n
   have a5:(pj sz (th zs) n).flat=yA zs n:=by rw[r2,z2]
   have b5:n*sz=(pj sz (th zs) n).flat.length:=by rw[a5,tW,R]
   obtain⟨u1,u2⟩:=va r1 b.r b.n off (n*sz) b2 a0 b5 g2
   have a9:=qh hb
   have b6:off+n*sz<=b.r.flat.length:=by rw[<-a0];exact g2
   have I:b.n=(updR (pj sz (th zs) n) b.r b.n off (n*sz)).flat.length:=by rw[u2,a0];simp;omega
   refine yQ (fun d hd=>by cases hd) (n9 hO u1 I) (oA hL (bd _) (hL k b hb)) (bd _) fun V A β ac w hA hm ht=>?_
   obtain⟨c,e1,hk,c1,c2,c3,c4,c5⟩:=RdA.s_eq (aM (o:=⟨dst,.call ⟨.builtin .clear,#[y],#[U]⟩,ty,pos,af,gd⟩) a1 h1 hv ht)
   obtain⟨vs,ev,c7,c6,b1⟩:=hm.box k b.U b.r.flat a9
   have J:=wG R (b0 A (Zs V (HS H) β) w β) n
   have b4:E.cells.size=sz:=by have:=(b0 A (Zs V (HS H) β) w β).1;rw[R] at this;simpa using this
   have a6:(Builtin.zeroCells E.cells n).toList=(List.range (n*sz)).map (fun j=>E.cells[j%E.cells.size]!):=by unfold Builtin.zeroCells;rw[b4];simp
   rw[<-a6] at J
   have u:(Builtin.zeroCells E.cells n).toList.length=n*sz:=by rw[a6];simp
   have a3:=run_storeCells_at P (β k).b off b.U (Builtin.zeroCells E.cells n).toList 0 vs w ev (by omega) J.one
   simp only[um] at a3
   have a4:(Builtin.clear_ #[U] ty #[.slice (some ⟨(β k).b,off,none⟩) n c]).run P w=.ok (.tuple #[]) (w.setRow (β k).b (vs.toList.take off++(Builtin.zeroCells E.cells n).toList++vs.toList.drop (off+(Builtin.zeroCells E.cells n).toList.length)).toArray):=by simp[Builtin.clear_,run_underlying hu,hn,zeroValue,typeInfo,hi,hz];rw[a3];simp
   have b3:=wZ (dst:=dst) (pos:=pos) (af:=af) (gd:=gd) (a:=ac) (y:=y) (by rw[e1];exact a4)
   unfold Gives
   rw[b3]
   obtain⟨m1,m2⟩:=vf (N:=_) (cs:=(updR (pj sz (th zs) n) b.r b.n off (n*sz)).flat) hm a9 (vs:=(vs.toList.take off++(Builtin.zeroCells E.cells n).toList++vs.toList.drop (off+(Builtin.zeroCells E.cells n).toList.length)).toArray)
    (by simp only[List.size_toArray,dc,u];simp;omega) (fK ev) rfl rfl rfl (by rw[<-I,a0];simp only[List.size_toArray,dc,u];simp;omega) (by
     rw[<-I,u2,a5];have hw:=xi (xi (u5 (off:=0) (n:=off) b1 (by omega)) J) (b1.drop (off+n*sz));have e4:((vs.toList.take off++(Builtin.zeroCells E.cells n).toList++vs.toList.drop (off+(Builtin.zeroCells E.cells n).toList.length)).toArray).toList.take b.n=(vs.toList.drop 0).take off++(Builtin.zeroCells E.cells n).toList++(vs.toList.take b.r.flat.length).drop (off+n*sz):=by show(vs.toList.take off++(Builtin.zeroCells E.cells n).toList++vs.toList.drop (off+(Builtin.zeroCells E.cells n).toList.length)).take b.n=_;rw[List.take_append,f9 (l:=vs.toList.take off++(Builtin.zeroCells E.cells n).toList) (by rw[dc,u];simp;omega),tz,lE,u];congr 2;rw[dc,u];simp;omega
     rw[e4];simpa using hw)
   have a2: ∀j d,HS (H.set ⟨b.U,b.n,updR (pj sz (th zs) n) b.r b.n off (n*sz)⟩ k) j=some d->(if j=k then some (b.U,(updR (pj sz (th zs) n) b.r b.n off (n*sz)).flat) else HS H j)=some d:=by
    intro j d hj;rcases ph hj with⟨q1,q2⟩|⟨q1,q2⟩;·rw[if_pos q1,q2]
    ·rw[if_neg q1];exact q2
   exact⟨A,β,fun _ h=>h,fun _ h=>.inl h,m1.sub a2,m2.less a2,WM⟩
 ·obtain⟨rfl,rfl,rfl,rfl⟩:=cg h4
  refine bq hO hL (fun d hd=>by cases hd) fun A Z w β ac ht=>?_
  have e1:=RdA.z_eq (aM (o:=⟨dst,.call ⟨.builtin .clear,#[y],#[U]⟩,ty,pos,af,gd⟩) a1 h1 hv ht)
  exact⟨_,wZ (by rw[e1];exact D _ _ _),WM⟩
 ·obtain⟨rfl,rfl,rfl,rfl⟩:=cg h4
  refine bq hO hL (fun d hd=>by cases hd) fun A Z w β ac ht=>?_
  obtain⟨b,c,e1,_⟩:=RdA.ev_eq (aM (o:=⟨dst,.call ⟨.builtin .clear,#[y],#[U]⟩,ty,pos,af,gd⟩) a1 h1 hv ht)
  exact⟨_,wZ (by rw[e1];exact D _ _ _),WM⟩
theorem J3 {mx:Bool}{k:IntKind}{A Z:Nat->Prop}{w:World}{β:Nat->Pl}: ∀ {vs:List XV}{us:List Value}{a r:Int},Di A Z w β us vs->mmX mx k vs a=some r->(us.foldlM (if mx then Builtin.max2 else Builtin.min2) (.int k a)).run P w=.ok (.int k r) w
 |[],[],a,r,_,h=>by have h:some a=some r:=h;injection h with h;subst h;rfl
 |[],_::_,a,r,hr,_=>by have:=hr.1;simp at this
 |_::_,[],a,r,hr,_=>by have:=hr.1;simp at this
 |v::vs,y::us,a,r,hr,h=>by
  obtain⟨k',b,q,h2⟩:=mn (show xI v (fun k' b=>bT (Nat.beq (kN k) (kN k')) (mmX mx k vs (bI mx (bI (wb a b) b a) (bI (wb b a) b a))))=some r from h);subst q;obtain⟨D,h3⟩:=bv h2;have D:=OY D;subst D;have e1:y=.int k b:=RdA.i_eq (hr.2 0 y (.c (.i k b)) rfl rfl);subst e1;have E:Di A Z w β us vs:=⟨by have:=hr.1;simpa using this,fun j v x R hx=>hr.2 (j+1) v x (by simpa using R) (by simpa using hx)⟩;have J:=J3 E h3;rw[List.foldlM_cons];cases mx with
  |true=>
   have I:Builtin.max2 (.int k a) (.int k b)=pure (.int k (bI true (bI (wb a b) b a) (bI (wb b a) b a))):=by
    show pure (Value.int k (if b>a then b else a))=pure (Value.int k (bI (wb a b) b a));rw[ig,mQ];by_cases u:a<b;·rw[if_pos (by omega),if_pos (by simpa using u)]
    ·rw[if_neg (by omega),if_neg (by simpa using u)]
   show(do let s' <-Builtin.max2 (.int k a) (.int k b);List.foldlM Builtin.max2 s' us:Go.Sem Value).run P w=_;rw[I];exact J
  |false=>
   have I:Builtin.min2 (.int k a) (.int k b)=pure (.int k (bI false (bI (wb a b) b a) (bI (wb b a) b a))):=by
    show pure (Value.int k (if b<a then b else a))=pure (Value.int k (bI (wb b a) b a));rw[ig,mQ];by_cases u:b<a;·rw[if_pos u,if_pos (by simpa using u)]
    ·rw[if_neg u,if_neg (by simpa using u)]
   show(do let s' <-Builtin.min2 (.int k a) (.int k b);List.foldlM Builtin.min2 s' us:Go.Sem Value).run P w=_;rw[I];exact J
theorem adU (_hT:lm (TS m L T)) (hO:jp H) (hL:jx N H) {zs:List Operand}{x:XV}(u:ys.toList=y::zs) (h1:cO m y=some xo) (h2:kS (cO m) zs=some xs)
 (h:W2 true xo xs call L T N H=some (.mk x N' H' g)):gz P ops ⟨dst,.call ⟨.builtin .max,ys,ts⟩,ty,pos,af,gd⟩ (TS m L T) N H x N' H' g:=by
 obtain⟨v,hv,h⟩:=aC h
 obtain⟨k,a,q1,h3⟩:=mn h
 subst q1
 obtain⟨vs,J,h4⟩:=aC h3
 obtain⟨r,hr,h5⟩:=aC h4
 obtain⟨rfl,rfl,rfl,rfl⟩:=cg h5
 have j: ∀z∈ys.toList,z∈(Op.call ⟨.builtin .max,ys,ts⟩).operands:=fun z E=>by have:=yx.1 E;simp[Op.operands,Call.operands,this]
 refine bq hO hL trivial fun A Z w β ac R=>?_
 have e1:ac.eval y=.int k a:=RdA.i_eq (aM (o:=⟨dst,.call ⟨.builtin .max,ys,ts⟩,ty,pos,af,gd⟩) (j y (by rw[u];simp)) h1 hv R)
 have I:=oZ (o:=⟨dst,.call ⟨.builtin .max,ys,ts⟩,ty,pos,af,gd⟩) (fun z E=>j z (by rw[u];simp[E])) h2 J R
 refine⟨.int k r,?_,.i _ _⟩
 have D:=J3 (P:=P) (mx:=true) I hr
 have e2:(ys.map ac.eval).toList=ac.eval y::zs.map ac.eval:=by rw[yH,u];rfl
 show(do let r <-Builtin.max_ ts ty (ys.map ac.eval);pure (Next.value r):Go.Sem Next).run P w=_
 unfold Builtin.max_
 rw[e2,e1,fq]
 show((List.foldlM Builtin.max2 (.int k a) (zs.map ac.eval)).run P w).andThen _=_
 rw[show(List.foldlM Builtin.max2 (Value.int k a) (zs.map ac.eval)).run P w=.ok (.int k r) w from D]
 rfl
theorem aex (_hT:lm (TS m L T)) (hO:jp H) (hL:jx N H) {zs:List Operand}{x:XV}(u:ys.toList=y::zs) (h1:cO m y=some xo) (h2:kS (cO m) zs=some xs)
 (h:W2 false xo xs call L T N H=some (.mk x N' H' g)):gz P ops ⟨dst,.call ⟨.builtin .min,ys,ts⟩,ty,pos,af,gd⟩ (TS m L T) N H x N' H' g:=by
 obtain⟨v,hv,h⟩:=aC h
 obtain⟨k,a,q1,h3⟩:=mn h
 subst q1
 obtain⟨vs,J,h4⟩:=aC h3
 obtain⟨r,hr,h5⟩:=aC h4
 obtain⟨rfl,rfl,rfl,rfl⟩:=cg h5
 have j: ∀z∈ys.toList,z∈(Op.call ⟨.builtin .min,ys,ts⟩).operands:=fun z E=>by have:=yx.1 E;simp[Op.operands,Call.operands,this]
 refine bq hO hL trivial fun A Z w β ac R=>?_
 have e1:ac.eval y=.int k a:=RdA.i_eq (aM (o:=⟨dst,.call ⟨.builtin .min,ys,ts⟩,ty,pos,af,gd⟩) (j y (by rw[u];simp)) h1 hv R)
 have I:=oZ (o:=⟨dst,.call ⟨.builtin .min,ys,ts⟩,ty,pos,af,gd⟩) (fun z E=>j z (by rw[u];simp[E])) h2 J R
 refine⟨.int k r,?_,.i _ _⟩
 have D:=J3 (P:=P) (mx:=false) I hr
 have e2:(ys.map ac.eval).toList=ac.eval y::zs.map ac.eval:=by rw[yH,u];rfl
 show(do let r <-Builtin.min_ ts ty (ys.map ac.eval);pure (Next.value r):Go.Sem Next).run P w=_
 unfold Builtin.min_
 rw[e2,e1,fq]
 show((List.foldlM Builtin.min2 (.int k a) (zs.map ac.eval)).run P w).andThen _=_
 rw[show(List.foldlM Builtin.min2 (Value.int k a) (zs.map ac.eval)).run P w=.ok (.int k r) w from D]
 rfl
theorem Pj (s:ByteArray) (j:Nat):s[j]? =s.data.toList[j]? :=by
 rw[kj];by_cases h:j<s.size
 ·have u:j<s.data.size:=h;rw[getElem?_pos s j h,qS u];rfl
 ·have u: ¬j<s.data.size:=h;rw[getElem?_neg s j h,Array.getElem?_eq_none (by omega)]
theorem abC (_hT:lm (TS m L T)) (D:jp H) (hL:jx N H) {s:ByteArray}{x:XV}(hU:P.underlying U=some .string) (h1:cO m y=some xo)
 (h:PL s xo call L T N H=some (.mk x N' H' g)):gz P ops ⟨dst,.index U (.const (.string s)) y,ty,pos,af,gd⟩ (TS m L T) N H x N' H' g:=by
 obtain⟨v,u,h⟩:=aC h
 obtain⟨k,j,q1,E⟩:=ru h
 subst q1
 obtain⟨b,hb,R⟩:=aC E
 obtain⟨rfl,rfl,rfl,rfl⟩:=cg R
 refine bq D hL trivial fun A Z w β ac J=>?_
 have e1:ac.eval y=.int k (j:Int):=RdA.i_eq (aM (o:=⟨dst,.index U (.const (.string s)) y,ty,pos,af,gd⟩) (by simp[Op.operands]) h1 u J)
 have e2:ac.eval (.const (.string s))=.string s:=rfl
 have I:s[j]? =some b:=by rw[Pj];exact hb
 refine⟨.int .u8 b.toNat,?_,.i _ _⟩
 simp[execOp,Instr.index,e1,e2,asIntOf,run_underlying hU,I]
theorem aeH (_hT:lm (TS m L T)) (hO:jp H) (hL:jx N H) {x:XV}(D:arA P U=some (n,sz)) (h1:cO m y=some xo) (h2:cO m z=some yo)
 (h:X5 n sz xo yo call L T N H=some (.mk x N' H' g)):gz P ops ⟨dst,.indexAddr U y z,ty,pos,af,gd⟩ (TS m L T) N H x N' H' g:=by
 obtain⟨v,hv,h⟩:=aC h
 obtain⟨v2,R,h⟩:=aC h
 obtain⟨k,off,q1,h3⟩:=p8 h
 obtain⟨ki,j,q2,h4⟩:=ru h3
 subst q1 q2
 obtain⟨hj,h5⟩:=bv h4
 obtain⟨rfl,rfl,rfl,rfl⟩:=cg h5
 rw[cJ] at hj
 refine bq hO hL trivial fun A Z w β ac ht=>?_
 obtain⟨e1,hk⟩:=RdA.p_eq (aM (o:=⟨dst,.indexAddr U y z,ty,pos,af,gd⟩) (by simp[Op.operands]) h1 hv ht)
 have e2:ac.eval z=.int ki (j:Int):=RdA.i_eq (aM (o:=⟨dst,.indexAddr U y z,ty,pos,af,gd⟩) (by simp[Op.operands]) h2 R ht)
 unfold arA at D
 split at D
 case h_2=>cases D
 rename_i n' el E
 cases u:P.info? el with
 |none=>rw[u] at D;cases D
 |some a1=>
  rw[u] at D
  simp at D
  obtain⟨q1,q2⟩:=D
  subst q1
  have J: ∀w,(sizeOf el).run P w=.ok sz w:=fun w=>by unfold sizeOf typeInfo;simp[program,Sem.run,u,q2]
  have I:(0:Int)<=(j:Int):=by omega
  have a0:(j:Int)<(n':Int):=by omega
  refine⟨.pointer (some ⟨(β k).b,off+j*sz,none⟩),?_,.p _ _ hk⟩
  simp[execOp,Instr.indexAt,e1,e2,asIntOf,run_underlying E,Instr.sureAddr,I,J,d8,hj]
end
section
variable {P:Program}{ops:Array Oper}{o:Oper}{TT:TX}{m N:Nat}{L:LX}{T:Tr XV}{H:Tr Bx}{x:XV}
variable {N':Nat}{H':Tr Bx}{g:Lg}{call:fF}
theorem qC {j β:Type}{f:j->β}{x:Option j}{y:β}(h:x.map f=some y): ∃v,x=some v/\f v=y:=by
 cases x with
 |none=>cases h
 |some v=>injection h with h;exact⟨v,rfl,h⟩
theorem N8 {j:Type}{a:Array j}{x:j}(h:a.toList=[x]):a= #[x]:=by apply Array.ext';exact h
theorem UT {j:Type}{a:Array j}{x y:j}(h:a.toList=[x,y]):a= #[x,y]:=by apply Array.ext';exact h
theorem OG (R:lm (TS m L T)) (I:jp H) (E:jx N H) (a0:jK P call) {k:oD}(j:zY P m o.op=some k) (h:k call L T N H=some (.mk x N' H' g)):gz P ops o (TS m L T) N H x N' H' g:=by
 obtain⟨dst,op,ty,pos,af,gd⟩:=o;change zY P m op=some k at j;cases op;case move y=>obtain⟨xo,u,rfl⟩:=fZ j;exact aag R I E u h
 case assign y=>obtain⟨xo,u,rfl⟩:=fZ j;exact RC R I E u h
 case pick c y z=>
  unfold zY at j;dsimp only at j;split at j
  ·rename_i co u;obtain⟨xo,yo,D,J,rfl⟩:=lG j;exact ZV R I E u D J h
  ·cases j
 case alloc U=>obtain⟨zs,u,rfl⟩:=qC j;exact Vl I E u h
 case box U y=>obtain⟨xo,u,rfl⟩:=fZ j;exact aeS R I E u h
 case build U ps=>
  unfold zY at j;dsimp only at j;split at j
  ·rename_i pl zs u D;obtain⟨qs,J,rfl⟩:=qC j;exact VA R I E u D J h
  ·cases j
 case buildSlice U n ps=>
  unfold zY at j;dsimp only at j;split at j
  ·rename_i e sz by_ zs u;cases hb:Nat.ble (n*sz) 10000 with
   |false=>rw[hb] at j;cases j
   |true=>
    rw[hb] at j;obtain⟨qs,J,rfl⟩:=qC j;exact aeZ R I E u (dN.1 hb) J h
  ·cases j
 case load U y=>
  unfold zY at j;dsimp only at j;split at j;·rename_i n u;obtain⟨xo,D,rfl⟩:=fZ j;exact acV R I E u D h
  ·rename_i n u;obtain⟨xo,D,rfl⟩:=fZ j;exact aem R I E u D h
  ·cases j
 case store U a y=>
  unfold zY at j;dsimp only at j;split at j;·rename_i q n u;obtain⟨xo,yo,D,J,rfl⟩:=lG j;exact af0 R I E u D J h
  ·cases j
 case nilCheck y=>obtain⟨xo,u,rfl⟩:=fZ j;exact aaO R I E u h
 case binOp op U y z yt=>
  unfold zY at j;dsimp only at j;split at j
  ·rename_i u;split at j;·obtain⟨xo,yo,D,J,rfl⟩:=lG j;exact adn R I E u D J h
   ·obtain⟨xo,yo,D,J,rfl⟩:=lG j;exact aeP R I E u D J h
   ·cases j
  ·rename_i k1 u;split at j;·rename_i f hf;obtain⟨xo,yo,D,J,rfl⟩:=lG j;exact aeD R I E hf D J h
   ·split at j;·rename_i f hf;obtain⟨xo,yo,D,J,rfl⟩:=lG j;exact afd R I E hf D J h
    ·cases j
  ·rename_i e u;split at j;·obtain⟨xo,D,rfl⟩:=fZ j;exact aeh R I E u D h
   ·obtain⟨xo,D,rfl⟩:=fZ j;exact aeA R I E u D h
   ·cases j
  ·cases j
 case unOp op t y=>
  cases op<;>first|(obtain⟨xo,u,rfl⟩:=fZ j;exact adk R I E u h)|(obtain⟨xo,u,rfl⟩:=fZ j;exact adM R I E u h)|cases j
 case convert s d y=>
  unfold zY at j;dsimp only at j;split at j;·rename_i k0 k1 u D;obtain⟨xo,J,rfl⟩:=fZ j;exact aaY R I E u D J h
  ·cases j
 case makeFunc fn first cs=>
  cases fn with
  |func f=>
   unfold zY at j;dsimp only at j;cases hb:first.isEmpty with
   |false=>rw[hb] at j;cases j
   |true=>
    rw[hb] at j;obtain⟨xs,u,rfl⟩:=qC j;exact adL R I E hb u h
  |_=>cases j
 case makeSlice U y z=>
  unfold zY at j;dsimp only at j;split at j;·rename_i e sz by_ zs u;obtain⟨xo,yo,D,J,rfl⟩:=lG j;exact adj R I E u D J h
  ·cases j
 case slice U y lo hi mx=>
  unfold zY at j;dsimp only at j;split at j
  ·rename_i sz xo a1 a2 u D J h4 h5;injection j with j;subst j;have:mx=none:=by
    cases mx with
    |none=>rfl
    |some z=>cases hz:cO m z with
     |none=>simp[E6,hz] at h5
     |some w=>simp[E6,hz] at h5
   subst this;exact aey R I E u D J h4 h
  ·rename_i sz xo a1 ho Mo u D J h4 h5;injection j with j;subst j;cases hi with
   |none=>simp[E6] at h4
   |some zh=>
    cases mx with
    |none=>simp[E6] at h5
    |some zM=>
     have g4:cO m zh=some ho:=by
      cases hz:cO m zh with
      |none=>simp[E6,hz] at h4
      |some w=>simp[E6,hz] at h4;rw[h4]
     have g5:cO m zM=some Mo:=by
      cases hz:cO m zM with
      |none=>simp[E6,hz] at h5
      |some w=>simp[E6,hz] at h5;rw[h5]
     exact afa R I E u D J g4 g5 h
  ·cases j
 case fieldAddr U y f=>
  unfold zY at j;dsimp only at j;split at j;·rename_i off u;obtain⟨xo,D,rfl⟩:=fZ j;exact agz R I E u D h
  ·cases j
 case field U y f=>
  unfold zY at j;dsimp only at j;split at j;·rename_i off n u;obtain⟨xo,D,rfl⟩:=fZ j;exact aef R I E u D h
  ·rename_i off n u;obtain⟨xo,D,rfl⟩:=fZ j;exact acR R I E u D h
  ·cases j
 case indexAddr U y z=>
  unfold zY at j;dsimp only at j;split at j;·rename_i sz u;obtain⟨xo,yo,D,J,rfl⟩:=lG j;exact ag6 R I E u D J h
  ·split at j;·rename_i n sz u;obtain⟨xo,yo,D,J,rfl⟩:=lG j;exact aeH R I E u D J h
   ·cases j
 case index U y z=>
  cases y with
  |const v=>
   cases v with
   |string b=>
    unfold zY at j;dsimp only at j;split at j;·rename_i u;obtain⟨xo,D,rfl⟩:=fZ j;exact abC R I E u D h
    ·cases j
   |_=>cases j
  |_=>cases j
 case extract y i=>obtain⟨xo,u,rfl⟩:=fZ j;exact adc R I E u h
 case call c=>
  obtain⟨callee,ys,ts⟩:=c;cases callee with
  |value f=>
   cases f with
   |func f=>
    obtain⟨xs,u,rfl⟩:=qC (show(kS (cO m) ys.toList).map (JM f)=some k from j);exact aaP R I E a0 u h
   |tmp t=>
    unfold zY at j;dsimp only at j;split at j
    ·rename_i fo xs u D;injection j with j;subst j;exact abL R I E a0 u D h
    ·cases j
   |_=>cases j
  |invoke r mt=>cases j
  |builtin b=>
   cases b;case len=>
    unfold zY at j;dsimp only at j;split at j
    ·rename_i y U u D;split at j
     ·rename_i sz J;obtain⟨xo,h4,rfl⟩:=fZ j;rw[N8 u,N8 D];exact acN R I E J h4 h
     ·cases j
    ·cases j
   case cap=>
    unfold zY at j;dsimp only at j;split at j
    ·rename_i y U u D;split at j
     ·rename_i sz J;obtain⟨xo,h4,rfl⟩:=fZ j;rw[N8 u,N8 D];exact aen R I E J h4 h
     ·cases j
    ·cases j
   case append=>
    unfold zY at j;dsimp only at j;split at j
    ·rename_i y z U W u D;split at j
     ·rename_i e sz by_ zs J;cases hb:Nat.beq U W with
      |false=>
       rw[hb] at j;dsimp only[cond_false] at j;split at j
       ·rename_i kk h6;obtain⟨xo,yo,h4,h5,rfl⟩:=lG j;rw[UT u,UT D];exact aeg R I E J h6 h4 h5 h
       ·cases j
      |true=>
       rw[hb] at j;obtain⟨xo,yo,h4,h5,rfl⟩:=lG j;have e:=fe hb;subst e;rw[UT u,UT D];exact ae8 R I E J h4 h5 h
     ·cases j
    ·cases j
   case max=>
    unfold zY at j;dsimp only at j;split at j
    ·rename_i y r u;split at j
     ·rename_i xo xs D J;injection j with j;subst j;exact adU R I E u D J h
     ·cases j
    ·cases j
   case min=>
    unfold zY at j;dsimp only at j;split at j
    ·rename_i y r u;split at j
     ·rename_i xo xs D J;injection j with j;subst j;exact aex R I E u D J h
     ·cases j
    ·cases j
   case clear=>
    unfold zY at j;dsimp only at j;split at j
    ·rename_i y U u D;split at j
     ·rename_i e sz by_ zs J;obtain⟨xo,h4,rfl⟩:=fZ j;rw[N8 u,N8 D];exact aez R I E J h4 h
     ·cases j
    ·cases j
   all_goals cases j
 all_goals cases j
end
section
variable {P:Program}{ops:Array Oper}{o:Oper}{TT:TX}{n m N:Nat}{L:LX}{T:Tr XV}{H:Tr Bx}{x:XV}
variable {N':Nat}{H':Tr Bx}{g:Lg}{call:fF}
theorem GN {gq:Option (XO×Bool)}{b:Bool}(j:cG m ops o=some gq) (h:gdX gq L T=some b) (ht:yN A Z w β (d6 ops o) (TS m L T) a):wx o ops a=b:=by
 unfold cG at j;unfold wx Region.wanted;cases E:o.guard with
 |none=>
  rw[E] at j;injection j with j;subst j;injection h with h
 |some gb=>
  obtain⟨gi,gv⟩:=gb;rw[E] at j;dsimp only at j⊢;unfold yielded;cases I:(ops[gi]?).bind (·.dst) with
  |none=>rw[I] at j;cases j
  |some t=>
   rw[I] at j;obtain⟨xo,h2,h3⟩:=qC j;subst h3;try dsimp only
   obtain⟨v,R,h⟩:=aC (show oO (xo.get L T) (fun v=>@XV.rec (fun _=>Option Bool) (fun a=>aB a fun b=>some (b==gv)) (fun _ _=>none) (fun _=>none) (some false) v)=some b from h);have hl:d6 ops o t:=List.mem_append_right _ (by rw[E];simp[I]);obtain⟨u,e,J⟩:=ht t v hl (KP h2 R);simp only[Option.bind_some,e];cases v with
   |c a'=>
    obtain⟨c,q,h⟩:=AW h;subst q;have D:u=.bool c:=RdA.b_eq J;subst D;injection h with h
   |a _ _=>cases h
   |t _=>cases h
   |u=>
    have D:u=undef:=J;subst D;injection h with h
theorem KG (t d:Nat) (y:XV) (L:LX):BB t ((d,y)::L)=if d=t then some y else BB t L:=by show @Bool.rec (fun _=>Option XV) (BB t L) (some y) (Nat.beq d t)=_;rw[rT]
theorem DT {d:Option Nat}{κ:LX->Tr XV->Ro}: ∃u D,OF d (Xj m d) x L T κ=κ u D/\ ∀t y,TS m u D t=some y->F2 d x (TS m L T) t=some y:=by
 cases d with
 |none=>exact⟨L,T,rfl,fun t y h=>h⟩
 |some d=>
  show ∃u D,@Bool.rec (fun _=>Ro) (κ L (T.set x d)) (κ ((d,x)::L) T) (m.testBit d)=κ u D/\_;cases J:m.testBit d with
  |true=>
   refine⟨(d,x)::L,T,rfl,fun t y h=>?_⟩;unfold TS at h;unfold F2 TS;cases j:m.testBit t with
   |true=>
    rw[j] at h;have h:BB t ((d,x)::L)=some y:=h;rw[KG] at h;by_cases e:d=t;·rw[if_pos e] at h;rw[if_pos (by rw[e])];exact h
    ·rw[if_neg e] at h;rw[if_neg (by simpa using e)];exact h
   |false=>
    rw[j] at h;rw[if_neg (by intro e;injection e with e;subst e;rw[J] at j;cases j)];exact h
  |false=>
   refine⟨L,T.set x d,rfl,fun t y h=>?_⟩;unfold TS at h;unfold F2 TS;cases j:m.testBit t with
   |true=>
    rw[j] at h;rw[if_neg (by intro e;injection e with e;subst e;rw[J] at j;cases j)];exact h
   |false=>
    rw[j] at h;rcases Tr.set_get T d t h with⟨I,E⟩|⟨I,E⟩;·subst I;rw[if_pos rfl,E]
    ·rw[if_neg (by intro e;injection e with e;exact I e.symm)];exact E
theorem Ij (h:XB P n m ops o=some i):(∀t,o.dst=some t->t<n)/\i.dst=o.dst/\i.lo=Xj m o.dst/\cG m ops o=some i.g/\(zY P m o.op=some i.k\/i.k=YR):=by
 unfold XB at h;cases j:XZ n o.dst with
 |false=>rw[j] at h;cases h
 |true=>
  rw[j] at h;dsimp only[cond] at h;split at h
  ·rename_i gq k u E;injection h with h;subst h;refine⟨fun t D=>?_,rfl,rfl,u,.inl E⟩;rw[D] at j;exact cJ.1 j
  ·rename_i gq u E;injection h with h;subst h;refine⟨fun t D=>?_,rfl,rfl,u,.inr rfl⟩;rw[D] at j;exact cJ.1 j
  ·cases h
structure Did (P:Program) (ops:Array Oper) (o:Oper) (n m:Nat) (L:LX) (T:Tr XV) (N:Nat) (H:Tr Bx) (e:Evt) (L':LX) (T':Tr XV) (H':Tr Bx) (g:Lg):Prop where
 run:Tt P ops o (TS m L T) e\/GX ops o (TS m L T) e
 nm:e.N=N
 le:N<=e.N'
 tmp: ∀t y,TS m L' T' t=some y->F2 o.dst e.x (TS m L T) t=some y
 tok:lm (TS m L' T')
 hok:jp H'
 hlt:jx e.N' H'
 sub: ∀k c,e.Hv k=some c->HS H k=some c
 put: ∀k c,HS H' k=some c->gU (HS H) e.Hv e.Hv' k=some c
 foot:Foot N e.N' H H' e.Hv e.Hv' g
 dn: ∀t,o.dst=some t->t<n
theorem yE (hT:lm (TS m L T)) (hO:jp H) (hL:jx N H) (a0:jK P call) (hi:XB P n m ops o=some i) (hr:Wp call i L T N H κ≠ .no):
 ∃e J I H' g,Wp call i L T N H κ=κ J I e.N' H' g/\Did P ops o n m L T N H e J I H' g:=by
 obtain⟨a2,hd,a1,hg,hk⟩:=Ij hi
 have R: ∀ {x:XV}{J I},Ai x->(∀t y,TS m J I t=some y->F2 o.dst x (TS m L T) t=some y)->lm (TS m J I):=by
  intro x J I hx h t y ht;have:=h t y ht;unfold F2 at this;split at this;·injection this with e;subst e;exact hx
  ·exact hT t y this
 cases E:gdX i.g L T with
 |none=>
  exfalso
  apply hr
  show @Option.rec Bool (fun _=>Ro) .no _ (gdX i.g L T)=.no
  rw[E]
 |some b=>
  cases b with
  |false=>
   have e1:Wp call i L T N H κ=OF i.dst i.lo .u L T fun L T=>κ L T N H .p:=by show @Option.rec Bool (fun _=>Ro) .no _ (gdX i.g L T)=_;rw[E]
   rw[hd,a1] at e1
   obtain⟨J,I,e2,j⟩:=DT (m:=m) (x:=.u) (L:=L) (T:=T) (d:=o.dst) (κ:=fun L T=>κ L T N H .p)
   have hf:Foot N N H H e0 e0 .p:=⟨rfl,rfl,rfl⟩
   refine⟨⟨.u,e0,e0,N,N⟩,J,I,H,.p,e1.trans e2,.inr ⟨rfl,rfl,fun V A β a w ht=>?_⟩,rfl,bd _,j,R (x:=.u) trivial j,hO,hL,fun k c h=>(by cases h),fun k c h=>(by show gU (HS H) e0 e0 k=_;rw[Fv];exact h),hf,a2⟩
   exact GN hg E ht
  |true=>
   have e1:Wp call i L T N H κ= @Option.rec Rs (fun _=>Ro) .no (fun r=>@Rs.rec (fun _=>Ro) (fun x N' H' g=>OF i.dst i.lo x L T fun L T=>κ L T N' H' g) r) (i.k call L T N H):=by show @Option.rec Bool (fun _=>Ro) .no _ (gdX i.g L T)=_;rw[E]
   cases D:i.k call L T N H with
   |none=>
    exfalso
    apply hr
    rw[e1,D]
   |some r=>
    obtain⟨x,N',H',g⟩:=r
    have hk:zY P m o.op=some i.k:=by
     rcases hk with hk|hk;·exact hk
     ·rw[hk] at D;cases D
    have e2:Wp call i L T N H κ=OF i.dst i.lo x L T fun L T=>κ L T N' H' g:=by rw[e1,D]
    rw[hd,a1] at e2
    obtain⟨J,I,e3,j⟩:=DT (m:=m) (x:=x) (L:=L) (T:=T) (d:=o.dst) (κ:=fun L T=>κ L T N' H' g)
    obtain⟨h1,h2,h3,h4,Hv,Hv',h5,h6,h7,h8⟩:=OG (ops:=ops) hT hO hL a0 hk D
    exact⟨⟨x,Hv,Hv',N,N'⟩,J,I,H',g,e2.trans e3,.inl fun V A β a w hA hm ht=>⟨GN hg E ht,h5 V A β a w hA hm ht⟩,rfl,h1,j,R h2 j,h3,h4,h6,h7,h8,a2⟩
theorem StX.less {E D:TX}{u:HF}(h:StX V A n E u β a w) (hT: ∀t y,D t=some y->E t=some y) (I: ∀k c,H2 k=some c->u k=some c):StX V A n D H2 β a w:=by
 refine⟨h.mem.sub I,h.dfr,h.siz,fun t y ht=>?_⟩;obtain⟨v,e,J⟩:=h.tmp t y (hT t y ht);have j:Keep (Zs V u β) (Zs V H2 β) w w:=⟨Nat.le_refl _,fun _ _ _=>rfl,fun b _ hb=>hb.imp id fun⟨k,R,e⟩=>⟨k,(by
  cases q:H2 k with
  |none=>exact absurd q R
  |some c=>rw[I k c q];simp),e⟩⟩
 exact⟨v,e,J.mono j (fun _ h=>h) (fun _ _=>rfl)⟩
def Ends (_P:Program) (n _m:Nat) (V A:Nat->Prop) (N:Nat) (H:HF) (β:Nat->Pl) (w:World) (N':Nat) (j:TX) (H':HF) (h:Act) (w':World):Prop:=
 ∃A' β',(∀k,A k->A' k)/\(∀k,A' k->Ad A N N' k)/\Hst N N' A H β w H' β' w'/\StX V A' n j H' β' h w'
theorem BC {N:Nat}(j: ∀k,A k-> ¬(N<=k/\k<N2)) (h: ∀k,A' k->Ad A N N1 k) (D:N<=N1): ∀k,A' k-> ¬(N1<=k/\k<N2):=by
 intro k E ⟨I,u⟩;rcases h k E with h|h;·exact j k h ⟨by omega,u⟩
 ·omega
theorem PB {N:Nat}(h: ∀k,A' k->Ad A N N1 k) (u:N<=N1) (D:N1<=N2): ∀k,Ad A' N1 N2 k->Ad A N N2 k:=by
 intro k j;rcases j with j|j
 ·rcases h k j with g|g;·exact .inl g
  ·exact .inr ⟨g.1,by omega⟩
 ·exact .inr ⟨by omega,j.2⟩
theorem E2 {y:XV}(h:TS m [] T t=some y):TS m L T t=some y:=by
 unfold TS at h⊢;cases j:m.testBit t with
 |true=>rw[j] at h;cases h
 |false=>rw[j] at h;exact h
theorem wh (u:jK P call) {Q:Exit->Act->World->Prop}: ∀(l:List Oper) (J:List XI) (L:LX) (T:Tr XV) (N:Nat) (H:Tr Bx),kS (XB P n m ops) l=some J->lm (TS m L T)->jp H->jx N H->JG call J L T N H≠ .no->
 ∃I N' H',JG call J L T N H=.n I N' H'/\N<=N'/\lm (TS m [] I)/\jp H'/\jx N' H'/\ ∀V A β a w,(∀k,A k-> ¬(N<=k/\k<N'))->StX V A n (TS m L T) (HS H) β a w->
  (∀a' w',Ends P n m V A N (HS H) β w N' (TS m [] I) (HS H') a' w'->Q .normal a' w')->wpList P ops Q l a w
 |[],J,L,T,N,H,hl,hT,hO,hL,_=>by injection hl with hl;subst hl;refine⟨T,N,H,rfl,bd _,fun t y h=>hT t y (E2 h),hO,hL,fun V A β a w _ D hQ=>?_⟩;exact hQ a w ⟨A,β,fun _ h=>h,fun _ h=>.inl h,Hst.refl,D.less (fun t y h=>E2 h) (fun _ _ h=>h)⟩
 |o::l,J,L,T,N,H,hl,hT,hO,hL,hr=>by
  unfold kS at hl;split at hl;·cases hl
  ·rename_i i hi;split at hl;·cases hl
   ·rename_i E a1;injection hl with hl;subst hl;have a0:JG call (i::E) L T N H=Wp call i L T N H fun L T N H _=>JG call E L T N H:=rfl;rw[a0] at hr;obtain⟨e,L',I,H',g,e1,j⟩:=yE (ops:=ops) hT hO hL u hi hr;rw[e1] at hr;obtain⟨T2,N2,H2,e2,k1,k2,k3,k4,k5⟩:=wh u (Q:=Q) l E L' I e.N' H' a1 j.tok j.hok j.hlt hr;refine⟨T2,N2,H2,a0.trans (e1.trans e2),fw j.le k1,k2,k3,k4,fun V A β a w hA D hQ=>?_⟩;unfold wpList;have hf: ∀k,A k-> ¬(e.N<=k/\k<e.N'):=fun k R hh=>hA k R ⟨by rw[<-j.nm];exact hh.1,kE hh.2 k1⟩;refine D.step j.run (fun t y _ h=>h) j.sub hf j.dn (fun A' β' a' w' g1 g2 g3 g4=>?_);rw[j.nm] at g2 g3;refine k5 V A' β' a' w' (BC hA g2 j.le) (g4.less j.tmp j.put) (fun a2 w2 ⟨A2,a3,f1,f2,f3,f4⟩=>?_);refine hQ a2 w2 ⟨A2,a3,fun k R=>f1 k (g1 k R),fun k R=>PB g2 j.le k1 k (f2 k R),?_,f4⟩;exact((g3.less j.put).wide (bd _) k1).trans g1 (f3.wide j.le (bd _))
end
abbrev PE:=Oper×Evt
def fT (l:List PE) (T:TX):TX:=l.foldl (fun T p=>F2 p.1.dst p.2.x T) T
def fH (l:List PE) (H:HF):HF:=l.foldl (fun H p=>gU H p.2.Hv p.2.Hv') H
section
variable {γ:Type}
def Ab (F:Nat->Option γ) (u:Nat->Option (Option γ)):Nat->Option γ:=fun t=>(u t).getD (F t)
theorem Bm: ∀(us:List (Nat->Option (Option γ))) (i:Nat) (F:Nat->Option γ),gN (fun j=>decide (j<i)) 0 us F=(us.take i).foldl Ab F
 |[],i,F=>by simp[gN]
 |u::us,0,F=>by rw[List.take_zero];exact funext fun t=>iA _ _ _ (fun j u _ h=>by simp at h)
 |u::us,i+1,F=>by rw[List.take_succ_cons,sP,<-Bm us i];show gN (fun j=>decide (j<i+1)) (0+1) us (if decide (0<i+1)=true then(fun t=>(u t).getD (F t)) else F)=_;rw[mR,if_pos (by simp)];congr 1;funext j;simp
theorem Gu: ∀(us:List (Nat->Option (Option γ))) (F:Nat->Option γ),gN (fun _=>true) 0 us F=us.foldl Ab F
 |[],F=>rfl
 |u::us,F=>by rw[sP,<-Gu us];show gN (fun _=>true) (0+1) us (if true=true then(fun t=>(u t).getD (F t)) else F)=_;rw[mR,if_pos rfl];rfl
end
section
variable {P:Program}{ops:Array Oper}{n m:Nat}{call:fF}
theorem Dv {h:Type}(f:Oper->Evt->h): ∀(l:List PE),List.zipWith f (l.map Prod.fst) (l.map Prod.snd)=l.map fun p=>f p.1 p.2
 |[]=>rfl
 |p::l=>by simp[Dv f l]
theorem acG (T:TX) (p:PE):Ab T (P7 p.1.dst p.2)=F2 p.1.dst p.2.x T:=by funext t;unfold Ab P7 F2;split<;>rfl
theorem Pk: ∀(l:List PE) (T:TX),(l.map fun p=>P7 p.1.dst p.2).foldl Ab T=fT l T
 |[],_=>rfl
 |p::l,T=>by rw[mm,sP,Pk l,acG];rfl
theorem aei {e:Evt}(h: ∀k c,e.Hv k=some c->H k=some c):Ab H (uH e)=gU H e.Hv e.Hv':=by
 funext k;unfold Ab;by_cases j:e.Hv' k=e.Hv k
 ·rw[show uH e k=none from by unfold uH;rw[if_pos j]];show H k=_;unfold gU;rw[j];cases u:e.Hv k with
  |none=>rfl
  |some c=>exact h k c u
 ·rw[Zc j];show e.Hv' k=_;unfold gU;cases u:e.Hv' k with
  |some c=>rfl
  |none=>
   cases D:e.Hv k with
   |some c=>rfl
   |none=>exact absurd (u.trans D.symm) j
theorem SP: ∀(l:List PE) (H:HF),(∀(j:Nat) (p:PE),l[j]? =some p-> ∀k c,p.2.Hv k=some c->fH (l.take j) H k=some c)->(l.map fun p=>uH p.2).foldl Ab H=fH l H
 |[],_,_=>rfl
 |p::l,H,h=>by have D: ∀k c,p.2.Hv k=some c->H k=some c:=h 0 p rfl;rw[mm,sP,aei D,SP l _ (fun j q u=>h (j+1) q (by simpa using u))];rfl
def o7 (Hv Hv':HF):Lg->Prop
 | .p=>Hv=e0/\Hv'=e0
 | .r k=>(∀j,j≠k->Hv j=none)/\Hv'=Hv
 | .w k=> ∀j,j≠k->Hv j=none/\Hv' j=none
 | .nw k=>Hv=e0/\ ∀j,j≠k->Hv' j=none
 | .c K K'=>Hv=HS K/\Hv'=HS K'
theorem Foot.c {N N':Nat}{H:Tr Bx}{g:Lg}(h:Foot N N' H H' Hv Hv' g):o7 Hv Hv' g:=by
 cases g with
 |p=>exact⟨h.1,h.2.1⟩
 |r k=>exact⟨h.1,h.2.1⟩
 |w k=>exact h.1
 |nw k=>exact⟨h.2.2.1,h.2.2.2⟩
 |c K K'=>exact⟨h.1,h.2.1⟩
def Clear (Hv Hv' Hw Hw':HF):Prop:= ∀k,(Hv' k≠Hv k->Hw k=none/\Hw' k=none)/\(Hw' k≠Hw k->Hv k=none/\Hv' k=none)
theorem Fb: ∀ {x y:AV},xp x y=true->x=y
 | .b _,y,h=>by cases y<;>simp[xp] at h;subst h;rfl
 | .i _ _,y,h=>by cases y<;>simp[xp] at h;obtain⟨j,u⟩:=h;subst j u;rfl
 | .l _,y,h=>by cases y<;>simp[xp] at h;subst h;rfl
 | .p _ _,y,h=>by cases y<;>simp[xp] at h;obtain⟨j,u⟩:=h;subst j u;rfl
 | .s _ _ _ _ _ _,y,h=>by cases y<;>simp[xp] at h;obtain⟨⟨⟨⟨⟨j,u⟩,E⟩,D⟩,J⟩,I⟩:=h;subst j u E D J I;rfl
 | .z,y,h=>by cases y<;>simp[xp] at h;rfl
 | .ev,y,h=>by cases y<;>simp[xp] at h
 | .np,y,h=>by cases y<;>simp[xp] at h;rfl
 | .f0 _,y,h=>by cases y<;>simp[xp] at h;subst h;rfl
 | .fc a b,y,h=>by cases y<;>simp[xp] at h;obtain⟨j,u⟩:=h;rw[Fb j,Fb u]
theorem E5: ∀ {x y:Rp},J1 x y=true->x.flat=y.flat
 | .e,y,h=>by cases y<;>simp[J1] at h;rfl
 | .c _,y,h=>by cases y<;>simp[J1] at h;rw[Fb h]
 | .n _ _ l r,y,h=>by cases y<;>simp[J1] at h;obtain⟨u,j⟩:=h;show l.flat++r.flat=_;rw[E5 u,E5 j];rfl
theorem FB (h:Dp (K.get k) (K'.get k)=true):HS K k=HS K' k:=by
 unfold HS;cases u:K.get k with
 |none=>
  cases j:K'.get k with
  |none=>rfl
  |some b=>rw[u,j] at h;simp[Dp] at h
 |some b=>
  cases j:K'.get k with
  |none=>rw[u,j] at h;simp[Dp] at h
  |some D=>
   rw[u,j] at h;simp[Dp] at h;obtain⟨E,I⟩:=h;show some (b.U,b.r.flat)=some (D.U,D.r.flat);rw[E,E5 I]
theorem pF (h:s5 K k=true):HS K k=none:=by
 unfold s5 at h;unfold HS;cases j:K.get k with
 |none=>rfl
 |some b=>rw[j] at h;cases h
theorem rQ:Clear e0 e0 Hw Hw':=fun _k=>⟨fun h=>absurd rfl h,fun _=>⟨rfl,rfl⟩⟩
theorem Clear.symm (h:Clear Hv Hv' Hw Hw'):Clear Hw Hw' Hv Hv':=fun k=>⟨(h k).2,(h k).1⟩
theorem HB {a b:Nat}(h:(!Nat.beq a b)=true):a≠b:=fun e=>by subst e;rw[vT] at h;cases h
theorem xH (u:o7 Hv Hv' (.r k)) (E: ∀j,j≠k'->Hw j=none/\Hw' j=none) (I:k≠k'):Clear Hv Hv' Hw Hw':=fun j=>by
 obtain⟨u,e⟩:=u;subst e;refine⟨fun h=>absurd rfl h,fun h=>?_⟩;by_cases D:j=k;·exact absurd (by rw[(E j (by omega)).1,(E j (by omega)).2]) h
 ·exact⟨u j D,u j D⟩
theorem xV (u: ∀j,j≠k->Hv j=none/\Hv' j=none) (E: ∀j,j≠k'->Hw j=none/\Hw' j=none) (I:k≠k'):Clear Hv Hv' Hw Hw':=fun j=>by
 constructor
 ·intro h;by_cases D:j=k';·exact absurd (by rw[(u j (by omega)).1,(u j (by omega)).2]) h
  ·exact E j D
 ·intro h;by_cases D:j=k;·exact absurd (by rw[(E j (by omega)).1,(E j (by omega)).2]) h
  ·exact u j D
theorem xG (D: ∀j,j≠k->Hv j=none/\Hv' j=none) (I:Hw k=none) (E:Hw' k=none):Clear Hv Hv' Hw Hw':=fun j=>by
 constructor
 ·intro h;by_cases u:j=k;·subst u;exact⟨I,E⟩
  ·exact absurd (by rw[(D j u).1,(D j u).2]) h
 ·intro h;by_cases u:j=k;·subst u;exact absurd (by rw[I,E]) h
  ·exact D j u
theorem Jc (u:o7 Hv Hv' (.r k)) (E:Hw k=Hw' k):Clear Hv Hv' Hw Hw':=fun j=>by
 obtain⟨u,e⟩:=u;subst e;refine⟨fun h=>absurd rfl h,fun h=>?_⟩;by_cases D:j=k;·subst D;exact absurd E.symm h
 ·exact⟨u j D,u j D⟩
theorem Yf (h:o7 Hv Hv' (.nw k)): ∀j,j≠k->Hv j=none/\Hv' j=none:=fun j u=>⟨by rw[h.1];rfl,h.2 j u⟩
theorem pV {g E:Lg}(D:o7 Hv Hv' g) (u:o7 Hw Hw' E) (h:apart g E=true):Clear Hv Hv' Hw Hw':=by
 cases g with
 |p=>obtain⟨rfl,rfl⟩:=D;exact rQ
 |r k=>
  cases E with
  |p=>obtain⟨rfl,rfl⟩:=u;exact rQ.symm
  |r k'=>
   obtain⟨_,rfl⟩:=D;obtain⟨_,rfl⟩:=u;exact fun j=>⟨fun h=>absurd rfl h,fun h=>absurd rfl h⟩
  |w k'=>exact xH D u (HB h)
  |nw k'=>exact xH D (Yf u) (HB h)
  |c K K'=>obtain⟨rfl,rfl⟩:=u;exact Jc D (FB h)
 |w k=>
  cases E with
  |p=>obtain⟨rfl,rfl⟩:=u;exact rQ.symm
  |r k'=>exact(xH u D (HB h)).symm
  |w k'=>exact xV D u (HB h)
  |nw k'=>exact xV D (Yf u) (HB h)
  |c K K'=>
   obtain⟨rfl,rfl⟩:=u;have h:(s5 K k&&s5 K' k)=true:=h;rw[de] at h;exact xG D (pF h.1) (pF h.2)
 |nw k=>
  cases E with
  |p=>obtain⟨rfl,rfl⟩:=u;exact rQ.symm
  |r k'=>exact(xH u (Yf D) (HB h)).symm
  |w k'=>exact xV (Yf D) u (Ne.symm (HB h))
  |nw k'=>exact xV (Yf D) (Yf u) (HB h)
  |c K K'=>
   obtain⟨rfl,rfl⟩:=u;have h:(s5 K k&&s5 K' k)=true:=h;rw[de] at h;exact xG (Yf D) (pF h.1) (pF h.2)
 |c K K'=>
  cases E with
  |p=>obtain⟨rfl,rfl⟩:=u;exact rQ.symm
  |r k'=>obtain⟨rfl,rfl⟩:=D;exact(Jc u (FB h)).symm
  |w k'=>
   obtain⟨rfl,rfl⟩:=D;have h:(s5 K k'&&s5 K' k')=true:=h;rw[de] at h;exact(xG u (pF h.1) (pF h.2)).symm
  |nw k'=>
   obtain⟨rfl,rfl⟩:=D;have h:(s5 K k'&&s5 K' k')=true:=h;rw[de] at h;exact(xG (Yf u) (pF h.1) (pF h.2)).symm
  |c _ _=>cases h
theorem uS {D:Nat}{g:Lg}: ∀ {l:Ds},yy D g l=true-> ∀j E,(j,E)∈l->D.testBit j=false->apart E g=true
 |[],_,j,E,h,_=>by cases h
 |(i,q)::l,u,j,E,h,hb=>by
  have u: @Bool.rec (fun _=>Bool) (bA (apart q g) (yy D g l)) (yy D g l) (D.testBit i)=true:=u;rcases dO.1 h with h|h
  ·injection h with J R;subst J R;rw[hb] at u;have u:bA (apart E g) (yy D g l)=true:=u;rw[Sj,de] at u;exact u.1
  ·refine uS (l:=l) ?_ j E h hb;cases I:D.testBit i with
   |true=>rw[I] at u;exact u
   |false=>
    rw[I] at u;have u:bA (apart q g) (yy D g l)=true:=u;rw[Sj,de] at u;exact u.2
end
section
variable {P:Program}{ops:Array Oper}{o:Oper}{n m N:Nat}{L:LX}{T:Tr XV}{H:Tr Bx}{call:fF}
theorem Eq {u:List Nat}{j:Nat}: ∀(l:List Nat) (D:Nat),(l.foldl (fun m j=>m|||2^j|||u.getD j 0) D).testBit j=true->D.testBit j=true\/ ∃b∈l,j=b\/(u.getD b 0).testBit j=true
 |[],D,h=>.inl h
 |b::l,D,h=>by
  rcases Eq l _ h with h|⟨E,I,h⟩
  ·rw[Nat.testBit_or,Nat.testBit_or,tV,tV] at h;rcases h with(h|h)|h;·exact .inl h
   ·rw[Nat.testBit_two_pow] at h;have h:b=j:=by simpa using h
    exact .inr ⟨b,f7 ..,.inl h.symm⟩
   ·exact .inr ⟨b,f7 ..,.inr h⟩
  ·exact .inr ⟨E,gF _ I,h⟩
def abR (ops:Array Oper) (h:List Nat):Prop:= ∀(i u:Nat),h[i]? =some u-> ∀j,u.testBit j=true->Prec ops j i
theorem A9: ∀(l:List Oper) (u:List Nat),(∀k,k<l.length->l[k]? =ops[u.length+k]?)->abR ops u->abR ops (l.foldl (fun u o=>u++[HU u o]) u)/\(l.foldl (fun u o=>u++[HU u o]) u).length=u.length+l.length
 |[],u,_,hi=>⟨hi,rfl⟩
 |o::l,u,hl,hi=>by
  have ho:ops[u.length]? =some o:=by have:=hl 0 (by simp);simpa using this.symm
  have J:abR ops (u++[HU u o]):=by
   intro i mk D j hj;by_cases R:i<u.length
   ·rw[uJ R] at D;exact hi i mk D j hj
   ·have E:=(fb.1 D).1;have e:i=u.length:=by simp at E;omega
    subst e;rw[tL (bd _)] at D;simp at D;subst D;rcases Eq (bL o) 0 hj with h|⟨b,hb,h⟩;·simp at h
    ·rcases h with h|h;·subst h;exact .one ho hb
     ·refine Prec.tr ?_ (.one ho hb);cases I:u[b]? with
      |none=>rw[Bi,I] at h;simp at h
      |some mk=>rw[Bi,I] at h;exact hi b mk I j h
  obtain⟨h1,h2⟩:=A9 l (u++[HU u o]) (fun k hk=>by have:=hl (k+1) (by simpa using hk);rw[dc];simp only[v5,List.length_nil];rw[show u.length+(0+1)+k=u.length+(k+1) by omega];simpa using this) J
  refine⟨h1,?_⟩;rw[sP,h2];simp;omega
structure DidC (P:Program) (ops:Array Oper) (o:Oper) (n m:Nat) (L:LX) (T:Tr XV) (N:Nat) (H:Tr Bx) (e:Evt) (L':LX) (T':Tr XV) (H':Tr Bx) (g:Lg):Prop where
 run:Tt P ops o (TS m L T) e\/GX ops o (TS m L T) e
 nm:e.N=N
 le:N<=e.N'
 tmp: ∀t y,TS m L' T' t=some y->F2 o.dst e.x (TS m L T) t=some y
 tok:lm (TS m L' T')
 hok:jp H'
 hlt:jx e.N' H'
 sub: ∀k c,e.Hv k=some c->HS H k=some c
 put: ∀k c,HS H' k=some c->gU (HS H) e.Hv e.Hv' k=some c
 foot:o7 e.Hv e.Hv' g
theorem abN {j:Nat}{c}(h:HS (H.del k) j=some c):j≠k/\HS H j=some c:=by
 unfold HS at h⊢;cases u:(H.del k).get j with
 |none=>rw[u] at h;cases h
 |some E=>
  rw[u] at h;injection h with h;obtain⟨D,r2⟩:=Tr.del_get H k j u;refine⟨D,?_⟩;rw[r2,<-h];rfl
theorem AJ: ∀ {hs:List Nat}{H:Tr Bx}{j:Nat}{c},HS (NR H hs) j=some c->j∉hs/\HS H j=some c
 |[],H,j,c,h=>⟨by simp,h⟩
 |k::hs,H,j,c,h=>by obtain⟨u,E⟩:=AJ (hs:=hs) (H:=H.del k) h;obtain⟨D,I⟩:=abN E;exact⟨by simp[D,u],I⟩
theorem CP: ∀ {hs:List Nat}{H:Tr Bx}{j:Nat}{b:Bx},(NR H hs).get j=some b->H.get j=some b
 |[],_H,_j,_b,h=>h
 |k::hs,H,j,_b,h=>(Tr.del_get H k j (CP (hs:=hs) (H:=H.del k) h)).2
theorem Es {H0 J:Tr Bx}(u:jp H0) (D:jx N H0): ∀ {hs:List Nat}{H H2:Tr Bx},GS H0 J hs H=some H2->jp H->jx N H->jp H2/\jx N H2/\ ∀j c,HS H2 j=some c->HS H j=some c\/(j∈hs/\HS H0 j=some c/\HS J j=none)
 |[],H,H2,h,hO,hL=>by injection h with h;subst h;exact⟨hO,hL,fun j c h=>.inl h⟩
 |k::hs,H,H2,h,hO,hL=>by
  unfold GS at h;split at h
  ·rename_i b h1 E;obtain⟨g1,g2,R⟩:=Es u D (hs:=hs) h (n9 hO (u k b E).1 (u k b E).2) (oA hL (bd _) (D k b E));refine⟨g1,g2,fun j c hj=>?_⟩;rcases R j c hj with q|⟨q1,q2,q3⟩
   ·rcases ph q with⟨e1,I⟩|⟨_,I⟩
    ·subst e1 I;exact .inr ⟨by simp,qh E,by unfold HS;rw[h1];rfl⟩
    ·exact .inl I
   ·exact .inr ⟨by simp[q1],q2,q3⟩
  ·cases h
theorem J8 (hT:lm (TS m L T)) (hO:jp H) (hL:jx N H) (D:jK P call) (hi:XB P n m ops o=some i) {hs:List Nat}(hr:Oa call i hs L T N H κ≠ .no):
 ∃e J I H' g,Oa call i hs L T N H κ=κ J I e.N' H' g/\DidC P ops o n m L T N H e J I H' g:=by
 cases hs with
 |nil=>
  obtain⟨e,J,I,H',g,e1,u⟩:=yE (ops:=ops) (n:=n) hT hO hL D hi (κ:=κ) hr
  exact⟨e,J,I,H',g,e1,u.run,u.nm,u.le,u.tmp,u.tok,u.hok,u.hlt,u.sub,u.put,u.foot.c⟩
 |cons h t=>
  have a4:jp (NR H (h::t)):=fun j b hj=>hO j b (CP hj)
  have a3:jx N (NR H (h::t)):=fun j b hj=>hL j b (CP hj)
  obtain⟨e,J,I,H',g,e1,u⟩:=yE (ops:=ops) (n:=n) hT a4 a3 D hi (κ:=fun L T N H' g=>bI (SK g) (@Option.rec (Tr Bx) (fun _=>Ro) .no (fun H2=>κ L T N H2 g) (GS H H' (h::t) H')) .no) hr
  have a1:Oa call i (h::t) L T N H κ=bI (SK g) (@Option.rec (Tr Bx) (fun _=>Ro) .no (fun H2=>κ J I e.N' H2 g) (GS H H' (h::t) H')) .no:=e1
  have a0:SK g=true:=by
   cases hq:SK g with
   |true=>rfl
   |false=>rw[a1,hq] at hr;exact absurd rfl hr
  have R:Oa call i (h::t) L T N H κ= @Option.rec (Tr Bx) (fun _=>Ro) .no (fun H2=>κ J I e.N' H2 g) (GS H H' (h::t) H'):=by rw[a1,a0];rfl
  cases ha:GS H H' (h::t) H' with
  |none=>rw[R,ha] at hr;exact absurd rfl hr
  |some H2=>
   rw[ha] at R
   have a5:jx e.N' H:=fun j b hj=>kE (hL j b hj) u.le
   obtain⟨g1,g2,g3⟩:=Es hO a5 ha u.hok u.hlt
   refine⟨e,J,I,H2,g,R,u.run,u.nm,u.le,u.tmp,u.tok,g1,g2,fun k c hk=>(AJ (u.sub k c hk)).2,fun k c hk=>?_,u.foot.c⟩
   rcases g3 k c hk with q|⟨q1,q2,q3⟩
   ·have hp:=u.put k c q
    rcases yM hp with r|⟨r1,r2,r3⟩
    ·unfold gU;rw[r]
    ·unfold gU;rw[r1,r2];exact(AJ r3).2
   ·--a hidden box
    have hv:e.Hv k=none:=by
     cases E:e.Hv k with
     |none=>rfl
     |some d=>exact absurd q1 (AJ (u.sub k d E)).1
    have a2:e.Hv' k=none:=by
     cases E:e.Hv' k with
     |none=>rfl
     |some d=>
      exfalso;have hf:=u.foot;cases g with
      |p=>obtain⟨_,h2,_⟩:=hf;rw[h2] at E;cases E
      |r b=>obtain⟨_,h2,_⟩:=hf;rw[h2,hv] at E;cases E
      |w b=>cases a0
      |nw b=>cases a0
      |c K K'=>obtain⟨_,h2,_,h4⟩:=hf;rw[h2,h4,q3] at E;cases E
    unfold gU;rw[a2,hv];exact q2
end
end Go.Proofs.YtegeknjkgadehaaGreat
