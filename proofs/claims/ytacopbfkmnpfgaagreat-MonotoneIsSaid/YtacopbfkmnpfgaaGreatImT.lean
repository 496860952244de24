/-A run on known values:calls. -/
import Derived.Test.YtacopbfkmnpfgaaGreatImS
namespace Go.Proofs.YtacopbfkmnpfgaaGreat
open Go Go.RowKit
structure CallP (P:Program) (f:FuncId) (vs:List XV) (x:XV):Prop where
 cal:eL P f=true
 ok:sM x
 run: ∀(Z A:Nat→Prop) (β:Nat→Pl) (args:Array Value) (w:World),(∀b,Z b→b<w.heap.size)→ub A Z w β args.toList vs→
  Calls P f args w fun e w'=> ∃v,e=.returned v∧(∀A' β',RdX2 A' Z w' β' v x)∧Below w.heap.size w w'
structure CallH (P:Program) (f:FuncId) (vs:List XV) (N:Nat) (H:Tr Bx) (x:XV) (N':Nat) (H':Tr Bx):Prop where
 le:N≤N'
 cal:eL P f=true
 ok:sM x
 hok:fS H'
 hlt:fZ N' H'
 run: ∀(V A:Nat→Prop) (β:Nat→Pl) (args:Array Value) (w:World),(∀k,A k→ ¬(N≤k∧k<N'))→Mem V A (HS H) β w→ub A (Zs V (HS H) β) w β args.toList vs→
  Calls P f args w fun e w'=> ∃v A' β',e=.returned v∧(∀k,A k→A' k)∧(∀k,A' k→Ad A N N' k)∧Mem V A' (HS H') β' w'∧Hst N N' A (HS H) β w (HS H') β' w'∧RdX2 A' (Zs V (HS H') β') w' β' v x
def iQ (P:Program) (call:fb):Prop:= ∀f vs N H,(∀v∈vs,sM v)→fS H→fZ N H→(∀x,call f vs N H=.p x→CallP P f vs x)∧ ∀x N' H',call f vs N H=.h x N' H'→CallH P f vs N H x N' H'
section
variable {P:Program}{ops:Array Oper}{o:Oper}{TT:TX}{m N:Nat}{L:LX}{T:Tr XV}{H:Tr Bx}{x:XV}
variable {N':Nat}{H':Tr Bx}{g:Lg}{call:fb}
variable {dst:Option Nat}{ty:TypeId}{pos:String}{af:Array Edge}{gd:Option (Nat×Bool)}
theorem Q9 {V:Nat→Prop}{β:Nat→Pl}:Zs V e0 β=V:=by
 funext b
 refine propext ⟨?_,.inl⟩
 rintro(h|⟨k,hk,_⟩)
 ·exact h
 ·exact absurd rfl hk
theorem Ef {V A:Nat→Prop}{β:Nat→Pl}{w w':World}(hm:Mem V A e0 β w) (hb:Below w.heap.size w w'):Mem V A e0 β w'∧Hst N N A e0 β w e0 β w':=by
 refine⟨⟨fun b h=>Nat.lt_of_lt_of_le (hm.vlt b h) hb.size,fun k hk=>absurd rfl hk,fun k hk=>Nat.lt_of_lt_of_le (hm.lt k hk) hb.size,fun k l hk=>absurd rfl hk,fun k hk=>absurd rfl hk,fun k U cs hk=>by cases hk⟩,hb.os,hb.tape,hb.output,hb.size,fun b h _=>hb.block b h,fun _ _=>rfl,fun k hk=>absurd rfl hk,fun k hk=>absurd rfl hk⟩
theorem uG (hO:fS H) (hL:fZ N H) (hcall:iQ P call) {f:FuncId}{vs:List XV}(hvs: ∀v∈vs,sM v) (h:Ty H N (call f vs N H)=some (.mk x N' H' g))
 (hrun:eL P f=true→ ∀A Z w β a,qv A Z w β (dE ops o) TT a→ ∃args:Array Value,(execOp a.eval o).run P w=.ok (.enter f args) w∧ub A Z w β args.toList vs):eP P ops o TT N H x N' H' g:=by
 obtain⟨hp,hh⟩:=hcall f vs N H hvs hO hL
 cases hc:call f vs N H with
 |no=>rw[hc] at h;cases h
 |p y=>
  rw[hc] at h
  have h:some (Rs.mk y N H .p)=some (.mk x N' H' g):=h
  injection h with h
  injection h with h1 h2 h3 h4
  subst h1 h2 h3 h4
  have hP:=hp y hc
  have hf:Foot N N H H e0 e0 .p:=⟨rfl,rfl,rfl⟩
  refine⟨Nat.le_refl _,hP.ok,hO,hL,e0,e0,fun V A β a w _ hm ht=>?_,fun k c h=>(by cases h),fun k c h=>(by rw[wm];exact h),hf⟩
  obtain⟨args,e1,hr⟩:=hrun hP.cal _ _ w β a ht
  unfold Gives
  rw[e1]
  refine(hP.run (Zs V e0 β) A β args w (by rw[Q9];exact hm.vlt) hr).mono ?_
  rintro e w' ⟨v,rfl,hx,hb⟩
  obtain⟨m1,m2⟩:=Ef (N:=N) hm hb
  exact⟨v,rfl,A,β,fun _ h=>h,fun _ h=>.inl h,m1,m2,hx A β⟩
 |h y M K=>
  rw[hc] at h
  have h:some (Rs.mk y M K (.c H K))=some (.mk x N' H' g):=h
  injection h with h
  injection h with h1 h2 h3 h4
  subst h1 h2 h3 h4
  have hC:=hh y M K hc
  have hf:Foot N M H K (HS H) (HS K) (.c H K):=⟨rfl,rfl,rfl,rfl⟩
  refine⟨hC.le,hC.ok,hC.hok,hC.hlt,HS H,HS K,fun V A β a w hA hm ht=>?_,fun k c h=>h,fun k c h=>?_,hf⟩
  ·obtain⟨args,e1,hr⟩:=hrun hC.cal _ _ w β a ht
   unfold Gives
   rw[e1]
   refine(hC.run V A β args w hA hm hr).mono ?_
   rintro e w' ⟨v,A',β',rfl,h1,h2,h3,h4,h5⟩
   exact⟨v,rfl,A',β',h1,h2,h3,h4,h5⟩
  ·unfold e8;rw[h]
theorem vL {f:FuncId}(hcal:eL P f=true) {c:Call}{a:Act}{w:World}{args:Array Value}{fo:Operand}(hc:c.callee=.value fo) {cs:Array Value}(hf:a.eval fo=.func (.func f) #[] cs) (ha:args=c.args.map a.eval++cs):
 (execOp a.eval ⟨dst,.call c,ty,pos,af,gd⟩).run P w=.ok (.enter f args) w:=by
 subst ha
 unfold eL at hcal
 cases hfn:P.funcs[f]? with
 |none=>rw[hfn] at hcal;cases hcal
 |some fn=>
  rw[hfn] at hcal
  simp only[Bool.and_eq_true,bne_iff_ne,ne_eq,Bool.not_eq_true'] at hcal
  have hb2:fn.body≠none:=by have:=hcal.2;cases hbb:fn.body with
   |none=>rw[hbb] at this;cases this
   |some c=>simp
  simp[execOp,resolve,hc,hf,Deferred.ofValue,invoke,callFunc,program,Sem.run,hfn,hcal.1,hb2]
theorem OU (hT:gW (TS m L T)) (hO:fS H) (hL:fZ N H) (hcall:iQ P call) {f:FuncId}{ys:Array Operand}{ats:Array TypeId}{xs:List XO}{x:XV}(hc:gP (cO m) ys.toList=some xs)
 (h:Bb f xs call L T N H=some (.mk x N' H' g)):eP P ops ⟨dst,.call ⟨.value (.func f),ys,ats⟩,ty,pos,af,gd⟩ (TS m L T) N H x N' H' g:=by
 obtain⟨vs,hvs,h⟩:=aK h
 refine uG hO hL hcall (BI hT hc hvs) h fun hcal A Z w β a ht=>?_
 have hr:=jG (o:=⟨dst,.call ⟨.value (.func f),ys,ats⟩,ty,pos,af,gd⟩) (fun y hy=>by have hy2:=Array.mem_toList_iff.1 hy;simp[Op.operands,Call.operands,hy2]) hc hvs ht
 exact⟨ys.map a.eval,vL hcal rfl (cs:= #[]) rfl (by simp),by simpa using hr⟩
theorem FR: ∀ {y:AV}{acc:List XV}{k:FuncId→List XV→Option Rs}{r:Rs},Tm y acc k=some r→ ∃f cs,y.fn=some (f,cs)∧k f (acc.reverse++cs.map .c)=some r:=by
 intro y
 induction y with
 |f0 g=>intro acc k r h;exact⟨g,[],rfl,by simpa using(show k g acc.reverse=some r from h)⟩
 |fc a y _ ihy=>
  intro acc k r h
  obtain⟨f,cs,h1,h2⟩:=ihy (show Tm y (.c a::acc) k=some r from h)
  exact⟨f,a::cs,by simp[AV.fn,h1],by simpa using h2⟩
 |_=>intro acc k r h;cases h
theorem RdA.fn_eq {A Z:Nat→Prop}{w:World}{β:Nat→Pl}{v:Value}{y:AV}{f:FuncId}{xs:List AV}(h:RdA A Z w β v y) (hf:y.fn=some (f,xs)): ∃cs:Array Value,v=.func (.func f) #[] cs∧RdAs A Z w β cs.toList xs:=by
 cases h with
 |f g cs ys _ h0 h1 h2=>
  rw[h0] at hf
  injection hf with hf
  injection hf with e1 e2
  subst e1 e2
  exact⟨cs,rfl,by simpa using h1,fun j v x hv hx=>h2 j v x (by rw[←Array.getElem?_toList];exact hv) hx⟩
 |_=>cases hf
theorem Px (hT:gW (TS m L T)) (hO:fS H) (hL:fZ N H) (hcall:iQ P call) {t:Nat}{fo:XO}{ys:Array Operand}{ats:Array TypeId}{xs:List XO}{x:XV}(hcf:cO m (.tmp t)=some fo) (hc:gP (cO m) ys.toList=some xs)
 (h:GW fo xs call L T N H=some (.mk x N' H' g)):eP P ops ⟨dst,.call ⟨.value (.tmp t),ys,ats⟩,ty,pos,af,gd⟩ (TS m L T) N H x N' H' g:=by
 obtain⟨v,hv,h⟩:=aK h
 obtain⟨y,q,h⟩:=fi h
 subst q
 obtain⟨vs,hvs,h⟩:=aK h
 obtain⟨f,cs,hf,h⟩:=FR h
 rw[List.reverse_reverse] at h
 refine uG hO hL hcall (fun v hv=>?_) h fun hcal A Z w β a ht=>?_
 ·rcases List.mem_append.1 hv with hv|hv
  ·exact BI hT hc hvs v hv
  ·obtain⟨c,_,rfl⟩:=List.mem_map.1 hv
   trivial
 ·have hr:=jG (o:=⟨dst,.call ⟨.value (.tmp t),ys,ats⟩,ty,pos,af,gd⟩) (fun y hy=>by have hy2:=Array.mem_toList_iff.1 hy;simp[Op.operands,Call.operands,hy2]) hc hvs ht
  obtain⟨us,e1,hu⟩:=RdA.fn_eq (aT (o:=⟨dst,.call ⟨.value (.tmp t),ys,ats⟩,ty,pos,af,gd⟩) (by simp[Op.operands,Call.operands]) hcf hv ht) hf
  refine⟨ys.map a.eval++us,vL hcal rfl e1 rfl,?_,fun j v x hv hx=>?_⟩
  ·have h1:=hr.1
   have h2:=hu.1
   simp at h1 h2
   simp[h1,h2]
  ·have h1:=hr.1
   simp only[Array.toList_append,Array.toList_map] at hv
   by_cases hj:j<vs.length
   ·rw[List.getElem?_append_left (by rw[h1];exact hj)] at hv
    rw[List.getElem?_append_left hj] at hx
    exact hr.2 j v x hv hx
   ·rw[List.getElem?_append_right (by rw[h1];omega)] at hv
    rw[List.getElem?_append_right (by omega),List.getElem?_map] at hx
    rw[h1] at hv
    cases hcx:cs[j-vs.length]? with
    |none=>rw[hcx] at hx;cases hx
    |some c=>
     rw[hcx] at hx
     injection hx with hx
     subst hx
     exact hu.2 _ v c hv hcx
theorem wX {pl:Nat→Option (Nat×Nat)}(hT:gW (TS m L T)) {tot:Nat}: ∀ {ps:List (Nat×Operand)}{qs:List (Nat×Nat×XO)}{r r':Rp},Od m pl ps=some qs→BQ L T tot qs r=some r'→r.ok→tot=r.flat.length→r'.ok∧tot=r'.flat.length∧
 ∀A Z w β a (cells:Array Value),(∀p∈ps,p.2∈o.op.operands)→qv A Z w β (dE ops o) (TS m L T) a→RdAs A Z w β cells.toList r.flat→ ∃cells',Instr.fill pl cells (ps.map fun(i,y)=>(i,a.eval y))=some cells'∧RdAs A Z w β cells'.toList r'.flat
 |[],qs,r,r',h,hf,hr,ht=>by
  injection h with h
  subst h
  have hf:some r=some r':=hf
  injection hf with hf
  subst hf
  exact⟨hr,ht,fun A Z w β a cells _ _ hc=>⟨cells,rfl,hc⟩⟩
 |(i,y)::ps,qs,r,r',h,hf,hr,ht=>by
  unfold Od at h
  split at h
  case h_2=>cases h
  rename_i off sz y' ys h1 h2 h3
  injection h with h
  subst h
  obtain⟨v,hv,hf⟩:=aK (show oO (y'.get L T) (fun v=>xD v fun n d=>bT (Nat.beq n sz) (bT (Nat.ble (Nat.add off n) tot) (BQ L T tot ys (iw d r tot off n))))=some r' from hf)
  obtain⟨n,d,hrp,hf2⟩:=vN hf
  obtain⟨hn,hf3⟩:=bp hf2
  obtain⟨hle,hf4⟩:=bp hf3
  have hn:=Nat.eq_of_beq_eq_true hn
  subst hn
  rw[dt] at hle
  obtain⟨hd1,hd2⟩:=EZ (nc hT h2 hv) hrp
  have hle':off+n≤tot:=hle
  obtain⟨g1,g2⟩:=nZ hd1 r tot off n hr ht hd2 hle'
  obtain⟨k1,k2,k3⟩:=wX hT h3 hf4 g1 (by rw[g2];simp;omega)
  refine⟨k1,k2,fun A Z w β a cells hy htm hc=>?_⟩
  have hcl:=tv (aT (o:=o) (hy (i,y) (by simp)) h2 hv htm) hrp
  have hvs:(a.eval y).cells.size=n:=by rw[hd2,←hcl.1];simp
  have hcs:cells.size=tot:=by rw[ht,←hc.1];simp
  have hfr:=oZ off (a.eval y).cells.toList 0 cells (by simp;omega)
  have hrd:RdAs A Z w β (((a.eval y).cells.zipIdx.foldl (fun(cs:Array Value) (p:Value×Nat)=>cs.setIfInBounds (off+p.2) p.1) cells)).toList (iw d r tot off n).flat:=by
   rw[←Array.foldl_toList]
   have:(a.eval y).cells.zipIdx.toList=(a.eval y).cells.toList.zipIdx:=by simp
   rw[this,hfr,g2]
   refine RdAs.append (RdAs.append (by simpa using hc.take off) hcl) ?_
   have:=hc.drop (off+n)
   simpa [hvs] using this
  obtain⟨cells',e,hr'⟩:=k3 A Z w β a _ (fun p hp=>hy p (by simp[hp])) htm hrd
  refine⟨cells',?_,hr'⟩
  show Instr.fill pl cells ((i,a.eval y)::ps.map fun(i,y)=>(i,a.eval y))=_
  unfold Instr.fill
  rw[h1]
  dsimp only
  rw[if_neg (by simp[hvs];omega)]
  exact e
theorem L3 (hT:gW (TS m L T)) (hO:fS H) (hL:fZ N H) {U:TypeId}{ps:Array (Nat×Operand)}{pl:List (Nat×Nat)}{zs:List AV}{qs:List (Nat×Nat×XO)}{x:XV}(hU:Ao P U=some pl) (hz:OM P U=some zs) (hp:Od m (fun i=>pl[i]?) ps.toList=some qs)
 (h:B9 zs.length (nh zs) qs call L T N H=some (.mk x N' H' g)):eP P ops ⟨dst,.build U ps,ty,pos,af,gd⟩ (TS m L T) N H x N' H' g:=by
 obtain⟨r,hr,h⟩:=aK h
 obtain⟨rfl,rfl,rfl,rfl⟩:=bW h
 obtain⟨z1,z2⟩:=i9 zs
 obtain⟨k1,k2,k3⟩:=wX (ops:=ops) (o:=⟨dst,.build U ps,ty,pos,af,gd⟩) hT hp hr z1 (by rw[z2])
 refine bk hO hL ⟨k1,k2⟩ fun A Z w β a ht=>?_
 obtain⟨it,z,hi,hz,hzr⟩:=qq hz
 obtain⟨cells,hfl,hrd⟩:=k3 A Z w β a z.cells (fun p hp=>by simp only[Op.operands,List.mem_toArray,List.mem_map];exact⟨p,hp,rfl⟩) ht (by rw[z2];exact hzr _ _ _ _)
 refine⟨.agg cells,?_,cells,rfl,hrd⟩
 unfold Ao at hU
 split at hU
 ·rename_i fs hu
  have:=run_build (P:=P) w U (ps.map fun(i,x)=>(i,a.eval x)) cells (by
   unfold Program.built
   simp only[hi,hu,hz,hU]
   simpa using hfl)
  simp[execOp,this]
 ·cases hU
end
section
variable {P:Program}{ops:Array Oper}{o:Oper}{TT:TX}{m N:Nat}{L:LX}{T:Tr XV}{H:Tr Bx}{x:XV}
variable {N':Nat}{H':Tr Bx}{g:Lg}{call:fb}
variable {dst:Option Nat}{ty:TypeId}{pos:String}{af:Array Edge}{gd:Option (Nat×Bool)}
theorem mO {U e:TypeId}{sz by_:Nat}{zs:List AV}(h:Hp P U=some (e,sz,by_,zs)):P.underlying U=some (.slice e)∧ ∃i z,P.info? e=some i∧i.zero=some z∧i.size=sz∧i.bytes=by_∧zs.length=sz∧0<sz∧ ∀A Z w β,RdAs A Z w β z.cells.toList zs:=by
 unfold Hp at h
 split at h
 ·rename_i e' hu
  split at h
  ·rename_i i zs' hi hz
   cases hb:Nat.beq zs'.length i.size&&Nat.blt 0 i.size with
   |false=>rw[hb] at h;cases h
   |true=>
    rw[hb] at h
    have h:=Option.some.inj (show some (e',i.size,i.bytes,zs')=some (e,sz,by_,zs) from h)
    injection h with h1 h
    injection h with h2 h
    injection h with h3 h4
    subst h1 h2 h3 h4
    rw[Bool.and_eq_true] at hb
    obtain⟨it,z,g1,g2,g3⟩:=qq hz
    rw[hi] at g1
    injection g1 with g1
    subst g1
    exact⟨hu,i,z,hi,g2,rfl,rfl,Nat.eq_of_beq_eq_true hb.1,b9.1 hb.2,g3⟩
  ·cases h
 ·cases h
theorem pv {A Z:Nat→Prop}{w:World}{β:Nat→Pl}{z:Value}{zs:List AV}{sz:Nat}(hl:zs.length=sz) (hz:RdAs A Z w β z.cells.toList zs): ∀n:Nat,RdAs A Z w β ((List.range (n*sz)).map (fun j=>z.cells[j%z.cells.size]!)) (qQ zs n):=by
 have hzs:z.cells.size=sz:=by rw[←hl,←hz.1];simp
 intro n
 induction n with
 |zero=>simp[qQ];exact RdAs.nil
 |succ n ih=>
  rw[Nat.succ_mul,Nat.add_comm,List.range_add,List.map_append]
  refine RdAs.append ?_ ?_
  ·have e2:(List.range sz).map (fun j=>z.cells[j%z.cells.size]!)=z.cells.toList:=by
    apply List.ext_getElem (by simp[hzs])
    intro j h1 h2
    simp at h1
    simp only[List.getElem_map,List.getElem_range,hzs]
    rw[Nat.mod_eq_of_lt h1,getElem!_pos z.cells j (by omega)]
    simp
   rw[e2];exact hz
  ·have e3:(List.map (fun x=>sz+x) (List.range (n*sz))).map (fun j=>z.cells[j%z.cells.size]!)=(List.range (n*sz)).map (fun j=>z.cells[j%z.cells.size]!):=by
    rw[List.map_map]
    apply List.map_congr_left
    intro j _
    show z.cells[(sz+j)%z.cells.size]! =_
    rw[hzs,Nat.add_mod_left]
   rw[e3];exact ih
theorem rz (w:World) (t e:TypeId) (len:Nat) (parts:Array (Nat×Value)) (cells:Array Value) (ie:TypeInfo)
 (hu:P.underlying t=some (.slice e)) (hie:P.info? e=some ie) (hpos:len*ie.size=0) (h:Instr.fill (fun i=>some (i*ie.size,ie.size)) #[] parts.toList=some cells):
 (Instr.buildSlice t len parts).run P w=.ok (.slice (some ⟨w.heap.size,0,none⟩) len len) (w.alloc (.cells cells e)):=by
 have h0: ∀f:Nat→Value,Array.map f (Array.range 0)= #[]:=fun f=>by apply Array.eq_empty_of_size_eq_zero;simp
 simp[Instr.buildSlice,run_underlying hu,sizeOf,typeInfo,hie,hpos,h0,h,newRow]
theorem Rg (hT:gW (TS m L T)) (hO:fS H) (hL:fZ N H) {U e:TypeId}{n sz by_:Nat}{ps:Array (Nat×Operand)}{zs:List AV}{qs:List (Nat×Nat×XO)}{x:XV}(hU:Hp P U=some (e,sz,by_,zs)) (hn:n*sz≤10000) (hp:Od m (fun i=>some (i*sz,sz)) ps.toList=some qs)
 (h:Mp e n sz (j8 sz (nh zs) n) qs call L T N H=some (.mk x N' H' g)):eP P ops ⟨dst,.buildSlice U n ps,ty,pos,af,gd⟩ (TS m L T) N H x N' H' g:=by
 obtain⟨r,hr,h⟩:=aK h
 obtain⟨rfl,rfl,rfl,rfl⟩:=qk h
 obtain⟨hu,i,z,hi,hz,hsz,hby,hzl,h0,hzr⟩:=mO hU
 obtain⟨z1,z2⟩:=i9 zs
 obtain⟨r1,r2⟩:=lm (m:=sz) (z:=nh zs) (by rw[z2,hzl]) z1 n
 have r2':(j8 sz (nh zs) n).flat=qQ zs n:=by rw[r2,z2]
 have hlen:n*sz=(j8 sz (nh zs) n).flat.length:=by rw[r2',nt,hzl]
 obtain⟨k1,k2,k3⟩:=wX (ops:=ops) (o:=⟨dst,.buildSlice U n ps,ty,pos,af,gd⟩) hT hp hr r1 hlen
 refine pI hO hL k1 k2 fun A Z w β a ht=>?_
 have hrow:=pv hzl (hzr A Z w β) n
 obtain⟨cells,hfl,hrd⟩:=k3 A Z w β a ((Array.range (n*sz)).map (z.cells[· %z.cells.size]!)) (fun p hp=>by simp only[Op.operands,List.mem_toArray,List.mem_map];exact⟨p,hp,rfl⟩) ht (by rw[r2'];simpa using hrow)
 have hcs:cells.size=n*sz:=by
  have h1:=hrd.1
  have h2:n*sz=r.flat.length:=k2
  simp at h1
  omega
 have hout: ∀A' Z' w' β',A' N→β' N=⟨w.heap.size,cells.size⟩→RdA A' Z' w' β' (.slice (some ⟨w.heap.size,0,none⟩) n n) (.s N 0 n n true sz):=by
  intro A' Z' w' β' hA hβ
  have hnl:n≤maxLen:=by
   have:n≤n*sz:=Nat.le_mul_of_pos_right n h0
   have:maxLen=9223372036854775807:=rfl
   omega
  have:=RdA.s (A:=A') (Z:=Z') (w:=w') (β:=β') N 0 n n true sz n hA (Nat.le_refl _) (Nat.le_refl _) hnl (fun _=>rfl) (by rw[hβ];show 0+n*sz≤cells.size;omega)
  rw[hβ] at this;exact this
 refine⟨.slice (some ⟨w.heap.size,0,none⟩) n n,cells,?_,hrd,hout⟩
 by_cases hpos:n*sz=0
 ·have hc:cells= #[]:=by
   apply Array.eq_empty_of_size_eq_zero;omega
  subst hc
  have hz0:(Array.range (n*sz)).map (z.cells[· %z.cells.size]!)= #[]:=by rw[hpos];apply Array.eq_empty_of_size_eq_zero;simp
  rw[hz0] at hfl
  subst hsz
  have hrun:=rz (P:=P) w U e n (ps.map fun(i,x)=>(i,a.eval x)) #[] i hu hi hpos (by simpa using hfl)
  simp only[execOp,Sem.run_bind,hrun,Result.andThen_ok,Sem.run_pure]
 ·subst hsz
  have hrun:=run_buildSlice (P:=P) w U e n (ps.map fun(i,x)=>(i,a.eval x)) cells i z hu hi hz (by have:(2:Nat)^24=16777216:=rfl;omega) hpos (by simpa using hfl)
  simp only[execOp,Sem.run_bind,hrun,Result.andThen_ok,Sem.run_pure]
theorem RU (_hT:gW (TS m L T)) (hO:fS H) (hL:fZ N H) {U e:TypeId}{sz by_:Nat}{y z:Operand}{zs:List AV}{xo yo:XO}{x:XV}(hU:Hp P U=some (e,sz,by_,zs)) (h1:cO m y=some xo) (h2:cO m z=some yo)
 (h:Nb e sz by_ (nh zs) xo yo call L T N H=some (.mk x N' H' g)):eP P ops ⟨dst,.makeSlice U y z,ty,pos,af,gd⟩ (TS m L T) N H x N' H' g:=by
 obtain⟨v,hv,h⟩:=aK h
 obtain⟨v2,hv2,h⟩:=aK h
 obtain⟨ka,a,q1,h⟩:=lK h
 obtain⟨kb,b,q2,h⟩:=lK h
 subst q1 q2
 obtain⟨g1,h⟩:=bp h
 obtain⟨g2,h⟩:=bp h
 obtain⟨g3,h⟩:=bp h
 obtain⟨rfl,rfl,rfl,rfl⟩:=qk h
 rw[dt] at g1 g2 g3
 obtain⟨hu,i,zv,hi,hz,hsz,hby,hzl,h0,hzr⟩:=mO hU
 obtain⟨z1,z2⟩:=i9 zs
 obtain⟨r1,r2⟩:=lm (m:=sz) (z:=nh zs) (by rw[z2,hzl]) z1 b
 have r2':(j8 sz (nh zs) b).flat=qQ zs b:=by rw[r2,z2]
 have hlen:b*sz=(j8 sz (nh zs) b).flat.length:=by rw[r2',nt,hzl]
 refine pI hO hL r1 hlen fun A Z w β ac ht=>?_
 have e1:ac.eval y=.int ka (a:Int):=RdA.i_eq (aT (o:=⟨dst,.makeSlice U y z,ty,pos,af,gd⟩) (by simp[Op.operands]) h1 hv ht)
 have e2:ac.eval z=.int kb (b:Int):=RdA.i_eq (aT (o:=⟨dst,.makeSlice U y z,ty,pos,af,gd⟩) (by simp[Op.operands]) h2 hv2 ht)
 have g2':(b*by_:Nat)≤140737488355328:=g2
 have hrun:=run_make (P:=P) w U e i zv hu hi hz ka kb a b (by omega) (by omega) (by rw[hby];have h2:((b*by_:Nat):Int)≤140737488355328:=Int.ofNat_le.2 g2';rw[Int.natCast_mul,Int.mul_comm] at h2;omega) (by omega)
 have hrow:=pv hzl (hzr A Z w β) b
 refine⟨.slice (some ⟨w.heap.size,0,none⟩) a b,madeCells zv.cells (b*sz),?_,?_,fun A' Z' w' β' hA hβ=>?_⟩
 ·simp only[execOp,e1,e2,Sem.run_bind,hrun,Result.andThen_ok,Sem.run_pure,hsz]
  simp
 ·rw[r2']
  unfold madeCells
  simpa using hrow
 ·have hbl:b≤maxLen:=by have:maxLen=9223372036854775807:=rfl;omega
  have:=RdA.s (A:=A') (Z:=Z') (w:=w') (β:=β') N 0 a b true sz b hA g1 (Nat.le_refl _) hbl (fun _=>rfl) (by rw[hβ];show 0+b*sz≤(madeCells zv.cells (b*sz)).size;simp[madeCells])
  rw[hβ] at this;exact this
end
section
variable {P:Program}{ops:Array Oper}{o:Oper}{TT:TX}{m N:Nat}{L:LX}{T:Tr XV}{H:Tr Bx}{x:XV}
variable {N':Nat}{H':Tr Bx}{g:Lg}{call:fb}
variable {dst:Option Nat}{ty:TypeId}{pos:String}{af:Array Edge}{gd:Option (Nat×Bool)}
variable {V A A':Nat→Prop}{Hm Hn:HF}{β β':Nat→Pl}{w w':World}
theorem Hst.less (h:Hst N N' A Hm β w Hn β' w') {H2:HF}(hs: ∀k c,H2 k=some c→Hn k=some c):Hst N N' A Hm β w H2 β' w':=by
 have hn: ∀k,H2 k≠none→Hn k≠none:=fun k hk=>by
  cases e:H2 k with
  |none=>exact absurd e hk
  |some c=>rw[hs k c e];simp
 exact⟨h.os,h.tape,h.output,h.size,h.blk,h.same,fun k hk=>h.own k (hn k hk),fun k hk=>h.nam k (hn k hk)⟩
theorem zY (hm:Mem V A Hm β w):Mem V A Hm β w.drew:=by
 refine⟨hm.vlt,hm.dom,hm.lt,hm.inj,hm.clr,fun k U cs hk=>?_⟩
 obtain⟨vs,h1,h2,h3,h4⟩:=hm.box k U cs hk
 have hk2:Keep (Zs V Hm β) (Zs V Hm β) w w.drew:=⟨Nat.le_refl _,fun _ _ _=>rfl,fun _ _ h=>h⟩
 exact⟨vs,h1,h2,h3,h4.mono hk2 (fun _ h=>h) (fun _ _=>rfl)⟩
theorem JT (hm:Mem V A Hm β w) (hN: ∀k,A k→k≠N) {U:TypeId}{vs:Array Value}{cs:List AV}(hl:cs.length≤vs.size) (hr:RdAs A (Zs V Hm β) w β (vs.toList.take cs.length) cs):
 Mem V (fun k=>A k∨k=N) (fun k=>if k=N then some (U,cs) else Hm k) (fun k=>if k=N then⟨w.heap.size,vs.size⟩ else β k) (w.alloc (.cells vs U))∧
  Hst N (N+1) A Hm β w (fun k=>if k=N then some (U,cs) else Hm k) (fun k=>if k=N then⟨w.heap.size,vs.size⟩ else β k) (w.alloc (.cells vs U)):=by
 have hne: ∀k,(if k=N then some (U,cs) else Hm k)≠none→k≠N→Hm k≠none:=fun k hk e=>by rw[if_neg e] at hk;exact hk
 have hH:Hst N (N+1) A Hm β w (fun k=>if k=N then some (U,cs) else Hm k) (fun k=>if k=N then⟨w.heap.size,vs.size⟩ else β k) (w.alloc (.cells vs U)):=by
  refine⟨rfl,rfl,rfl,by simp,fun b hb _=>Below.heap_alloc _ _ _ hb,fun k hk=>if_neg (hN k hk),fun k hk=>?_,fun k hk=>?_⟩
  ·by_cases e:k=N
   ·rw[if_pos e];exact .inl (Nat.le_refl _)
   ·rw[if_neg e];exact .inr ⟨k,hne k hk e,rfl⟩
  ·by_cases e:k=N
   ·exact .inr ⟨Nat.le_of_eq e.symm,by omega⟩
   ·exact .inl (hne k hk e)
 have hkeep:=hH.keep hm
 refine⟨⟨fun b hb=>by rw[dg];exact Nat.lt_succ_of_lt (hm.vlt b hb),fun k hk=>?_,fun k hk=>?_,fun k l hk hl e=>?_,fun k hk hv=>?_,fun k U' cs' hk=>?_⟩,hH⟩
 ·by_cases e:k=N
  ·exact .inr e
  ·exact .inl (hm.dom k (hne k hk e))
 ·rw[dg]
  rcases hk with hk|hk
  ·rw[if_neg (hN k hk)];exact Nat.lt_succ_of_lt (hm.lt k hk)
  ·rw[if_pos hk];exact Nat.lt_succ_self _
 ·by_cases e1:k=N<;>by_cases e2:l=N
  ·rw[e1,e2]
  ·rw[if_pos e1,if_neg e2] at e
   have:=hm.lt l (hm.dom l (hne l hl e2))
   rw[←e] at this;exact absurd this (Nat.lt_irrefl _)
  ·rw[if_neg e1,if_pos e2] at e
   have:=hm.lt k (hm.dom k (hne k hk e1))
   rw[e] at this;exact absurd this (Nat.lt_irrefl _)
  ·rw[if_neg e1,if_neg e2] at e
   exact hm.inj k l (hne k hk e1) (hne l hl e2) e
 ·by_cases e:k=N
  ·rw[if_pos e] at hv;exact Nat.lt_irrefl _ (hm.vlt _ hv)
  ·rw[if_neg e] at hv;exact hm.clr k (hne k hk e) hv
 ·have hk':(if k=N then some (U,cs) else Hm k)=some (U',cs'):=hk
  by_cases e:k=N
  ·rw[if_pos e] at hk'
   injection hk' with hk'
   injection hk' with h1 h2
   subst h1 h2
   rw[if_pos e]
   exact⟨vs,heap_alloc_new w _,rfl,hl,hr.mono hkeep (fun _ h=>.inl h) hH.same⟩
  ·rw[if_neg e] at hk'
   obtain⟨vs',e1,e2,e3,e4⟩:=hm.box k U' cs' hk'
   rw[if_neg e]
   exact⟨vs',(Below.heap_alloc _ _ _ (hm.lt k (hm.dom k (by rw[hk'];simp)))).trans e1,e2,e3,e4.mono hkeep (fun _ h=>.inl h) hH.same⟩
theorem LA (hm:Mem V A Hm β w) (hN: ∀k,A k→k≠N) {k0:Nat}{U:TypeId}{cs:List AV}(hk0:Hm k0=some (U,cs)):
 Mem V (fun k=>A k∨k=N) (fun k=>if k=N then some (U,cs) else if k=k0 then none else Hm k) (fun k=>if k=N then β k0 else β k) w∧
  Hst N (N+1) A Hm β w (fun k=>if k=N then some (U,cs) else if k=k0 then none else Hm k) (fun k=>if k=N then β k0 else β k) w:=by
 have hA0:=hm.dom k0 (by rw[hk0];simp)
 have hne: ∀k,(if k=N then some (U,cs) else if k=k0 then none else Hm k)≠none→k≠N→k≠k0∧Hm k≠none:=fun k hk e=>by
  rw[if_neg e] at hk
  by_cases e2:k=k0
  ·rw[if_pos e2] at hk;exact absurd rfl hk
  ·rw[if_neg e2] at hk;exact⟨e2,hk⟩
 have hH:Hst N (N+1) A Hm β w (fun k=>if k=N then some (U,cs) else if k=k0 then none else Hm k) (fun k=>if k=N then β k0 else β k) w:=by
  refine⟨rfl,rfl,rfl,Nat.le_refl _,fun _ _ _=>rfl,fun k hk=>if_neg (hN k hk),fun k hk=>?_,fun k hk=>?_⟩
  ·by_cases e:k=N
   ·rw[if_pos e];exact .inr ⟨k0,by rw[hk0];simp,rfl⟩
   ·rw[if_neg e];exact .inr ⟨k,(hne k hk e).2,rfl⟩
  ·by_cases e:k=N
   ·exact .inr ⟨Nat.le_of_eq e.symm,by omega⟩
   ·exact .inl (hne k hk e).2
 have hkeep:=hH.keep hm
 refine⟨⟨hm.vlt,fun k hk=>?_,fun k hk=>?_,fun k l hk hl e=>?_,fun k hk hv=>?_,fun k U' cs' hk=>?_⟩,hH⟩
 ·by_cases e:k=N
  ·exact .inr e
  ·exact .inl (hm.dom k (hne k hk e).2)
 ·rcases hk with hk|hk
  ·rw[if_neg (hN k hk)];exact hm.lt k hk
  ·rw[if_pos hk];exact hm.lt k0 hA0
 ·by_cases e1:k=N<;>by_cases e2:l=N
  ·rw[e1,e2]
  ·rw[if_pos e1,if_neg e2] at e
   exact absurd (hm.inj k0 l (by rw[hk0];simp) (hne l hl e2).2 e).symm (hne l hl e2).1
  ·rw[if_neg e1,if_pos e2] at e
   exact absurd (hm.inj k k0 (hne k hk e1).2 (by rw[hk0];simp) e) (hne k hk e1).1
  ·rw[if_neg e1,if_neg e2] at e
   exact hm.inj k l (hne k hk e1).2 (hne l hl e2).2 e
 ·by_cases e:k=N
  ·rw[if_pos e] at hv;exact hm.clr k0 (by rw[hk0];simp) hv
  ·rw[if_neg e] at hv;exact hm.clr k (hne k hk e).2 hv
 ·have hk':(if k=N then some (U,cs) else if k=k0 then none else Hm k)=some (U',cs'):=hk
  by_cases e:k=N
  ·rw[if_pos e] at hk'
   injection hk' with hk'
   injection hk' with h1 h2
   subst h1 h2
   rw[if_pos e]
   obtain⟨vs',e1,e2,e3,e4⟩:=hm.box k0 U cs hk0
   exact⟨vs',e1,e2,e3,e4.mono hkeep (fun _ h=>.inl h) hH.same⟩
  ·rw[if_neg e] at hk'
   by_cases e2:k=k0
   ·rw[if_pos e2] at hk';cases hk'
   ·rw[if_neg e2] at hk'
    obtain⟨vs',e1,e3,e4,e5⟩:=hm.box k U' cs' hk'
    rw[if_neg e]
    exact⟨vs',e1,e3,e4,e5.mono hkeep (fun _ h=>.inl h) hH.same⟩
theorem DO {U e:TypeId}{sz:Nat}{y:AV}{f:Nat→Rp→Option Rs}{r:Rs}(hu:P.underlying U=some (.slice e)) (hO:fS H) (h:Ri H e sz y f=some r): ∃q ys,f q ys=some r∧ys.ok∧ys.flat.length=q*sz∧
 (∀V A β w v,Mem V A (HS H) β w→RdA A (Zs V (HS H) β) w β v y→ ∃news,Src P sz U v q news w∧RdAs A (Zs V (HS H) β) w β news ys.flat)∧(q=0→ ∀A Z β w v,RdA A Z w β v y→Src P sz U v 0 [] w):=by
 have hz0: ∀ {A Z:Nat→Prop}{β:Nat→Pl}{w:World}{v:Value},RdA A Z w β v .z→Src P sz U v 0 [] w:=fun h=>by rw[h.z_eq];exact Src.ofNil _ hu 0
 have he0: ∀ {A Z:Nat→Prop}{β:Nat→Pl}{w:World}{v:Value},RdA A Z w β v .ev→Src P sz U v 0 [] w:=fun h=>by
  obtain⟨a,c,e1,_,_⟩:=h.ev_eq
  rw[e1]
  cases a with
  |none=>exact Src.ofNil _ hu c
  |some a=>exact Src.ofSlice _ hu a 0 c [] (by simp) (fun j u hj=>by simp at hj) (fun _ h=>by cases h)
 rcases gN h with⟨k,off,q,lo,ex,m',rfl,h⟩|⟨rfl,h⟩|⟨rfl,h⟩
 ·obtain⟨b,hb,h⟩:=aK h
  obtain⟨g1,h⟩:=bp h
  obtain⟨g2,h⟩:=bp h
  obtain⟨g3,hfin⟩:=bp h
  have g1:=Nat.eq_of_beq_eq_true g1
  have g2:=Nat.eq_of_beq_eq_true g2
  rw[dt] at g3
  subst g1 g2
  obtain⟨hb1,hb2⟩:=hO k b hb
  have g3':off+q*sz≤b.n:=g3
  obtain⟨k1,k2⟩:=gg b.r b.n off (q*sz) hb1 hb2 g3'
  refine⟨q,fr b.r b.n off (q*sz),hfin,k1,by rw[k2];simp;omega,fun V A β w v hm hr=>?_,fun hq A Z β w v hr=>?_⟩
  ·obtain⟨c,e1,hk,c1,c2,c3,c4,c5⟩:=hr.s_eq
   obtain⟨vs,ev,hz,hl,hrd⟩:=hm.box k b.U b.r.flat (kH hb)
   have hr2:=(hrd.drop off).take (q*sz)
   have hle:off+q*sz≤b.r.flat.length:=by rw[←hb2];exact g3'
   have hlen:((vs.toList.take b.r.flat.length).drop off).take (q*sz)=(vs.toList.drop off).take (q*sz):=by
    rw[List.drop_take,List.take_take,Nat.min_eq_left (by omega)]
   rw[hlen] at hr2
   refine⟨(vs.toList.drop off).take (q*sz),?_,by rw[k2];exact hr2⟩
   rw[e1]
   refine Src.ofSlice w hu _ q c _ (by simp;omega) (fun j u hj=>?_) hr2.one
   rw[er]
   rw[List.getElem?_take] at hj
   split at hj
   ·rw[bq ev,←hj];simp
   ·cases hj
  ·obtain⟨c,e1,_⟩:=hr.s_eq
   rw[e1,hq]
   exact Src.ofSlice w hu _ 0 c [] (by simp) (fun j u hj=>by simp at hj) (fun _ h=>by cases h)
 ·exact⟨0,.e,h,trivial,by simp[Rp.flat],fun V A β w v _ hr=>⟨[],hz0 hr,RdAs.nil⟩,fun _ A Z β w v hr=>hz0 hr⟩
 ·exact⟨0,.e,h,trivial,by simp[Rp.flat],fun V A β w v _ hr=>⟨[],he0 hr,RdAs.nil⟩,fun _ A Z β w v hr=>he0 hr⟩
theorem mA {y x:XV}{N1 N':Nat}{H0 H1 H':Tr Bx}{g:Lg}(h:Jz y N1 H0 H1=some (.mk x N' H' g)):x=y∧N'=N1∧H'=H1∧g=.c H0 H1:=by
 unfold Jz at h
 injection h with h
 injection h with h1 h2 h3 h4
 exact⟨h1.symm,h2.symm,h3.symm,h4.symm⟩
theorem qP (hx:sM x) (hO':fS H') (hL':fZ N' H') (hle:N≤N') (hrun:So P ops o TT ⟨x,HS H,HS H',N,N'⟩):eP P ops o TT N H x N' H' (.c H H'):=by
 have hf:Foot N N' H H' (HS H) (HS H') (.c H H'):=⟨rfl,rfl,rfl,rfl⟩
 refine⟨hle,hx,hO',hL',HS H,HS H',hrun,fun k c h=>h,fun k c h=>?_,hf⟩
 unfold e8;rw[h]
theorem jI {U:TypeId}{y z:Operand}{a:Act}{w w':World}{v:Value}(h:(Builtin.append_ #[U,U] ty #[a.eval y,a.eval z]).run P w=.ok v w'):(execOp a.eval ⟨dst,.call ⟨.builtin .append,#[y,z],#[U,U]⟩,ty,pos,af,gd⟩).run P w=.ok (.value v) w':=by
 simp only[execOp,resolve,invoke,builtin,Sem.run_bind,Sem.run_pure,Result.andThen_ok,List.map_toArray,List.map_cons,List.map_nil]
 rw[h]
 rfl
theorem pn (hm:Mem V A Hm β w) (hN: ∀k,A k→k≠N) {e:TypeId}{i:TypeInfo}{z:Value}(hsz:z.cells.size=i.size) {n q c':Nat}{olds news:List Value}{us:List AV}
 (hl:(olds++news).length=(n+q)*i.size) (hr:RdAs A (Zs V Hm β) w β (olds++news) us) (hc1:n+q≤c') (hc2:c'≤maxLen):
 ∃A' β',(∀k,A k→A' k)∧(∀k,A' k→Ad A N (N+1) k)∧Mem V A' (fun k=>if k=N then some (e,us) else Hm k) β' (w.drew.alloc (.cells ((olds++news).toArray++Builtin.zeroCells z.cells (c'-(n+q))) e))∧
  Hst N (N+1) A Hm β w (fun k=>if k=N then some (e,us) else Hm k) β' (w.drew.alloc (.cells ((olds++news).toArray++Builtin.zeroCells z.cells (c'-(n+q))) e))∧
  ∀Z w',RdA A' Z w' β' (.slice (some ⟨w.heap.size,0,none⟩) (n+q) c') (.s N 0 (n+q) (n+q) false i.size):=by
 have hul:us.length=(n+q)*i.size:=by rw[←hr.1,hl]
 have hzl:(Builtin.zeroCells z.cells (c'-(n+q))).size=(c'-(n+q))*i.size:=by unfold Builtin.zeroCells;simp[hsz]
 have hvs:((olds++news).toArray++Builtin.zeroCells z.cells (c'-(n+q))).size=c'*i.size:=by
  rw[Array.size_append,hzl]
  show(olds++news).length+_=_
  rw[hl,←Nat.add_mul];congr 1;omega
 obtain⟨m1,m2⟩:=JT (U:=e) (vs:=(olds++news).toArray++Builtin.zeroCells z.cells (c'-(n+q))) (cs:=us) (zY hm) hN (by rw[hvs,hul];exact Nat.mul_le_mul_right _ hc1) (by
  have e1:((olds++news).toArray++Builtin.zeroCells z.cells (c'-(n+q))).toList.take us.length=olds++news:=by
   rw[Array.toList_append,List.take_append_of_le_length (by rw[hul,←hl];exact Nat.le_refl _),List.take_of_length_le (by rw[hul,←hl];exact Nat.le_refl _)]
  rw[e1]
  have hk2:Keep (Zs V Hm β) (Zs V Hm β) w w.drew:=⟨Nat.le_refl _,fun _ _ _=>rfl,fun _ _ h=>h⟩
  exact hr.mono hk2 (fun _ h=>h) (fun _ _=>rfl))
 refine⟨_,_,fun k hk=>.inl hk,fun k hk=>?_,m1,⟨m2.os,m2.tape,m2.output,m2.size,m2.blk,m2.same,m2.own,m2.nam⟩,fun Z w'=>?_⟩
 ·rcases hk with hk|hk
  ·exact .inl hk
  ·exact .inr ⟨Nat.le_of_eq hk.symm,by omega⟩
 ·have:=RdA.s (A:=fun k=>A k∨k=N) (Z:=Z) (w:=w') (β:=fun k=>if k=N then⟨w.drew.heap.size,((olds++news).toArray++Builtin.zeroCells z.cells (c'-(n+q))).size⟩ else β k) N 0 (n+q) (n+q) false i.size c' (.inr rfl) (Nat.le_refl _) hc1 hc2 (fun e=>by cases e) (by
   show 0+c'*i.size≤(if N=N then(⟨w.drew.heap.size,_⟩:Pl) else β N).z
   rw[if_pos rfl]
   show 0+c'*i.size≤((olds++news).toArray++Builtin.zeroCells z.cells (c'-(n+q))).size
   omega)
  have e2:(if N=N then(⟨w.drew.heap.size,((olds++news).toArray++Builtin.zeroCells z.cells (c'-(n+q))).size⟩:Pl) else β N)=⟨w.drew.heap.size,((olds++news).toArray++Builtin.zeroCells z.cells (c'-(n+q))).size⟩:=if_pos rfl
  rw[e2] at this
  exact this
end
section
variable {P:Program}{ops:Array Oper}{o:Oper}{TT:TX}{m N:Nat}{L:LX}{T:Tr XV}{H:Tr Bx}{x:XV}
variable {N':Nat}{H':Tr Bx}{g:Lg}{call:fb}
variable {dst:Option Nat}{ty:TypeId}{pos:String}{af:Array Edge}{gd:Option (Nat×Bool)}
theorem yF {U e:TypeId}{i:TypeInfo}(hu:P.underlying U=some (.slice e)) (hi:P.info? e=some i) {w:World}{bl off n c q:Nat}{v:Value}{news:List Value}{vs:Array Value}(hsrc:Src P i.size U v q news w)
 (ev:w.heap[bl]? =some (.cells vs e (0,0))) (hroom:n+q≤c) (hfit:off+c*i.size≤vs.size):
 (Builtin.append_ #[U,U] ty #[.slice (some ⟨bl,off,none⟩) n c,v]).run P w=.ok (.slice (some ⟨bl,off,none⟩) (n+q) c) (w.setRow bl (vs.toList.take (off+n*i.size)++news++vs.toList.drop (off+n*i.size+news.length)).toArray):=by
 have hnl:news.length=q*i.size:=hsrc.newsLen
 have hfit2:off+n*i.size+0+news.length≤vs.size:=by
  rw[hnl]
  have:=Nat.mul_le_mul_right i.size hroom
  rw[Nat.add_mul] at this;omega
 have hst:=run_storeCells_at P bl (off+n*i.size) e news 0 vs w ev hfit2 hsrc.one
 simp only[Nat.add_zero] at hst
 have ha:(⟨bl,off,none⟩:Addr).add (n*i.size)=⟨bl,off+n*i.size,none⟩:=er _ _ _
 rcases hsrc.kind with⟨e',hk⟩|hk<;>simp[Builtin.append_,run_underlying hu,sizeOf,typeInfo,hi,hsrc.len,hroom,hsrc.cells,ha,hst]
theorem yO {U e:TypeId}{i:TypeInfo}(hu:P.underlying U=some (.slice e)) (hi:P.info? e=some i) {w:World}{b:Option Addr}{n c:Nat}{v:Value}(hsrc:Src P i.size U v 0 [] w) (hroom:n≤c):
 (Builtin.append_ #[U,U] ty #[.slice b n c,v]).run P w=.ok (.slice b n c) w:=by
 rcases hsrc.kind with⟨e',hk⟩|hk<;>cases b<;>simp[Builtin.append_,run_underlying hu,sizeOf,typeInfo,hi,hsrc.len,hroom,hsrc.cells,storeCells]
theorem vp {w:World}{bl off n c sz:Nat}{U:TypeId}{vs:Array Value}(ev:w.heap[bl]? =some (.cells vs U (0,0))) (hle:off+n*sz≤vs.size):
 (Builtin.firstCells sz n (.slice (some ⟨bl,off,none⟩) n c)).run P w.drew=.ok ((vs.toList.drop off).take (n*sz)).toArray w.drew:=by
 have:=run_loadCells_list (P:=P) w.drew ⟨bl,off,none⟩ ((vs.toList.drop off).take (n*sz)) (fun j u hj=>by
  rw[er]
  show w.cell? _=_
  rw[List.getElem?_take] at hj
  split at hj
  ·rw[bq ev,←hj];simp
  ·cases hj)
 have hl:((vs.toList.drop off).take (n*sz)).length=n*sz:=by simp;omega
 rw[hl] at this
 exact this
theorem n9 {A Z:Nat→Prop}{w:World}{β:Nat→Pl}{vs:Array Value}{us:List AV}(hr:RdAs A Z w β (vs.toList.take us.length) us) {off n:Nat}(hle:off+n≤us.length):RdAs A Z w β ((vs.toList.drop off).take n) ((us.drop off).take n):=by
 have h:=(hr.drop off).take n
 have e:((vs.toList.take us.length).drop off).take n=(vs.toList.drop off).take n:=by
  rw[List.drop_take,List.take_take,Nat.min_eq_left (by omega)]
 rw[e] at h;exact h
theorem Qq (_hT:gW (TS m L T)) (hO:fS H) (hL:fZ N H) {U e:TypeId}{sz by_:Nat}{zs:List AV}{y z:Operand}{xo yo:XO}{x:XV}(hU:Hp P U=some (e,sz,by_,zs)) (h1:cO m y=some xo) (h2:cO m z=some yo)
 (h:Mc e sz by_ xo yo call L T N H=some (.mk x N' H' g)):eP P ops ⟨dst,.call ⟨.builtin .append,#[y,z],#[U,U]⟩,ty,pos,af,gd⟩ (TS m L T) N H x N' H' g:=by
 obtain⟨v,hv,h⟩:=aK h
 obtain⟨v2,hv2,h⟩:=aK h
 obtain⟨a,q1,h3⟩:=fi h
 obtain⟨b,q2,h4⟩:=fi h3
 subst q1 q2
 obtain⟨hu,i,zv,hi,hz,hsz,hby,hzl,h0,hzr⟩:=mO hU
 subst hsz
 obtain⟨q,ys,hF,hyo,hyl,hsrc,hsrc0⟩:=DO hu hO h4
 have hzs:zv.cells.size=i.size:=by
  have h1:=(hzr (fun _=>False) (fun _=>False) default (fun _=>⟨0,0⟩)).1
  rw[hzl] at h1;simpa using h1
 have hmy:y∈(Op.call ⟨.builtin .append,#[y,z],#[U,U]⟩).operands:=by simp[Op.operands,Call.operands]
 have hmz:z∈(Op.call ⟨.builtin .append,#[y,z],#[U,U]⟩).operands:=by simp[Op.operands,Call.operands]
 rw[fh] at hF
 split at hF
 ·rename_i hq
  have hq:=Nat.eq_of_beq_eq_true hq
  subst hq
  rcases gN hF with⟨k,off,n,lo,ex,m',rfl,h5⟩|⟨rfl,h5⟩|⟨rfl,h5⟩
  ·obtain⟨rfl,rfl,rfl,rfl⟩:=bW h5
   refine bk hO hL trivial fun A Z w β ac ht=>?_
   have hr:=aT (o:=⟨dst,.call ⟨.builtin .append,#[y,z],#[U,U]⟩,ty,pos,af,gd⟩) hmy h1 hv ht
   obtain⟨c,e1,hk,c1,c2,c3,c4,c5⟩:=RdA.s_eq hr
   have hs:=hsrc0 rfl A Z β w _ (aT (o:=⟨dst,.call ⟨.builtin .append,#[y,z],#[U,U]⟩,ty,pos,af,gd⟩) hmz h2 hv2 ht)
   refine⟨ac.eval y,jI ?_,hr⟩
   rw[e1]
   exact yO hu hi hs (by omega)
  ·obtain⟨rfl,rfl,rfl,rfl⟩:=bW h5
   refine bk hO hL trivial fun A Z w β ac ht=>?_
   have hr:=aT (o:=⟨dst,.call ⟨.builtin .append,#[y,z],#[U,U]⟩,ty,pos,af,gd⟩) hmy h1 hv ht
   have e1:=RdA.z_eq hr
   have hs:=hsrc0 rfl A Z β w _ (aT (o:=⟨dst,.call ⟨.builtin .append,#[y,z],#[U,U]⟩,ty,pos,af,gd⟩) hmz h2 hv2 ht)
   refine⟨ac.eval y,jI ?_,hr⟩
   rw[e1]
   exact yO hu hi hs (Nat.le_refl _)
  ·cases h5
 ·rename_i hq
  have hq0:0<q:=by
   rcases Nat.eq_zero_or_pos q with e|e
   ·subst e;exact absurd rfl hq
   ·exact e
  have hNA: ∀ {A:Nat→Prop},(∀k,A k→ ¬(N≤k∧k<N+1))→ ∀k,A k→k≠N:=fun h k hk e=>h k hk ⟨by omega,by omega⟩
  rcases gN hF with⟨k,off,n,lo,ex,m',rfl,h5⟩|⟨rfl,h5⟩|⟨rfl,h5⟩
  ·obtain⟨bx,hb,h6⟩:=aK h5
   obtain⟨g1,h7⟩:=bp h6
   obtain⟨g2,h8⟩:=bp h7
   obtain⟨g3,h9⟩:=bp h8
   obtain⟨g6,h10⟩:=bp h9
   obtain⟨g4,hfin⟩:=bp h10
   have g1:=Nat.eq_of_beq_eq_true g1
   have g2:=Nat.eq_of_beq_eq_true g2
   rw[dt] at g3 g4 g6
   have h63:n+q≤maxLen:=Nat.le_trans (show n+q≤1000000 from g6) (by decide)
   have g3:(n+q)*by_≤140737488355328:=g3
   have g4:off+n*i.size≤bx.n:=g4
   obtain⟨hb1,hb2⟩:=hO k bx hb
   have hkk:=kH hb
   rw[g1] at hkk
   subst g2
   have hlb:=hL k bx hb
   have e5:(n+q)*i.size=n*i.size+q*i.size:=Nat.add_mul _ _ _
   have g4':off+n*i.size≤bx.r.flat.length:=by rw[←hb2];exact g4
   rw[fh] at hfin
   split at hfin
   ·rename_i hroom
    rw[dt] at hroom
    have hroom:n+q≤lo:=hroom
    have key: ∀(nb:Nat) (nr:Rp),nr.ok→nb=nr.flat.length→nr.flat=bx.r.flat.take (off+n*i.size)++ys.flat++bx.r.flat.drop (off+(n+q)*i.size)→
     eP P ops ⟨dst,.call ⟨.builtin .append,#[y,z],#[U,U]⟩,ty,pos,af,gd⟩ (TS m L T) N H (.c (.s k off (n+q) lo ex i.size)) N (H.set ⟨e,nb,nr⟩ k) (.c H (H.set ⟨e,nb,nr⟩ k)):=by
     intro nb nr hnr hnb hnf
     refine qP trivial (jp hO hnr hnb) (jo hL (Nat.le_refl _) hlb) (Nat.le_refl _) fun V A β ac w hA hm ht=>?_
     obtain⟨c,e1,hk,c1,c2,c3,c4,c5⟩:=RdA.s_eq (aT (o:=⟨dst,.call ⟨.builtin .append,#[y,z],#[U,U]⟩,ty,pos,af,gd⟩) hmy h1 hv ht)
     obtain⟨news,hs,hnr2⟩:=hsrc V A β w _ hm (aT (o:=⟨dst,.call ⟨.builtin .append,#[y,z],#[U,U]⟩,ty,pos,af,gd⟩) hmz h2 hv2 ht)
     obtain⟨vs,ev,hvz,hvl,hrd⟩:=hm.box k e bx.r.flat hkk
     have hcq:(n+q)*i.size≤c*i.size:=Nat.mul_le_mul_right _ (by omega)
     have hrun:=yF (ty:=ty) hu hi hs ev (n:=n) (c:=c) (off:=off) (by omega) (by omega)
     have hnl:news.length=q*i.size:=hs.newsLen
     have hex:=jI (dst:=dst) (pos:=pos) (af:=af) (gd:=gd) (a:=ac) (y:=y) (z:=z) (by rw[e1];exact hrun)
     unfold Gives
     rw[hex]
     have hpre:off+n*i.size+q*i.size≤vs.size:=by omega
     obtain⟨m1,m2⟩:=nU (N:=N) (cs:=nr.flat) hm hkk (vs:=(vs.toList.take (off+n*i.size)++news++vs.toList.drop (off+n*i.size+news.length)).toArray) (by simp;omega) (eZ ev) rfl rfl rfl
      (by rw[hnf];simp;omega) (by
       rw[hnf]
       have hw:=RdAs.append (RdAs.append (n9 (off:=0) (n:=off+n*i.size) hrd (by omega)) hnr2) (hrd.drop (off+(n+q)*i.size))
       have e4:((vs.toList.take (off+n*i.size)++news++vs.toList.drop (off+n*i.size+news.length)).toArray).toList.take (bx.r.flat.take (off+n*i.size)++ys.flat++bx.r.flat.drop (off+(n+q)*i.size)).length=(vs.toList.drop 0).take (off+n*i.size)++news++(vs.toList.take bx.r.flat.length).drop (off+(n+q)*i.size):=by
        show(vs.toList.take (off+n*i.size)++news++vs.toList.drop (off+n*i.size+news.length)).take _=_
        rw[List.take_append,List.take_of_length_le (l:=vs.toList.take (off+n*i.size)++news) (by simp;omega),List.drop_take,List.drop_zero,show off+n*i.size+news.length=off+(n+q)*i.size by omega]
        congr 2
        simp;omega
       rw[e4];simpa using hw)
     refine⟨A,β,fun _ h=>h,fun _ h=>.inl h,m1.sub (fun j c hj=>?_),m2.less (fun j c hj=>?_),?_⟩
     ·rcases jE hj with⟨r1,r2⟩|⟨r1,r2⟩
      ·show(if j=k then some (e,nr.flat) else HS H j)=some c
       rw[if_pos r1,r2]
      ·show(if j=k then some (e,nr.flat) else HS H j)=some c
       rw[if_neg r1];exact r2
     ·rcases jE hj with⟨r1,r2⟩|⟨r1,r2⟩
      ·show(if j=k then some (e,nr.flat) else HS H j)=some c
       rw[if_pos r1,r2]
      ·show(if j=k then some (e,nr.flat) else HS H j)=some c
       rw[if_neg r1];exact r2
     ·exact RdA.s k off (n+q) lo ex i.size c hk hroom c2 c3 c4 c5
    rw[fh] at hfin
    split at hfin
    ·rename_i hin
     rw[dt] at hin
     have hin:off+(n+q)*i.size≤bx.n:=hin
     obtain⟨rfl,rfl,rfl,rfl⟩:=mA hfin
     obtain⟨u1,u2⟩:=nZ hyo bx.r bx.n (off+n*i.size) (q*i.size) hb1 hb2 hyl.symm (by omega)
     exact key bx.n (iw ys bx.r bx.n (off+n*i.size) (q*i.size)) u1 (by rw[u2,hb2];simp;omega) (by rw[u2,show off+n*i.size+q*i.size=off+(n+q)*i.size by omega])
    ·rename_i hin
     rw[dt] at hin
     have hin: ¬off+(n+q)*i.size≤bx.n:=hin
     obtain⟨rfl,rfl,rfl,rfl⟩:=mA hfin
     obtain⟨s1,s2⟩:=gg bx.r bx.n 0 (off+n*i.size) hb1 hb2 (by omega)
     obtain⟨j1,j2⟩:=f9 (ls:=off+n*i.size) (l:=fr bx.r bx.n 0 (off+n*i.size)) (r:=ys) (by rw[s2];simp;omega) s1 hyo
     refine key (off+(n+q)*i.size) (fm (off+n*i.size) (fr bx.r bx.n 0 (off+n*i.size)) ys) j1 (by rw[j2,s2];simp;omega) (by rw[j2,s2,List.drop_zero,List.drop_of_length_le (i:=off+(n+q)*i.size) (by omega)];simp)
   ·rename_i hroom
    rw[dt] at hroom
    have hroom: ¬n+q≤lo:=hroom
    rw[fh] at hfin
    split at hfin
    ·--it grows,for sure
     rename_i hex
     obtain⟨rfl,rfl,rfl,rfl⟩:=mA hfin
     obtain⟨s1,s2⟩:=gg bx.r bx.n off (n*i.size) hb1 hb2 g4
     obtain⟨j1,j2⟩:=f9 (ls:=n*i.size) (l:=fr bx.r bx.n off (n*i.size)) (r:=ys) (by rw[s2];simp;omega) s1 hyo
     have jl:(n+q)*i.size=(fm (n*i.size) (fr bx.r bx.n off (n*i.size)) ys).flat.length:=by rw[j2,s2];simp;omega
     refine qP trivial (jp hO j1 jl) (jo hL (Nat.le_succ _) (Nat.lt_succ_self _)) (Nat.le_succ _) fun V A β ac w hA hm ht=>?_
     obtain⟨c,e1,hk,c1,c2,c3,c4,c5⟩:=RdA.s_eq (aT (o:=⟨dst,.call ⟨.builtin .append,#[y,z],#[U,U]⟩,ty,pos,af,gd⟩) hmy h1 hv ht)
     obtain⟨news,hs,hnr2⟩:=hsrc V A β w _ hm (aT (o:=⟨dst,.call ⟨.builtin .append,#[y,z],#[U,U]⟩,ty,pos,af,gd⟩) hmz h2 hv2 ht)
     obtain⟨vs,ev,hvz,hvl,hrd⟩:=hm.box k e bx.r.flat hkk
     have hc:=c4 hex
     have hgrow:c<n+q:=by omega
     have hrun:=run_append_grow_src (P:=P) (w:=w) U U ty e i zv hu hi hz (some ⟨(β k).b,off,none⟩) n c _ (vp (c:=c) ev (by omega)) (ac.eval z) q news hs hgrow (by have:maxLen=9223372036854775807:=rfl;omega) (growslice_fits hgrow (by rw[hby];exact g3))
     have hol:=n9 hrd (off:=off) (n:=n*i.size) g4'
     have hnl:news.length=q*i.size:=hs.newsLen
     have hll:(((vs.toList.drop off).take (n*i.size))++news).length=(n+q)*i.size:=by rw[List.length_append,hnl,hol.1];simp;omega
     obtain⟨A',β',w1,w2,w3,w4,w5⟩:=pn (N:=N) (e:=e) (z:=zv) hm (hNA hA) hzs hll (hol.append hnr2) (grownCap_ge w (n+q) c e) (grownCap_le_maxLen w (n+q) c e h63)
     have hex2:=jI (dst:=dst) (pos:=pos) (af:=af) (gd:=gd) (a:=ac) (y:=y) (z:=z) (by rw[e1];exact hrun)
     unfold Gives
     rw[hex2]
     have hjf:(fm (n*i.size) (fr bx.r bx.n off (n*i.size)) ys).flat=(bx.r.flat.drop off).take (n*i.size)++ys.flat:=by rw[j2,s2]
     have hsub: ∀j c,HS (H.set ⟨e,(n+q)*i.size,fm (n*i.size) (fr bx.r bx.n off (n*i.size)) ys⟩ N) j=some c→(if j=N then some (e,(bx.r.flat.drop off).take (n*i.size)++ys.flat) else HS H j)=some c:=by
      intro j c hj
      rcases jE hj with⟨r1,r2⟩|⟨r1,r2⟩
      ·rw[if_pos r1,r2,hjf]
      ·rw[if_neg r1];exact r2
     exact⟨A',β',w1,w2,w3.sub hsub,w4.less hsub,w5 _ _⟩
    ·--not known
     obtain⟨hoff,hfin2⟩:=bp hfin
     have hoff:=Nat.eq_of_beq_eq_true hoff
     subst hoff
     obtain⟨rfl,rfl,rfl,rfl⟩:=mA hfin2
     obtain⟨s1,s2⟩:=gg bx.r bx.n 0 (n*i.size) hb1 hb2 g4
     obtain⟨j1,j2⟩:=f9 (ls:=n*i.size) (l:=fr bx.r bx.n 0 (n*i.size)) (r:=ys) (by rw[s2];simp;omega) s1 hyo
     have jl:(n+q)*i.size=(fm (n*i.size) (fr bx.r bx.n 0 (n*i.size)) ys).flat.length:=by rw[j2,s2];simp;omega
     have hod:fS (H.del k):=fun j b' hj=>hO j b' (Tr.del_get H k j hj).2
     have hld:fZ N (H.del k):=fun j b' hj=>hL j b' (Tr.del_get H k j hj).2
     have hds: ∀j c,HS (H.del k) j=some c→j≠k∧HS H j=some c:=by
      intro j c hj
      unfold HS at hj⊢
      cases h9:(H.del k).get j with
      |none=>rw[h9] at hj;cases hj
      |some b'=>
       rw[h9] at hj
       injection hj with hj
       obtain⟨r1,r2⟩:=Tr.del_get H k j h9
       refine⟨r1,?_⟩
       rw[r2,←hj];rfl
     have hjf:(fm (n*i.size) (fr bx.r bx.n 0 (n*i.size)) ys).flat=(bx.r.flat.drop 0).take (n*i.size)++ys.flat:=by rw[j2,s2]
     refine qP trivial (jp hod j1 jl) (jo hld (Nat.le_succ _) (Nat.lt_succ_self _)) (Nat.le_succ _) fun V A β ac w hA hm ht=>?_
     obtain⟨c,e1,hk,c1,c2,c3,c4,c5⟩:=RdA.s_eq (aT (o:=⟨dst,.call ⟨.builtin .append,#[y,z],#[U,U]⟩,ty,pos,af,gd⟩) hmy h1 hv ht)
     obtain⟨news,hs,hnr2⟩:=hsrc V A β w _ hm (aT (o:=⟨dst,.call ⟨.builtin .append,#[y,z],#[U,U]⟩,ty,pos,af,gd⟩) hmz h2 hv2 ht)
     obtain⟨vs,ev,hvz,hvl,hrd⟩:=hm.box k e bx.r.flat hkk
     have hnl:news.length=q*i.size:=hs.newsLen
     have hol:=n9 hrd (off:=0) (n:=n*i.size) g4'
     have hkN:k≠N:=by omega
     by_cases hc:n+q≤c
     ·--in place:the box goes by a new name
      have hcq:(n+q)*i.size≤c*i.size:=Nat.mul_le_mul_right _ hc
      have hrun:=yF (ty:=ty) hu hi hs ev (n:=n) (c:=c) (off:=0) hc (by omega)
      have hex2:=jI (dst:=dst) (pos:=pos) (af:=af) (gd:=gd) (a:=ac) (y:=y) (z:=z) (by rw[e1];exact hrun)
      unfold Gives
      rw[hex2]
      simp only[Nat.zero_add]
      obtain⟨m1,m2⟩:=nU (N:=N) (cs:=(bx.r.flat.drop 0).take (n*i.size)++ys.flat) hm hkk (vs:=(vs.toList.take (n*i.size)++news++vs.toList.drop (n*i.size+news.length)).toArray) (by simp;omega) (eZ ev) rfl rfl rfl
       (by simp;omega) (by
        have hw:=hol.append hnr2
        have e4:((vs.toList.take (n*i.size)++news++vs.toList.drop (n*i.size+news.length)).toArray).toList.take ((bx.r.flat.drop 0).take (n*i.size)++ys.flat).length=(vs.toList.drop 0).take (n*i.size)++news:=by
         show(vs.toList.take (n*i.size)++news++vs.toList.drop (n*i.size+news.length)).take _=_
         rw[List.take_append_of_le_length (by simp;omega),List.take_of_length_le (by simp;omega),List.drop_zero]
        rw[e4];exact hw)
      obtain⟨n1,n2⟩:=LA (N:=N) m1 (hNA hA) (k0:=k) (U:=e) (cs:=(bx.r.flat.drop 0).take (n*i.size)++ys.flat) (if_pos rfl)
      have hsub: ∀j d,HS ((H.del k).set ⟨e,(n+q)*i.size,fm (n*i.size) (fr bx.r bx.n 0 (n*i.size)) ys⟩ N) j=some d→
       (if j=N then some (e,(bx.r.flat.drop 0).take (n*i.size)++ys.flat) else if j=k then none else if j=k then some (e,(bx.r.flat.drop 0).take (n*i.size)++ys.flat) else HS H j)=some d:=by
       intro j d hj
       rcases jE hj with⟨r1,r2⟩|⟨r1,r2⟩
       ·rw[if_pos r1,r2,hjf]
       ·obtain⟨r3,r4⟩:=hds j d r2
        rw[if_neg r1,if_neg r3,if_neg r3];exact r4
      refine⟨_,_,fun j hj=>.inl hj,fun j hj=>?_,n1.sub hsub,((m2.wide (Nat.le_refl _) (Nat.le_succ _)).trans (fun _ h=>h) n2).less hsub,?_⟩
      ·rcases hj with hj|hj
       ·exact .inl hj
       ·exact .inr ⟨Nat.le_of_eq hj.symm,by show j<N+1;omega⟩
      ·have hrs:=RdA.s (A:=fun j=>A j∨j=N) (Z:=Zs V (HS ((H.del k).set ⟨e,(n+q)*i.size,fm (n*i.size) (fr bx.r bx.n 0 (n*i.size)) ys⟩ N)) (fun j=>if j=N then β k else β j))
        (w:=w.setRow (β k).b (vs.toList.take (n*i.size)++news++vs.toList.drop (n*i.size+news.length)).toArray) (β:=fun j=>if j=N then β k else β j) N 0 (n+q) (n+q) false i.size c (.inr rfl) (Nat.le_refl _) hc c3 (fun e=>by cases e) (by rw[if_pos rfl];exact c5)
       rw[if_pos rfl] at hrs
       exact hrs
     ·have hgrow:c<n+q:=by omega
      have hrun:=run_append_grow_src (P:=P) (w:=w) U U ty e i zv hu hi hz (some ⟨(β k).b,0,none⟩) n c _ (vp (c:=c) ev (by omega)) (ac.eval z) q news hs hgrow (by have:maxLen=9223372036854775807:=rfl;omega) (growslice_fits hgrow (by rw[hby];exact g3))
      have hll:(((vs.toList.drop 0).take (n*i.size))++news).length=(n+q)*i.size:=by rw[List.length_append,hnl,hol.1];simp;omega
      obtain⟨A',β',w1,w2,w3,w4,w5⟩:=pn (N:=N) (e:=e) (z:=zv) hm (hNA hA) hzs hll (hol.append hnr2) (grownCap_ge w (n+q) c e) (grownCap_le_maxLen w (n+q) c e h63)
      have hex2:=jI (dst:=dst) (pos:=pos) (af:=af) (gd:=gd) (a:=ac) (y:=y) (z:=z) (by rw[e1];exact hrun)
      unfold Gives
      rw[hex2]
      have hsub: ∀j d,HS ((H.del k).set ⟨e,(n+q)*i.size,fm (n*i.size) (fr bx.r bx.n 0 (n*i.size)) ys⟩ N) j=some d→(if j=N then some (e,(bx.r.flat.drop 0).take (n*i.size)++ys.flat) else HS H j)=some d:=by
       intro j d hj
       rcases jE hj with⟨r1,r2⟩|⟨r1,r2⟩
       ·rw[if_pos r1,r2,hjf]
       ·rw[if_neg r1];exact(hds j d r2).2
      exact⟨A',β',w1,w2,w3.sub hsub,w4.less hsub,w5 _ _⟩
  ·--onto the nil slice
   obtain⟨g3,h6⟩:=bp h5
   obtain⟨g6,hfin⟩:=bp h6
   rw[dt] at g3 g6
   have g3:q*by_≤140737488355328:=g3
   have h63:0+q≤maxLen:=by rw[Nat.zero_add];exact Nat.le_trans g6 (by decide)
   obtain⟨rfl,rfl,rfl,rfl⟩:=mA hfin
   refine qP trivial (jp hO hyo hyl.symm) (jo hL (Nat.le_succ _) (Nat.lt_succ_self _)) (Nat.le_succ _) fun V A β ac w hA hm ht=>?_
   have e1:=RdA.z_eq (aT (o:=⟨dst,.call ⟨.builtin .append,#[y,z],#[U,U]⟩,ty,pos,af,gd⟩) hmy h1 hv ht)
   obtain⟨news,hs,hnr2⟩:=hsrc V A β w _ hm (aT (o:=⟨dst,.call ⟨.builtin .append,#[y,z],#[U,U]⟩,ty,pos,af,gd⟩) hmz h2 hv2 ht)
   have hnl:news.length=q*i.size:=hs.newsLen
   have hold:(Builtin.firstCells i.size 0 (.slice none 0 0)).run P w.drew=.ok ([]:List Value).toArray w.drew:=rfl
   have hgrow:0<0+q:=by omega
   have hrun:=run_append_grow_src (P:=P) (w:=w) U U ty e i zv hu hi hz none 0 0 _ hold (ac.eval z) q news hs hgrow (by have:maxLen=9223372036854775807:=rfl;omega) (growslice_fits hgrow (by rw[hby,Nat.zero_add];exact g3))
   obtain⟨A',β',w1,w2,w3,w4,w5⟩:=pn (N:=N) (e:=e) (z:=zv) (n:=0) (q:=q) (olds:=[]) (news:=news) hm (hNA hA) hzs (by simp[hnl]) (by simpa using hnr2) (grownCap_ge w (0+q) 0 e) (grownCap_le_maxLen w (0+q) 0 e h63)
   have hex2:=jI (dst:=dst) (pos:=pos) (af:=af) (gd:=gd) (a:=ac) (y:=y) (z:=z) (by rw[e1];exact hrun)
   unfold Gives
   rw[hex2]
   have hsub: ∀j d,HS (H.set ⟨e,q*i.size,ys⟩ N) j=some d→(if j=N then some (e,ys.flat) else HS H j)=some d:=by
    intro j d hj
    rcases jE hj with⟨r1,r2⟩|⟨r1,r2⟩
    ·rw[if_pos r1,r2]
    ·rw[if_neg r1];exact r2
   refine⟨A',β',w1,w2,w3.sub hsub,w4.less hsub,?_⟩
   show RdA A' _ _ β' _ (.s N 0 q q false i.size)
   rw[show AV.s N 0 q q false i.size=AV.s N 0 (0+q) (0+q) false i.size by rw[Nat.zero_add]]
   exact w5 _ _
  ·cases h5
end
section
variable {P:Program}{ops:Array Oper}{TT:TX}{m N:Nat}{L:LX}{T:Tr XV}{H:Tr Bx}
variable {N':Nat}{H':Tr Bx}{g:Lg}{call:fb}
variable {dst:Option Nat}{ty:TypeId}{pos:String}{af:Array Edge}{gd:Option (Nat×Bool)}
theorem ui {U W e:TypeId}{i:TypeInfo}{z:Value}{kk k:IntKind}(hu:P.underlying U=some (.slice e)) (hW:P.underlying W=some (.int kk)) (hi:P.info? e=some i) (hz:i.zero=some z) (_hsz:z.cells.size=i.size) (h0:0<i.size) {w:World}{q:Nat}
 (hq:0<q) (hq2:q≤1000000) (hb:q*i.bytes≤140737488355328):
 (Builtin.append_ #[U,W] ty #[.slice none 0 0,.int k (q:Int)]).run P w=
  .ok (.slice (some ⟨w.heap.size,0,none⟩) q (grownCap w q 0 e)) (w.drew.alloc (.cells (([]++(Builtin.zeroCells z.cells q).toList).toArray++Builtin.zeroCells z.cells (grownCap w q 0 e-q)) e)):=by
 have hw:IntKind.i64.wrap (q:Int)=(q:Int):=by unfold IntKind.wrap;simp[IntKind.bits,IntKind.signed];omega
 have hl: ¬((q:Int)<0):=by omega
 have hbb: ¬(281474976710656<(q:Int)*(i.bytes:Int)):=by
  have h2:((q*i.bytes:Nat):Int)≤140737488355328:=Int.ofNat_le.2 hb
  rw[Int.natCast_mul] at h2;omega
 have hn0: ¬(q≤0):=by omega
 have hqs: ¬(q*i.size=0):=by have:=Nat.mul_pos hq h0;omega
 have hcap:Builtin.nextslicecap q 0=q:=by unfold Builtin.nextslicecap;rw[if_pos (by omega)]
 have hb2: ¬(281474976710656<q*i.bytes):=by omega
 have hmax: ¬((9223372036854775807:Int)<(q:Int)):=by omega
 have hq3:q≠0:=by omega
 have hs3:i.size≠0:=by omega
 simp[Builtin.append_,run_underlying hu,run_underlying hW,sizeOf,typeInfo,zeroValue,hi,hz,asInt,asIntOf,hw,hl,hbb,hqs,hcap,hb2,hmax,Question.forced,newRow,grownCap,Builtin.firstCells,hq3]
theorem EP {U W:TypeId}{y z:Operand}{a:Act}{w w':World}{v:Value}(h:(Builtin.append_ #[U,W] ty #[a.eval y,a.eval z]).run P w=.ok v w'):(execOp a.eval ⟨dst,.call ⟨.builtin .append,#[y,z],#[U,W]⟩,ty,pos,af,gd⟩).run P w=.ok (.value v) w':=by
 simp only[execOp,resolve,invoke,builtin,Sem.run_bind,Sem.run_pure,Result.andThen_ok,List.map_toArray,List.map_cons,List.map_nil]
 rw[h]
 rfl
theorem RA (_hT:gW (TS m L T)) (hO:fS H) (hL:fZ N H) {U W e:TypeId}{sz by_:Nat}{zs:List AV}{kk:IntKind}{y z:Operand}{xo yo:XO}{x:XV}(hU:Hp P U=some (e,sz,by_,zs)) (hW:K8 P W=some kk) (h1:cO m y=some xo) (h2:cO m z=some yo)
 (h:MY e sz by_ (nh zs) xo yo call L T N H=some (.mk x N' H' g)):eP P ops ⟨dst,.call ⟨.builtin .append,#[y,z],#[U,W]⟩,ty,pos,af,gd⟩ (TS m L T) N H x N' H' g:=by
 obtain⟨v,hv,h⟩:=aK h
 obtain⟨v2,hv2,h⟩:=aK h
 obtain⟨a,q1,h⟩:=fi h
 obtain⟨kb,q,q2,h⟩:=lK h
 subst q1 q2
 obtain⟨hu,i,zv,hi,hz,hsz,hby,hzl,h0,hzr⟩:=mO hU
 have hw:P.underlying W=some (.int kk):=by
  unfold K8 at hW
  split at hW
  ·rename_i k e1;injection hW with hW;subst hW;exact e1
  ·cases hW
 rcases gN h with⟨k,off,n,lo,ex,m',rfl,h5⟩|⟨rfl,h5⟩|⟨rfl,h5⟩
 ·cases h5
 ·obtain⟨g1,h6⟩:=bp h5
  obtain⟨g2,h7⟩:=bp h6
  obtain⟨g3,h8⟩:=bp h7
  rw[b9] at g1
  rw[dt] at g2 g3
  have g2:q*by_≤140737488355328:=g2
  have hzs:zv.cells.size=i.size:=by
   have h1:=(hzr (fun _=>False) (fun _=>False) default (fun _=>⟨0,0⟩)).1
   rw[hzl] at h1;rw[hsz];simpa using h1
  obtain⟨z1,z2⟩:=i9 zs
  obtain⟨r1,r2⟩:=lm (m:=sz) (z:=nh zs) (by rw[z2,hzl]) z1 q
  have r2':(j8 sz (nh zs) q).flat=qQ zs q:=by rw[r2,z2]
  have hlen:q*sz=(j8 sz (nh zs) q).flat.length:=by rw[r2',nt,hzl]
  have h63:0+q≤maxLen:=by rw[Nat.zero_add];exact Nat.le_trans g3 (by decide)
  obtain⟨rfl,rfl,rfl,rfl⟩:=mA h8
  have hNA: ∀ {A:Nat→Prop},(∀k,A k→ ¬(N≤k∧k<N+1))→ ∀k,A k→k≠N:=fun h k hk e=>h k hk ⟨by omega,by omega⟩
  refine qP trivial (jp hO r1 hlen) (jo hL (Nat.le_succ _) (Nat.lt_succ_self _)) (Nat.le_succ _) fun V A β ac w hA hm ht=>?_
  have e1:=RdA.z_eq (aT (o:=⟨dst,.call ⟨.builtin .append,#[y,z],#[U,W]⟩,ty,pos,af,gd⟩) (by simp[Op.operands,Call.operands]) h1 hv ht)
  have e2:ac.eval z=.int kb (q:Int):=RdA.i_eq (aT (o:=⟨dst,.call ⟨.builtin .append,#[y,z],#[U,W]⟩,ty,pos,af,gd⟩) (by simp[Op.operands,Call.operands]) h2 hv2 ht)
  have hrun:=ui (ty:=ty) (w:=w) (k:=kb) hu hw hi hz hzs (by omega) g1 g3 (by rw[hby];exact g2)
  have hrow:=pv hzl (hzr A (Zs V (HS H) β) w β) q
  obtain⟨A',β',w1,w2,w3,w4,w5⟩:=pn (N:=N) (e:=e) (z:=zv) (n:=0) (q:=q) (olds:=[]) (news:=(Builtin.zeroCells zv.cells q).toList) (us:=qQ zs q) hm (hNA hA) hzs (by simp[Builtin.zeroCells,hzs]) (by
   have e3:(Builtin.zeroCells zv.cells q).toList=(madeCells zv.cells (q*sz)).toList:=by unfold Builtin.zeroCells madeCells;rw[hzs,hsz]
   rw[List.nil_append,e3]
   unfold madeCells
   simpa using hrow) (grownCap_ge w (0+q) 0 e) (grownCap_le_maxLen w (0+q) 0 e h63)
  have hex2:=EP (dst:=dst) (pos:=pos) (af:=af) (gd:=gd) (a:=ac) (y:=y) (z:=z) (by rw[e1,e2];exact hrun)
  unfold Gives
  rw[hex2]
  have hsub: ∀j d,HS (H.set ⟨e,q*sz,j8 sz (nh zs) q⟩ N) j=some d→(if j=N then some (e,qQ zs q) else HS H j)=some d:=by
   intro j d hj
   rcases jE hj with⟨r3,r4⟩|⟨r3,r4⟩
   ·rw[if_pos r3,r4];exact congrArg (fun l=>some (e,l)) r2'.symm
   ·rw[if_neg r3];exact r4
  rw[Nat.zero_add] at w3 w4
  refine⟨A',β',w1,w2,w3.sub hsub,w4.less hsub,?_⟩
  show RdA A' _ _ β' _ (.s N 0 q q false sz)
  have:=w5 (Zs V (HS (H.set ⟨e,q*sz,j8 sz (nh zs) q⟩ N)) β') (w.drew.alloc (.cells (([]++(Builtin.zeroCells zv.cells q).toList).toArray++Builtin.zeroCells zv.cells (grownCap w q 0 e-q)) e))
  rw[Nat.zero_add,hsz] at this
  exact this
 ·cases h5
end
section
variable {P:Program}{ops:Array Oper}{o:Oper}{TT:TX}{m N:Nat}{L:LX}{T:Tr XV}{H:Tr Bx}{x:XV}
variable {N':Nat}{H':Tr Bx}{g:Lg}{call:fb}
variable {dst:Option Nat}{ty:TypeId}{pos:String}{af:Array Edge}{gd:Option (Nat×Bool)}
theorem LS {A Z:Nat→Prop}{w:World}{β:Nat→Pl}:RdX2 A Z w β (.tuple #[]) (.t []):=⟨#[],rfl,RdDs.nil⟩
theorem qe {U:TypeId}{y:Operand}{a:Act}{w w':World}(h:(Builtin.clear_ #[U] ty #[a.eval y]).run P w=.ok (.tuple #[]) w'):(execOp a.eval ⟨dst,.call ⟨.builtin .clear,#[y],#[U]⟩,ty,pos,af,gd⟩).run P w=.ok (.value (.tuple #[])) w':=by
 simp only[execOp,resolve,invoke,builtin,Sem.run_bind,Sem.run_pure,Result.andThen_ok,List.map_toArray,List.map_cons,List.map_nil]
 rw[h]
 rfl
theorem Qz (_hT:gW (TS m L T)) (hO:fS H) (hL:fZ N H) {U e:TypeId}{sz by_:Nat}{zs:List AV}{y:Operand}{xo:XO}{x:XV}(hU:Hp P U=some (e,sz,by_,zs)) (h1:cO m y=some xo)
 (h:Mh sz (nh zs) xo call L T N H=some (.mk x N' H' g)):eP P ops ⟨dst,.call ⟨.builtin .clear,#[y],#[U]⟩,ty,pos,af,gd⟩ (TS m L T) N H x N' H' g:=by
 obtain⟨v,hv,h⟩:=aK h
 obtain⟨a,q1,h3⟩:=fi h
 subst q1
 obtain⟨hu,i,zv,hi,hz,hsz,hby,hzl,h0,hzr⟩:=mO hU
 have hmy:y∈(Op.call ⟨.builtin .clear,#[y],#[U]⟩).operands:=by simp[Op.operands,Call.operands]
 have hempty: ∀(w:World) (A:Option Addr) (c:Nat),(Builtin.clear_ #[U] ty #[.slice A 0 c]).run P w=.ok (.tuple #[]) w:=fun w A c=>by
  cases A<;>simp[Builtin.clear_,run_underlying hu]
 rcases gN h3 with⟨k,off,n,lo,ex,m',rfl,h4⟩|⟨rfl,h4⟩|⟨rfl,h4⟩
 ·rw[fh] at h4
  split at h4
  ·rename_i hn
   have hn:=Nat.eq_of_beq_eq_true hn
   subst hn
   obtain⟨rfl,rfl,rfl,rfl⟩:=bW h4
   refine bk hO hL (fun d hd=>by cases hd) fun A Z w β ac ht=>?_
   obtain⟨c,e1,_⟩:=RdA.s_eq (aT (o:=⟨dst,.call ⟨.builtin .clear,#[y],#[U]⟩,ty,pos,af,gd⟩) hmy h1 hv ht)
   exact⟨_,qe (by rw[e1];exact hempty _ _ _),LS⟩
  ·rename_i hn
   have hn:n≠0:=fun e=>by subst e;exact hn rfl
   obtain⟨b,hb,h5⟩:=aK h4
   obtain⟨g1,h6⟩:=bp h5
   obtain⟨g2,h7⟩:=bp h6
   obtain⟨rfl,rfl,rfl,rfl⟩:=mA h7
   have g1:=Nat.eq_of_beq_eq_true g1
   subst g1
   rw[dt] at g2
   have g2:off+n*sz≤b.n:=g2
   obtain⟨hb1,hb2⟩:=hO k b hb
   obtain⟨z1,z2⟩:=i9 zs
   obtain⟨r1,r2⟩:=lm (m:=sz) (z:=nh zs) (by rw[z2,hzl]) z1 n
   have r2':(j8 sz (nh zs) n).flat=qQ zs n:=by rw[r2,z2]
   have hrl:n*sz=(j8 sz (nh zs) n).flat.length:=by rw[r2',nt,hzl]
   obtain⟨u1,u2⟩:=nZ r1 b.r b.n off (n*sz) hb1 hb2 hrl g2
   have hkk:=kH hb
   have g2':off+n*sz≤b.r.flat.length:=by rw[←hb2];exact g2
   have hlen:b.n=(iw (j8 sz (nh zs) n) b.r b.n off (n*sz)).flat.length:=by rw[u2,hb2];simp;omega
   refine qP (fun d hd=>by cases hd) (jp hO u1 hlen) (jo hL (Nat.le_refl _) (hL k b hb)) (Nat.le_refl _) fun V A β ac w hA hm ht=>?_
   obtain⟨c,e1,hk,c1,c2,c3,c4,c5⟩:=RdA.s_eq (aT (o:=⟨dst,.call ⟨.builtin .clear,#[y],#[U]⟩,ty,pos,af,gd⟩) hmy h1 hv ht)
   obtain⟨vs,ev,hvz,hvl,hrd⟩:=hm.box k b.U b.r.flat hkk
   have hrow:=pv hzl (hzr A (Zs V (HS H) β) w β) n
   have hzs:zv.cells.size=sz:=by have:=(hzr A (Zs V (HS H) β) w β).1;rw[hzl] at this;simpa using this
   have hzc:(Builtin.zeroCells zv.cells n).toList=(List.range (n*sz)).map (fun j=>zv.cells[j%zv.cells.size]!):=by
    unfold Builtin.zeroCells
    rw[hzs];simp
   rw[←hzc] at hrow
   have hzlen:(Builtin.zeroCells zv.cells n).toList.length=n*sz:=by rw[hzc];simp
   have hst:=run_storeCells_at P (β k).b off b.U (Builtin.zeroCells zv.cells n).toList 0 vs w ev (by omega) hrow.one
   simp only[Nat.add_zero] at hst
   have hrun:(Builtin.clear_ #[U] ty #[.slice (some ⟨(β k).b,off,none⟩) n c]).run P w=.ok (.tuple #[]) (w.setRow (β k).b (vs.toList.take off++(Builtin.zeroCells zv.cells n).toList++vs.toList.drop (off+(Builtin.zeroCells zv.cells n).toList.length)).toArray):=by
    simp[Builtin.clear_,run_underlying hu,hn,zeroValue,typeInfo,hi,hz]
    rw[hst]
    simp
   have hex:=qe (dst:=dst) (pos:=pos) (af:=af) (gd:=gd) (a:=ac) (y:=y) (by rw[e1];exact hrun)
   unfold Gives
   rw[hex]
   obtain⟨m1,m2⟩:=nU (N:=_) (cs:=(iw (j8 sz (nh zs) n) b.r b.n off (n*sz)).flat) hm hkk (vs:=(vs.toList.take off++(Builtin.zeroCells zv.cells n).toList++vs.toList.drop (off+(Builtin.zeroCells zv.cells n).toList.length)).toArray)
    (by simp only[List.size_toArray,List.length_append,hzlen];simp;omega) (eZ ev) rfl rfl rfl (by rw[←hlen,hb2];simp only[List.size_toArray,List.length_append,hzlen];simp;omega) (by
     rw[←hlen,u2,r2']
     have hw:=RdAs.append (RdAs.append (n9 (off:=0) (n:=off) hrd (by omega)) hrow) (hrd.drop (off+n*sz))
     have e4:((vs.toList.take off++(Builtin.zeroCells zv.cells n).toList++vs.toList.drop (off+(Builtin.zeroCells zv.cells n).toList.length)).toArray).toList.take b.n=(vs.toList.drop 0).take off++(Builtin.zeroCells zv.cells n).toList++(vs.toList.take b.r.flat.length).drop (off+n*sz):=by
      show(vs.toList.take off++(Builtin.zeroCells zv.cells n).toList++vs.toList.drop (off+(Builtin.zeroCells zv.cells n).toList.length)).take b.n=_
      rw[List.take_append,List.take_of_length_le (l:=vs.toList.take off++(Builtin.zeroCells zv.cells n).toList) (by rw[List.length_append,hzlen];simp;omega),List.drop_take,List.drop_zero,hzlen]
      congr 2
      rw[List.length_append,hzlen];simp;omega
     rw[e4];simpa using hw)
   have hsub: ∀j d,HS (H.set ⟨b.U,b.n,iw (j8 sz (nh zs) n) b.r b.n off (n*sz)⟩ k) j=some d→(if j=k then some (b.U,(iw (j8 sz (nh zs) n) b.r b.n off (n*sz)).flat) else HS H j)=some d:=by
    intro j d hj
    rcases jE hj with⟨q1,q2⟩|⟨q1,q2⟩
    ·rw[if_pos q1,q2]
    ·rw[if_neg q1];exact q2
   exact⟨A,β,fun _ h=>h,fun _ h=>.inl h,m1.sub hsub,m2.less hsub,LS⟩
 ·obtain⟨rfl,rfl,rfl,rfl⟩:=bW h4
  refine bk hO hL (fun d hd=>by cases hd) fun A Z w β ac ht=>?_
  have e1:=RdA.z_eq (aT (o:=⟨dst,.call ⟨.builtin .clear,#[y],#[U]⟩,ty,pos,af,gd⟩) hmy h1 hv ht)
  exact⟨_,qe (by rw[e1];exact hempty _ _ _),LS⟩
 ·obtain⟨rfl,rfl,rfl,rfl⟩:=bW h4
  refine bk hO hL (fun d hd=>by cases hd) fun A Z w β ac ht=>?_
  obtain⟨b,c,e1,_⟩:=RdA.ev_eq (aT (o:=⟨dst,.call ⟨.builtin .clear,#[y],#[U]⟩,ty,pos,af,gd⟩) hmy h1 hv ht)
  exact⟨_,qe (by rw[e1];exact hempty _ _ _),LS⟩
theorem Bh {mx:Bool}{k:IntKind}{A Z:Nat→Prop}{w:World}{β:Nat→Pl}: ∀ {vs:List XV}{us:List Value}{a r:Int},ub A Z w β us vs→Td mx k vs a=some r→(us.foldlM (if mx then Builtin.max2 else Builtin.min2) (.int k a)).run P w=.ok (.int k r) w
 |[],[],a,r,_,h=>by
  have h:some a=some r:=h
  injection h with h
  subst h;rfl
 |[],_::_,a,r,hr,_=>by have:=hr.1;simp at this
 |_::_,[],a,r,hr,_=>by have:=hr.1;simp at this
 |v::vs,y::us,a,r,hr,h=>by
  obtain⟨k',b,q,h2⟩:=iC (show xI v (fun k' b=>bT (Nat.beq (kN k) (kN k')) (Td mx k vs (bI mx (bI (oX a b) b a) (bI (oX b a) b a))))=some r from h)
  subst q
  obtain⟨hk,h3⟩:=bp h2
  have hk:=IH hk
  subst hk
  have e1:y=.int k b:=RdA.i_eq (hr.2 0 y (.c (.i k b)) rfl rfl)
  subst e1
  have hrr:ub A Z w β us vs:=⟨by have:=hr.1;simpa using this,fun j v x hv hx=>hr.2 (j+1) v x (by simpa using hv) (by simpa using hx)⟩
  have ih:=Bh hrr h3
  rw[List.foldlM_cons]
  cases mx with
  |true=>
   have e2:Builtin.max2 (.int k a) (.int k b)=pure (.int k (bI true (bI (oX a b) b a) (bI (oX b a) b a))):=by
    show pure (Value.int k (if b>a then b else a))=pure (Value.int k (bI (oX a b) b a))
    rw[fh,iR]
    by_cases hab:a<b
    ·rw[if_pos (by omega),if_pos (by simpa using hab)]
    ·rw[if_neg (by omega),if_neg (by simpa using hab)]
   show(do let s' ←Builtin.max2 (.int k a) (.int k b);List.foldlM Builtin.max2 s' us:Go.Sem Value).run P w=_
   rw[e2]
   exact ih
  |false=>
   have e2:Builtin.min2 (.int k a) (.int k b)=pure (.int k (bI false (bI (oX a b) b a) (bI (oX b a) b a))):=by
    show pure (Value.int k (if b<a then b else a))=pure (Value.int k (bI (oX b a) b a))
    rw[fh,iR]
    by_cases hab:b<a
    ·rw[if_pos hab,if_pos (by simpa using hab)]
    ·rw[if_neg hab,if_neg (by simpa using hab)]
   show(do let s' ←Builtin.min2 (.int k a) (.int k b);List.foldlM Builtin.min2 s' us:Go.Sem Value).run P w=_
   rw[e2]
   exact ih
theorem Qc (_hT:gW (TS m L T)) (hO:fS H) (hL:fZ N H) {ys:Array Operand}{ts:Array TypeId}{y:Operand}{zs:List Operand}{xo:XO}{xs:List XO}{x:XV}(hys:ys.toList=y::zs) (h1:cO m y=some xo) (h2:gP (cO m) zs=some xs)
 (h:KI true xo xs call L T N H=some (.mk x N' H' g)):eP P ops ⟨dst,.call ⟨.builtin .max,ys,ts⟩,ty,pos,af,gd⟩ (TS m L T) N H x N' H' g:=by
 obtain⟨v,hv,h⟩:=aK h
 obtain⟨k,a,q1,h3⟩:=iC h
 subst q1
 obtain⟨vs,hvs,h4⟩:=aK h3
 obtain⟨r,hr,h5⟩:=aK h4
 obtain⟨rfl,rfl,rfl,rfl⟩:=bW h5
 have hmem: ∀z∈ys.toList,z∈(Op.call ⟨.builtin .max,ys,ts⟩).operands:=fun z hz=>by have:=Array.mem_toList_iff.1 hz;simp[Op.operands,Call.operands,this]
 refine bk hO hL trivial fun A Z w β ac ht=>?_
 have e1:ac.eval y=.int k a:=RdA.i_eq (aT (o:=⟨dst,.call ⟨.builtin .max,ys,ts⟩,ty,pos,af,gd⟩) (hmem y (by rw[hys];simp)) h1 hv ht)
 have hrd:=jG (o:=⟨dst,.call ⟨.builtin .max,ys,ts⟩,ty,pos,af,gd⟩) (fun z hz=>hmem z (by rw[hys];simp[hz])) h2 hvs ht
 refine⟨.int k r,?_,.i _ _⟩
 have hrun:=Bh (P:=P) (mx:=true) hrd hr
 have e2:(ys.map ac.eval).toList=ac.eval y::zs.map ac.eval:=by rw[Array.toList_map,hys];rfl
 show(do let r ←Builtin.max_ ts ty (ys.map ac.eval);pure (Next.value r):Go.Sem Next).run P w=_
 unfold Builtin.max_
 rw[e2,e1,Sem.run_bind]
 show((List.foldlM Builtin.max2 (.int k a) (zs.map ac.eval)).run P w).andThen _=_
 rw[show(List.foldlM Builtin.max2 (Value.int k a) (zs.map ac.eval)).run P w=.ok (.int k r) w from hrun]
 rfl
theorem Qp (_hT:gW (TS m L T)) (hO:fS H) (hL:fZ N H) {ys:Array Operand}{ts:Array TypeId}{y:Operand}{zs:List Operand}{xo:XO}{xs:List XO}{x:XV}(hys:ys.toList=y::zs) (h1:cO m y=some xo) (h2:gP (cO m) zs=some xs)
 (h:KI false xo xs call L T N H=some (.mk x N' H' g)):eP P ops ⟨dst,.call ⟨.builtin .min,ys,ts⟩,ty,pos,af,gd⟩ (TS m L T) N H x N' H' g:=by
 obtain⟨v,hv,h⟩:=aK h
 obtain⟨k,a,q1,h3⟩:=iC h
 subst q1
 obtain⟨vs,hvs,h4⟩:=aK h3
 obtain⟨r,hr,h5⟩:=aK h4
 obtain⟨rfl,rfl,rfl,rfl⟩:=bW h5
 have hmem: ∀z∈ys.toList,z∈(Op.call ⟨.builtin .min,ys,ts⟩).operands:=fun z hz=>by have:=Array.mem_toList_iff.1 hz;simp[Op.operands,Call.operands,this]
 refine bk hO hL trivial fun A Z w β ac ht=>?_
 have e1:ac.eval y=.int k a:=RdA.i_eq (aT (o:=⟨dst,.call ⟨.builtin .min,ys,ts⟩,ty,pos,af,gd⟩) (hmem y (by rw[hys];simp)) h1 hv ht)
 have hrd:=jG (o:=⟨dst,.call ⟨.builtin .min,ys,ts⟩,ty,pos,af,gd⟩) (fun z hz=>hmem z (by rw[hys];simp[hz])) h2 hvs ht
 refine⟨.int k r,?_,.i _ _⟩
 have hrun:=Bh (P:=P) (mx:=false) hrd hr
 have e2:(ys.map ac.eval).toList=ac.eval y::zs.map ac.eval:=by rw[Array.toList_map,hys];rfl
 show(do let r ←Builtin.min_ ts ty (ys.map ac.eval);pure (Next.value r):Go.Sem Next).run P w=_
 unfold Builtin.min_
 rw[e2,e1,Sem.run_bind]
 show((List.foldlM Builtin.min2 (.int k a) (zs.map ac.eval)).run P w).andThen _=_
 rw[show(List.foldlM Builtin.min2 (Value.int k a) (zs.map ac.eval)).run P w=.ok (.int k r) w from hrun]
 rfl
theorem IN (s:ByteArray) (j:Nat):s[j]? =s.data.toList[j]? :=by
 rw[Array.getElem?_toList]
 by_cases h:j<s.size
 ·have h2:j<s.data.size:=h
  rw[getElem?_pos s j h,Array.getElem?_eq_getElem h2];rfl
 ·have h2: ¬j<s.data.size:=h
  rw[getElem?_neg s j h,Array.getElem?_eq_none (by omega)]
theorem NF (_hT:gW (TS m L T)) (hO:fS H) (hL:fZ N H) {U:TypeId}{s:ByteArray}{y:Operand}{xo:XO}{x:XV}(hU:P.underlying U=some .string) (h1:cO m y=some xo)
 (h:FM s xo call L T N H=some (.mk x N' H' g)):eP P ops ⟨dst,.index U (.const (.string s)) y,ty,pos,af,gd⟩ (TS m L T) N H x N' H' g:=by
 obtain⟨v,hv,h⟩:=aK h
 obtain⟨k,j,q1,h3⟩:=lK h
 subst q1
 obtain⟨b,hb,h4⟩:=aK h3
 obtain⟨rfl,rfl,rfl,rfl⟩:=bW h4
 refine bk hO hL trivial fun A Z w β ac ht=>?_
 have e1:ac.eval y=.int k (j:Int):=RdA.i_eq (aT (o:=⟨dst,.index U (.const (.string s)) y,ty,pos,af,gd⟩) (by simp[Op.operands]) h1 hv ht)
 have e2:ac.eval (.const (.string s))=.string s:=rfl
 have e3:s[j]? =some b:=by rw[IN];exact hb
 refine⟨.int .u8 b.toNat,?_,.i _ _⟩
 simp[execOp,Instr.index,e1,e2,asIntOf,run_underlying hU,e3]
theorem QZ (_hT:gW (TS m L T)) (hO:fS H) (hL:fZ N H) {U:TypeId}{n sz:Nat}{y z:Operand}{xo yo:XO}{x:XV}(hU:SP P U=some (n,sz)) (h1:cO m y=some xo) (h2:cO m z=some yo)
 (h:Mw n sz xo yo call L T N H=some (.mk x N' H' g)):eP P ops ⟨dst,.indexAddr U y z,ty,pos,af,gd⟩ (TS m L T) N H x N' H' g:=by
 obtain⟨v,hv,h⟩:=aK h
 obtain⟨v2,hv2,h⟩:=aK h
 obtain⟨k,off,q1,h3⟩:=kg h
 obtain⟨ki,j,q2,h4⟩:=lK h3
 subst q1 q2
 obtain⟨hj,h5⟩:=bp h4
 obtain⟨rfl,rfl,rfl,rfl⟩:=bW h5
 rw[b9] at hj
 refine bk hO hL trivial fun A Z w β ac ht=>?_
 obtain⟨e1,hk⟩:=RdA.p_eq (aT (o:=⟨dst,.indexAddr U y z,ty,pos,af,gd⟩) (by simp[Op.operands]) h1 hv ht)
 have e2:ac.eval z=.int ki (j:Int):=RdA.i_eq (aT (o:=⟨dst,.indexAddr U y z,ty,pos,af,gd⟩) (by simp[Op.operands]) h2 hv2 ht)
 unfold SP at hU
 split at hU
 case h_2=>cases hU
 rename_i n' el hul
 cases hinf:P.info? el with
 |none=>rw[hinf] at hU;cases hU
 |some inf=>
  rw[hinf] at hU
  simp at hU
  obtain⟨q1,q2⟩:=hU
  subst q1
  have hso: ∀w,(sizeOf el).run P w=.ok sz w:=fun w=>by unfold sizeOf typeInfo;simp[program,Sem.run,hinf,q2]
  have hj0:(0:Int)≤(j:Int):=by omega
  have hj1:(j:Int)<(n':Int):=by omega
  refine⟨.pointer (some ⟨(β k).b,off+j*sz,none⟩),?_,.p _ _ hk⟩
  simp[execOp,Instr.indexAt,e1,e2,asIntOf,run_underlying hul,Instr.sureAddr,hj0,hso,er,hj]
end
section
variable {P:Program}{ops:Array Oper}{o:Oper}{TT:TX}{m N:Nat}{L:LX}{T:Tr XV}{H:Tr Bx}{x:XV}
variable {N':Nat}{H':Tr Bx}{g:Lg}{call:fb}
theorem kX {α β:Type}{f:α→β}{x:Option α}{y:β}(h:x.map f=some y): ∃v,x=some v∧f v=y:=by
 cases x with
 |none=>cases h
 |some v=>injection h with h;exact⟨v,rfl,h⟩
theorem Eu {α:Type}{a:Array α}{x:α}(h:a.toList=[x]):a= #[x]:=by
 apply Array.ext';exact h
theorem KV {α:Type}{a:Array α}{x y:α}(h:a.toList=[x,y]):a= #[x,y]:=by
 apply Array.ext';exact h
theorem DR (hT:gW (TS m L T)) (hO:fS H) (hL:fZ N H) (hcall:iQ P call) {k:jB}(hc:rm P m o.op=some k) (h:k call L T N H=some (.mk x N' H' g)):eP P ops o (TS m L T) N H x N' H' g:=by
 obtain⟨dst,op,ty,pos,af,gd⟩:=o
 change rm P m op=some k at hc
 cases op
 case move y=>obtain⟨xo,h1,rfl⟩:=ew hc;exact Oa hT hO hL h1 h
 case assign y=>obtain⟨xo,h1,rfl⟩:=ew hc;exact IQ hT hO hL h1 h
 case pick c y z=>
  unfold rm at hc
  dsimp only at hc
  split at hc
  ·rename_i co h1
   obtain⟨xo,yo,h2,h3,rfl⟩:=iu hc
   exact O3 hT hO hL h1 h2 h3 h
  ·cases hc
 case alloc U=>obtain⟨zs,h1,rfl⟩:=kX hc;exact K2 hO hL h1 h
 case box U y=>obtain⟨xo,h1,rfl⟩:=ew hc;exact PR hT hO hL h1 h
 case build U ps=>
  unfold rm at hc
  dsimp only at hc
  split at hc
  ·rename_i pl zs h1 h2
   obtain⟨qs,h3,rfl⟩:=kX hc
   exact L3 hT hO hL h1 h2 h3 h
  ·cases hc
 case buildSlice U n ps=>
  unfold rm at hc
  dsimp only at hc
  split at hc
  ·rename_i e sz by_ zs h1
   cases hb:Nat.ble (n*sz) 10000 with
   |false=>rw[hb] at hc;cases hc
   |true=>
    rw[hb] at hc
    obtain⟨qs,h3,rfl⟩:=kX hc
    exact Rg hT hO hL h1 (dt.1 hb) h3 h
  ·cases hc
 case load U y=>
  unfold rm at hc
  dsimp only at hc
  split at hc
  ·rename_i n h1;obtain⟨xo,h2,rfl⟩:=ew hc;exact Sa hT hO hL h1 h2 h
  ·rename_i n h1;obtain⟨xo,h2,rfl⟩:=ew hc;exact QE hT hO hL h1 h2 h
  ·cases hc
 case store U a y=>
  unfold rm at hc
  dsimp only at hc
  split at hc
  ·rename_i q n h1;obtain⟨xo,yo,h2,h3,rfl⟩:=iu hc;exact Te hT hO hL h1 h2 h3 h
  ·cases hc
 case nilCheck y=>obtain⟨xo,h1,rfl⟩:=ew hc;exact Pr hT hO hL h1 h
 case binOp op U y z yt=>
  unfold rm at hc
  dsimp only at hc
  split at hc
  ·rename_i h1
   split at hc
   ·obtain⟨xo,yo,h2,h3,rfl⟩:=iu hc;exact Qw hT hO hL h1 h2 h3 h
   ·obtain⟨xo,yo,h2,h3,rfl⟩:=iu hc;exact Rm hT hO hL h1 h2 h3 h
   ·cases hc
  ·rename_i k1 h1
   split at hc
   ·rename_i f hf;obtain⟨xo,yo,h2,h3,rfl⟩:=iu hc;exact QK hT hO hL hf h2 h3 h
   ·split at hc
    ·rename_i f hf;obtain⟨xo,yo,h2,h3,rfl⟩:=iu hc;exact P6 hT hO hL hf h2 h3 h
    ·cases hc
  ·rename_i e h1
   split at hc
   ·obtain⟨xo,h2,rfl⟩:=ew hc;exact Si hT hO hL h1 h2 h
   ·obtain⟨xo,h2,rfl⟩:=ew hc;exact Qr hT hO hL h1 h2 h
   ·cases hc
  ·cases hc
 case unOp op t y=>
  cases op<;>first|(obtain⟨xo,h1,rfl⟩:=ew hc;exact Ry hT hO hL h1 h)|(obtain⟨xo,h1,rfl⟩:=ew hc;exact RC hT hO hL h1 h)|cases hc
 case convert s d y=>
  unfold rm at hc
  dsimp only at hc
  split at hc
  ·rename_i k0 k1 h1 h2;obtain⟨xo,h3,rfl⟩:=ew hc;exact Og hT hO hL h1 h2 h3 h
  ·cases hc
 case makeFunc fn first cs=>
  cases fn with
  |func f=>
   unfold rm at hc
   dsimp only at hc
   cases hb:first.isEmpty with
   |false=>rw[hb] at hc;cases hc
   |true=>
    rw[hb] at hc
    obtain⟨xs,h1,rfl⟩:=kX hc
    exact Rh hT hO hL hb h1 h
  |_=>cases hc
 case makeSlice U y z=>
  unfold rm at hc
  dsimp only at hc
  split at hc
  ·rename_i e sz by_ zs h1;obtain⟨xo,yo,h2,h3,rfl⟩:=iu hc;exact RU hT hO hL h1 h2 h3 h
  ·cases hc
 case slice U y lo hi mx=>
  unfold rm at hc
  dsimp only at hc
  split at hc
  ·rename_i sz xo lo' hi' h1 h2 h3 h4 h5
   injection hc with hc
   subst hc
   have:mx=none:=by
    cases mx with
    |none=>rfl
    |some z=>cases hz:cO m z with
     |none=>simp[xv,hz] at h5
     |some w=>simp[xv,hz] at h5
   subst this
   exact Qx hT hO hL h1 h2 h3 h4 h
  ·rename_i sz xo lo' ho Mo h1 h2 h3 h4 h5
   injection hc with hc
   subst hc
   cases hi with
   |none=>simp[xv] at h4
   |some zh=>
    cases mx with
    |none=>simp[xv] at h5
    |some zM=>
     have g4:cO m zh=some ho:=by
      cases hz:cO m zh with
      |none=>simp[xv,hz] at h4
      |some w=>simp[xv,hz] at h4;rw[h4]
     have g5:cO m zM=some Mo:=by
      cases hz:cO m zM with
      |none=>simp[xv,hz] at h5
      |some w=>simp[xv,hz] at h5;rw[h5]
     exact QP hT hO hL h1 h2 h3 g4 g5 h
  ·cases hc
 case fieldAddr U y f=>
  unfold rm at hc
  dsimp only at hc
  split at hc
  ·rename_i off h1;obtain⟨xo,h2,rfl⟩:=ew hc;exact TM hT hO hL h1 h2 h
  ·cases hc
 case field U y f=>
  unfold rm at hc
  dsimp only at hc
  split at hc
  ·rename_i off n h1;obtain⟨xo,h2,rfl⟩:=ew hc;exact Rb hT hO hL h1 h2 h
  ·rename_i off n h1;obtain⟨xo,h2,rfl⟩:=ew hc;exact Ss hT hO hL h1 h2 h
  ·cases hc
 case indexAddr U y z=>
  unfold rm at hc
  dsimp only at hc
  split at hc
  ·rename_i sz h1;obtain⟨xo,yo,h2,h3,rfl⟩:=iu hc;exact SW hT hO hL h1 h2 h3 h
  ·split at hc
   ·rename_i n sz h1;obtain⟨xo,yo,h2,h3,rfl⟩:=iu hc;exact QZ hT hO hL h1 h2 h3 h
   ·cases hc
 case index U y z=>
  cases y with
  |const v=>
   cases v with
   |string b=>
    unfold rm at hc
    dsimp only at hc
    split at hc
    ·rename_i h1;obtain⟨xo,h2,rfl⟩:=ew hc;exact NF hT hO hL h1 h2 h
    ·cases hc
   |_=>cases hc
  |_=>cases hc
 case extract y i=>obtain⟨xo,h1,rfl⟩:=ew hc;exact QD hT hO hL h1 h
 case call c=>
  obtain⟨callee,ys,ts⟩:=c
  cases callee with
  |value f=>
   cases f with
   |func f=>
    obtain⟨xs,h1,rfl⟩:=kX (show(gP (cO m) ys.toList).map (Bb f)=some k from hc)
    exact OU hT hO hL hcall h1 h
   |tmp t=>
    unfold rm at hc
    dsimp only at hc
    split at hc
    ·rename_i fo xs h1 h2
     injection hc with hc
     subst hc
     exact Px hT hO hL hcall h1 h2 h
    ·cases hc
   |_=>cases hc
  |invoke r mt=>cases hc
  |builtin b=>
   cases b
   case len=>
    unfold rm at hc
    dsimp only at hc
    split at hc
    ·rename_i y U h1 h2
     split at hc
     ·rename_i sz h3
      obtain⟨xo,h4,rfl⟩:=ew hc
      rw[Eu h1,Eu h2]
      exact PV hT hO hL h3 h4 h
     ·cases hc
    ·cases hc
   case cap=>
    unfold rm at hc
    dsimp only at hc
    split at hc
    ·rename_i y U h1 h2
     split at hc
     ·rename_i sz h3
      obtain⟨xo,h4,rfl⟩:=ew hc
      rw[Eu h1,Eu h2]
      exact Sj hT hO hL h3 h4 h
     ·cases hc
    ·cases hc
   case append=>
    unfold rm at hc
    dsimp only at hc
    split at hc
    ·rename_i y z U W h1 h2
     split at hc
     ·rename_i e sz by_ zs h3
      cases hb:Nat.beq U W with
      |false=>
       rw[hb] at hc
       dsimp only[cond_false] at hc
       split at hc
       ·rename_i kk h6
        obtain⟨xo,yo,h4,h5,rfl⟩:=iu hc
        rw[KV h1,KV h2]
        exact RA hT hO hL h3 h6 h4 h5 h
       ·cases hc
      |true=>
       rw[hb] at hc
       obtain⟨xo,yo,h4,h5,rfl⟩:=iu hc
       have e:=Nat.eq_of_beq_eq_true hb
       subst e
       rw[KV h1,KV h2]
       exact Qq hT hO hL h3 h4 h5 h
     ·cases hc
    ·cases hc
   case max=>
    unfold rm at hc
    dsimp only at hc
    split at hc
    ·rename_i y r h1
     split at hc
     ·rename_i xo xs h2 h3
      injection hc with hc
      subst hc
      exact Qc hT hO hL h1 h2 h3 h
     ·cases hc
    ·cases hc
   case min=>
    unfold rm at hc
    dsimp only at hc
    split at hc
    ·rename_i y r h1
     split at hc
     ·rename_i xo xs h2 h3
      injection hc with hc
      subst hc
      exact Qp hT hO hL h1 h2 h3 h
     ·cases hc
    ·cases hc
   case clear=>
    unfold rm at hc
    dsimp only at hc
    split at hc
    ·rename_i y U h1 h2
     split at hc
     ·rename_i e sz by_ zs h3
      obtain⟨xo,h4,rfl⟩:=ew hc
      rw[Eu h1,Eu h2]
      exact Qz hT hO hL h3 h4 h
     ·cases hc
    ·cases hc
   all_goals cases hc
 all_goals cases hc
end
section
variable {P:Program}{ops:Array Oper}{o:Oper}{TT:TX}{n m N:Nat}{L:LX}{T:Tr XV}{H:Tr Bx}{x:XV}
variable {N':Nat}{H':Tr Bx}{g:Lg}{call:fb}
theorem zk {A Z:Nat→Prop}{w:World}{β:Nat→Pl}{a:Act}{gq:Option (XO×Bool)}{b:Bool}(hc:cG m ops o=some gq) (hb:PG gq L T=some b) (ht:qv A Z w β (dE ops o) (TS m L T) a):oM o ops a=b:=by
 unfold cG at hc
 unfold oM Region.wanted
 cases hg:o.guard with
 |none=>
  rw[hg] at hc
  injection hc with hc
  subst hc
  injection hb with hb
 |some gb=>
  obtain⟨gi,gv⟩:=gb
  rw[hg] at hc
  dsimp only at hc⊢
  unfold yielded
  cases h1:(ops[gi]?).bind (·.dst) with
  |none=>rw[h1] at hc;cases hc
  |some t=>
   rw[h1] at hc
   obtain⟨xo,h2,h3⟩:=kX hc
   subst h3
   try dsimp only
   obtain⟨v,hv,hb⟩:=aK (show oO (xo.get L T) (fun v=>@XV.rec (fun _=>Option Bool) (fun a=>aB a fun b=>some (b==gv)) (fun _ _=>none) (fun _=>none) (some false) v)=some b from hb)
   have hl:dE ops o t:=List.mem_append_right _ (by rw[hg];simp[h1])
   obtain⟨u,e,hr⟩:=ht t v hl (AN h2 hv)
   simp only[Option.bind_some,e]
   cases v with
   |c a'=>
    obtain⟨c,q,hb⟩:=rV hb
    subst q
    have hu:u=.bool c:=RdA.b_eq hr
    subst hu
    injection hb with hb
   |a _ _=>cases hb
   |t _=>cases hb
   |u=>
    have hu:u=undef:=hr
    subst hu
    injection hb with hb
theorem Be (t d:Nat) (y:XV) (L:LX):sL t ((d,y)::L)=if d=t then some y else sL t L:=by
 show @Bool.rec (fun _=>Option XV) (sL t L) (some y) (Nat.beq d t)=_
 rw[lQ]
theorem vk {d:Option Nat}{κ:LX→Tr XV→Ro}: ∃L' T',Ea d (LE m d) x L T κ=κ L' T'∧ ∀t y,TS m L' T' t=some y→wT d x (TS m L T) t=some y:=by
 cases d with
 |none=>exact⟨L,T,rfl,fun t y h=>h⟩
 |some d=>
  show ∃L' T',@Bool.rec (fun _=>Ro) (κ L (T.set x d)) (κ ((d,x)::L) T) (m.testBit d)=κ L' T'∧_
  cases hb:m.testBit d with
  |true=>
   refine⟨(d,x)::L,T,rfl,fun t y h=>?_⟩
   unfold TS at h
   unfold wT TS
   cases ht:m.testBit t with
   |true=>
    rw[ht] at h
    have h:sL t ((d,x)::L)=some y:=h
    rw[Be] at h
    by_cases e:d=t
    ·rw[if_pos e] at h;rw[if_pos (by rw[e])];exact h
    ·rw[if_neg e] at h;rw[if_neg (by simpa using e)];exact h
   |false=>
    rw[ht] at h
    rw[if_neg (by intro e;injection e with e;subst e;rw[hb] at ht;cases ht)]
    exact h
  |false=>
   refine⟨L,T.set x d,rfl,fun t y h=>?_⟩
   unfold TS at h
   unfold wT TS
   cases ht:m.testBit t with
   |true=>
    rw[ht] at h
    rw[if_neg (by intro e;injection e with e;subst e;rw[hb] at ht;cases ht)]
    exact h
   |false=>
    rw[ht] at h
    rcases Tr.set_get T d t h with⟨e1,e2⟩|⟨e1,e2⟩
    ·subst e1;rw[if_pos rfl,e2]
    ·rw[if_neg (by intro e;injection e with e;exact e1 e.symm)];exact e2
theorem yN {i:XI}(h:Kb P n m ops o=some i):(∀t,o.dst=some t→t<n)∧i.dst=o.dst∧i.lo=LE m o.dst∧cG m ops o=some i.g∧(rm P m o.op=some i.k∨i.k=Mb):=by
 unfold Kb at h
 cases hb:M3 n o.dst with
 |false=>rw[hb] at h;cases h
 |true=>
  rw[hb] at h
  dsimp only[cond] at h
  split at h
  ·rename_i gq k h1 h2
   injection h with h
   subst h
   refine⟨fun t ht=>?_,rfl,rfl,h1,.inl h2⟩
   rw[ht] at hb
   exact b9.1 hb
  ·rename_i gq h1 h2
   injection h with h
   subst h
   refine⟨fun t ht=>?_,rfl,rfl,h1,.inr rfl⟩
   rw[ht] at hb
   exact b9.1 hb
  ·cases h
structure Did (P:Program) (ops:Array Oper) (o:Oper) (n m:Nat) (L:LX) (T:Tr XV) (N:Nat) (H:Tr Bx) (e:Evt) (L':LX) (T':Tr XV) (H':Tr Bx) (g:Lg):Prop where
 run:FQ P ops o (TS m L T) e∨y6 ops o (TS m L T) e
 nm:e.N=N
 le:N≤e.N'
 tmp: ∀t y,TS m L' T' t=some y→wT o.dst e.x (TS m L T) t=some y
 tok:gW (TS m L' T')
 hok:fS H'
 hlt:fZ e.N' H'
 sub: ∀k c,e.Hv k=some c→HS H k=some c
 put: ∀k c,HS H' k=some c→e8 (HS H) e.Hv e.Hv' k=some c
 foot:Foot N e.N' H H' e.Hv e.Hv' g
 dn: ∀t,o.dst=some t→t<n
theorem qU (hT:gW (TS m L T)) (hO:fS H) (hL:fZ N H) (hcall:iQ P call) {i:XI}(hi:Kb P n m ops o=some i) {κ:LX→Tr XV→Nat→Tr Bx→Lg→Ro}(hr:KS call i L T N H κ≠ .no):
 ∃e L' T' H' g,KS call i L T N H κ=κ L' T' e.N' H' g∧Did P ops o n m L T N H e L' T' H' g:=by
 obtain⟨hdn,hd,hlo,hg,hk⟩:=yN hi
 have htok: ∀ {x:XV}{L' T'},sM x→(∀t y,TS m L' T' t=some y→wT o.dst x (TS m L T) t=some y)→gW (TS m L' T'):=by
  intro x L' T' hx h t y ht
  have:=h t y ht
  unfold wT at this
  split at this
  ·injection this with e;subst e;exact hx
  ·exact hT t y this
 cases hgd:PG i.g L T with
 |none=>
  exfalso
  apply hr
  show @Option.rec Bool (fun _=>Ro) .no _ (PG i.g L T)=.no
  rw[hgd]
 |some b=>
  cases b with
  |false=>
   have e1:KS call i L T N H κ=Ea i.dst i.lo .u L T fun L T=>κ L T N H .p:=by
    show @Option.rec Bool (fun _=>Ro) .no _ (PG i.g L T)=_
    rw[hgd]
   rw[hd,hlo] at e1
   obtain⟨L',T',e2,hts⟩:=vk (m:=m) (x:=.u) (L:=L) (T:=T) (d:=o.dst) (κ:=fun L T=>κ L T N H .p)
   have hf:Foot N N H H e0 e0 .p:=⟨rfl,rfl,rfl⟩
   refine⟨⟨.u,e0,e0,N,N⟩,L',T',H,.p,e1.trans e2,.inr ⟨rfl,rfl,fun V A β a w ht=>?_⟩,rfl,Nat.le_refl _,hts,htok (x:=.u) trivial hts,hO,hL,fun k c h=>(by cases h),fun k c h=>(by show e8 (HS H) e0 e0 k=_;rw[wm];exact h),hf,hdn⟩
   exact zk hg hgd ht
  |true=>
   have e1:KS call i L T N H κ= @Option.rec Rs (fun _=>Ro) .no (fun r=>@Rs.rec (fun _=>Ro) (fun x N' H' g=>Ea i.dst i.lo x L T fun L T=>κ L T N' H' g) r) (i.k call L T N H):=by
    show @Option.rec Bool (fun _=>Ro) .no _ (PG i.g L T)=_
    rw[hgd]
   cases hkk:i.k call L T N H with
   |none=>
    exfalso
    apply hr
    rw[e1,hkk]
   |some r=>
    obtain⟨x,N',H',g⟩:=r
    have hk:rm P m o.op=some i.k:=by
     rcases hk with hk|hk
     ·exact hk
     ·rw[hk] at hkk;cases hkk
    have e2:KS call i L T N H κ=Ea i.dst i.lo x L T fun L T=>κ L T N' H' g:=by rw[e1,hkk]
    rw[hd,hlo] at e2
    obtain⟨L',T',e3,hts⟩:=vk (m:=m) (x:=x) (L:=L) (T:=T) (d:=o.dst) (κ:=fun L T=>κ L T N' H' g)
    obtain⟨h1,h2,h3,h4,Hv,Hv',h5,h6,h7,h8⟩:=DR (ops:=ops) hT hO hL hcall hk hkk
    exact⟨⟨x,Hv,Hv',N,N'⟩,L',T',H',g,e2.trans e3,.inl fun V A β a w hA hm ht=>⟨zk hg hgd ht,h5 V A β a w hA hm ht⟩,rfl,h1,hts,htok h2 hts,h3,h4,h6,h7,h8,hdn⟩
theorem StX.less {V A:Nat→Prop}{T1 T2:TX}{H1 H2:HF}{β:Nat→Pl}{a:Act}{w:World}(h:StX V A n T1 H1 β a w) (hT: ∀t y,T2 t=some y→T1 t=some y) (hH: ∀k c,H2 k=some c→H1 k=some c):StX V A n T2 H2 β a w:=by
 refine⟨h.mem.sub hH,h.dfr,h.siz,fun t y ht=>?_⟩
 obtain⟨v,e,hr⟩:=h.tmp t y (hT t y ht)
 have hk2:Keep (Zs V H1 β) (Zs V H2 β) w w:=⟨Nat.le_refl _,fun _ _ _=>rfl,fun b _ hb=>hb.imp id fun⟨k,hk,e⟩=>⟨k,(by
  cases q:H2 k with
  |none=>exact absurd q hk
  |some c=>rw[hH k c q];simp),e⟩⟩
 exact⟨v,e,hr.mono hk2 (fun _ h=>h) (fun _ _=>rfl)⟩
def Ends (_P:Program) (n _m:Nat) (V A:Nat→Prop) (N:Nat) (H:HF) (β:Nat→Pl) (w:World) (N':Nat) (T':TX) (H':HF) (a':Act) (w':World):Prop:=
 ∃A' β',(∀k,A k→A' k)∧(∀k,A' k→Ad A N N' k)∧Hst N N' A H β w H' β' w'∧StX V A' n T' H' β' a' w'
theorem tI {A A':Nat→Prop}{N N1 N2:Nat}(hA: ∀k,A k→ ¬(N≤k∧k<N2)) (h: ∀k,A' k→Ad A N N1 k) (hle:N≤N1): ∀k,A' k→ ¬(N1≤k∧k<N2):=by
 intro k hk ⟨g1,g2⟩
 rcases h k hk with h|h
 ·exact hA k h ⟨by omega,g2⟩
 ·omega
theorem Gn {A A':Nat→Prop}{N N1 N2:Nat}(h: ∀k,A' k→Ad A N N1 k) (h1:N≤N1) (h2:N1≤N2): ∀k,Ad A' N1 N2 k→Ad A N N2 k:=by
 intro k hk
 rcases hk with hk|hk
 ·rcases h k hk with g|g
  ·exact .inl g
  ·exact .inr ⟨g.1,by omega⟩
 ·exact .inr ⟨by omega,hk.2⟩
theorem v7 {t:Nat}{y:XV}(h:TS m [] T t=some y):TS m L T t=some y:=by
 unfold TS at h⊢
 cases hb:m.testBit t with
 |true=>rw[hb] at h;cases h
 |false=>rw[hb] at h;exact h
theorem pa (hcall:iQ P call) {Q:Exit→Act→World→Prop}: ∀(l:List Oper) (is:List XI) (L:LX) (T:Tr XV) (N:Nat) (H:Tr Bx),gP (Kb P n m ops) l=some is→gW (TS m L T)→fS H→fZ N H→Bg call is L T N H≠ .no→
 ∃T' N' H',Bg call is L T N H=.n T' N' H'∧N≤N'∧gW (TS m [] T')∧fS H'∧fZ N' H'∧ ∀V A β a w,(∀k,A k→ ¬(N≤k∧k<N'))→StX V A n (TS m L T) (HS H) β a w→
  (∀a' w',Ends P n m V A N (HS H) β w N' (TS m [] T') (HS H') a' w'→Q .normal a' w')→wpList P ops Q l a w
 |[],is,L,T,N,H,hl,hT,hO,hL,_=>by
  injection hl with hl
  subst hl
  refine⟨T,N,H,rfl,Nat.le_refl _,fun t y h=>hT t y (v7 h),hO,hL,fun V A β a w _ hst hQ=>?_⟩
  exact hQ a w ⟨A,β,fun _ h=>h,fun _ h=>.inl h,Hst.refl,hst.less (fun t y h=>v7 h) (fun _ _ h=>h)⟩
 |o::l,is,L,T,N,H,hl,hT,hO,hL,hr=>by
  unfold gP at hl
  split at hl
  ·cases hl
  ·rename_i i hi
   split at hl
   ·cases hl
   ·rename_i is' his
    injection hl with hl
    subst hl
    have e0':Bg call (i::is') L T N H=KS call i L T N H fun L T N H _=>Bg call is' L T N H:=rfl
    rw[e0'] at hr
    obtain⟨e,L',T',H',g,e1,hd⟩:=qU (ops:=ops) hT hO hL hcall hi hr
    rw[e1] at hr
    obtain⟨T2,N2,H2,e2,k1,k2,k3,k4,k5⟩:=pa hcall (Q:=Q) l is' L' T' e.N' H' his hd.tok hd.hok hd.hlt hr
    refine⟨T2,N2,H2,e0'.trans (e1.trans e2),Nat.le_trans hd.le k1,k2,k3,k4,fun V A β a w hA hst hQ=>?_⟩
    unfold wpList
    have hf: ∀k,A k→ ¬(e.N≤k∧k<e.N'):=fun k hk hh=>hA k hk ⟨by rw[←hd.nm];exact hh.1,Nat.lt_of_lt_of_le hh.2 k1⟩
    refine hst.step hd.run (fun t y _ h=>h) hd.sub hf hd.dn (fun A' β' a' w' g1 g2 g3 g4=>?_)
    rw[hd.nm] at g2 g3
    refine k5 V A' β' a' w' (tI hA g2 hd.le) (g4.less hd.tmp hd.put) (fun a2 w2 ⟨A2,β2,f1,f2,f3,f4⟩=>?_)
    refine hQ a2 w2 ⟨A2,β2,fun k hk=>f1 k (g1 k hk),fun k hk=>Gn g2 hd.le k1 k (f2 k hk),?_,f4⟩
    exact((g3.less hd.put).wide (Nat.le_refl _) k1).trans g1 (f3.wide hd.le (Nat.le_refl _))
end
end Go.Proofs.YtacopbfkmnpfgaaGreat
