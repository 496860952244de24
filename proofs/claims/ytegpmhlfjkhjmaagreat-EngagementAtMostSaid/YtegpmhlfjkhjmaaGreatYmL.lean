/-Data:a slice of nothing,slices from a place on,chains of two and three appends. -/
import Derived.Test.YtegpmhlfjkhjmaaGreatYmK
namespace Go.Proofs.YtegpmhlfjkhjmaaGreat
open Go Go.RowKit
variable {f1 f2 f3:Array Edge}{ops:Array Oper}{B:BF}{k:Ci}{c:Cv}{us us' xs ys ys1 ys2 zs zs':List CellD}{N' Ue by_ i1 i2 m n n' q1 q2 sz t1 t2 ty1:Nat}{o:Oper}{h x x0 y y1 y2:Operand}{P:Program}{p q:Pt}{p1 p2:String}{T:TF}{U e:TypeId}
variable {ty:TypeId}{pos:String}{af:Array Edge}{g:Option (Nat×Bool)}{dst:Option Nat}
theorem o9:type_of% @Rat.div_mul_cancel:=@Rat.div_mul_cancel
section
variable {P:Program}{ops:Array Oper}{T:TF}{B:BF}
theorem kj 
 (hU:tG P U=some (e,m,by_,zs)) (hg:gd ops ⟨dst,.buildSlice U 0 #[],ty,pos,af,g⟩ T=some true):Sem P ops ⟨dst,.buildSlice U 0 #[],ty,pos,af,g⟩ T B (.r (.f 0 [])):=by
 refine⟨pS rfl,fun V β a w hs=>⟨ez hs hg,?_⟩⟩
 obtain⟨hu,i,z,hi,hz,hsz,hby,hzl,hzr⟩:=iW hU
 have hexec:(execOp a.eval ⟨dst,.buildSlice U 0 #[],ty,pos,af,g⟩).run P w=.ok (.value (.slice (some ⟨w.heap.size,0,none⟩) 0 0)) (w.alloc (.cells #[] e)):=by
  have hso: ∀w,(sizeOf e).run P w=.ok i.size w:=fun w=>by unfold sizeOf typeInfo;simp[program,Sem.run,hi]
  simp[execOp,Instr.buildSlice,run_underlying hu,hso,Instr.fill,newRow]
  grind
 unfold Gives
 rw[hexec]
 exact⟨⟨⟨_,rfl⟩,.s0 _ _ (by decide)⟩,(eQ _ w).alloc (cg _) _⟩
theorem n8 
 (hU:tG P U=some (e,m,by_,zs)) (hx:cG T x=some (.f 0 us)) (hy:cG T y=some (.v (.c (.s 0 ys))))
 (hg:gd ops ⟨dst,.call ⟨.builtin .append,#[x,y],#[U,U]⟩,ty,pos,af,g⟩ T=some true):
 Sem P ops ⟨dst,.call ⟨.builtin .append,#[x,y],#[U,U]⟩,ty,pos,af,g⟩ T B (.r (.f 0 us)):=by
 refine⟨pS rfl,fun V β a w hs=>⟨ez hs hg,?_⟩⟩
 obtain⟨⟨A,e1⟩,hxr⟩:(∃A,a.eval x=.slice A 0 0)∧RdV V w (a.eval x) (.c (.s 0 us)):=aD hs (x:=x) (by simp[Op.operands,Call.operands]) hx
 have h2:RdC V w (a.eval y) (.s 0 ys):=aD hs (x:=y) (by simp[Op.operands,Call.operands]) hy
 have hys:ys=[]:=by
  generalize a.eval y=vy at h2
  cases h2 with
  |s0=>rfl
  |s b off c sz n' xs' cv h0=>omega
 subst hys
 obtain⟨news,hsrc,_⟩:=rS hU h2 (by simp)
 obtain⟨hu,i,z,hi,hz,hsz,hby,_,hzr⟩:=iW hU
 subst hsz
 have hn1:news=[]:=jQ.1 (by rw[hsrc.newsLen,Nat.zero_mul])
 subst hn1
 rw[e1] at hxr
 have hrun:(Builtin.append_ #[U,U] ty #[.slice A 0 0,a.eval y]).run P w=.ok (.slice A 0 0) w:=by
  cases A with
  |none=>rcases hsrc.kind with⟨e',hk⟩|hk<;>simp[Builtin.append_,run_underlying hu,sizeOf,typeInfo,hi,hsrc.len,hsrc.cells]<;>rfl
  |some A=>
   rcases hsrc.kind with⟨e',hk⟩|hk<;>simp[Builtin.append_,run_underlying hu,sizeOf,typeInfo,hi,hsrc.len,hsrc.cells]<;>rfl
 have hexec:(execOp a.eval ⟨dst,.call ⟨.builtin .append,#[x,y],#[U,U]⟩,ty,pos,af,g⟩).run P w=.ok (.value (.slice A 0 0)) w:=by
  simp only[execOp,resolve,invoke,builtin,fb,f6,fk,qV,oJ,qe,e1]
  rw[hrun]
  rfl
 unfold Gives
 rw[hexec]
 exact⟨⟨⟨A,rfl⟩,hxr⟩,eQ _ w⟩
theorem GD {q:Nat}
 (hU:tG P U=some (e,m,by_,zs)) (hx:cG T x=some (.f n us)) (hy:cG T y=some (.v (.c (.s q ys)))) (hus:us.length=n*m) (hyl:ys.length=q*m) (hm:0<m) (hn0:0<n) (hbytes:(n+q)*by_≤140737488355328) (h63:n+q≤maxLen)
 (hg:gd ops ⟨dst,.call ⟨.builtin .append,#[x,y],#[U,U]⟩,ty,pos,af,g⟩ T=some true):
 Sem P ops ⟨dst,.call ⟨.builtin .append,#[x,y],#[U,U]⟩,ty,pos,af,g⟩ T B (.r (.v (.c (.s (n+q) (us++ys))))):=
 tH hU hx (fun V β a w hs=>rS hU (aD hs (x:=y) (by simp[Op.operands,Call.operands]) hy) hyl) hus hyl hm hn0 hbytes h63 hg
theorem rG {ki:IntKind}{j:Int}
 (hU:tF P U=some m) (hx:cG T x=some (.v (.c (.s n xs)))) (hh:cG T h=some (.v (.c (.i ki j)))) (hj:0≤j∧j≤n) (hl:xs.length=n*m) (hn':n-j.toNat=n') (hu:xs.drop (j.toNat*m)=us) (hg:gd ops ⟨dst,.slice U x (some h) none none,ty,pos,af,g⟩ T=some true):
 Sem P ops ⟨dst,.slice U x (some h) none none,ty,pos,af,g⟩ T B (.r (.v (.c (.s n' us)))):=
 bL hg (pS rfl) (fun V β a w hs=>by
  subst hn'
  have h1:=aD hs (x:=x) (by simp[Op.operands]) hx
  have h2:=fT (aD hs (x:=h) (by simp[Op.operands]) hh)
  generalize hv:a.eval x=v at h1
  have h1:RdC V w v (.s n xs):=h1
  unfold tF at hU
  split at hU
  case h_2=>cases hU
  rename_i el hul
  cases hinf:P.info? el with
  |none=>rw[hinf] at hU;cases hU
  |some inf=>
   rw[hinf] at hU
   simp at hU
   have hso: ∀w,(sizeOf el).run P w=.ok m w:=fun w=>by unfold sizeOf typeInfo;simp[program,Sem.run,hinf,hU]
   have hgen: ∀(A:Option Addr) (c:Nat),a.eval x=.slice A n c→n≤c→(execOp a.eval ⟨dst,.slice U x (some h) none none,ty,pos,af,g⟩).run P w=.ok (.value (.slice (if c=j.toNat then A else A.map (·.add (j.toNat*m))) (n-j.toNat) (c-j.toNat))) w:=by
    intro A c e hnc
    have hjc:j≤c:=by omega
    have hjn:=hj.2
    simp[execOp,Instr.sliceAt,Instr.slice,run_underlying hul,e,h2,Instr.sliceBounds,Instr.sliceBound,asIntOf,hj.1,hjn,hso]
   cases h1 with
   |s0 A c hc=>
    have hj0:j.toNat=0:=by omega
    refine⟨_,hgen A c hv (by omega),?_⟩
    rw[←hu,hj0]
    simp
    exact .s0 _ c hc
   |s b off c sz _ _ cv h0 hnc hcm hlen hb hav hc hr=>
    have hsz:sz=m:=by
     rw[hl] at hlen
     exact(FB h0 hlen).symm
    subst hsz
    refine⟨_,hgen _ c hv hnc,?_⟩
    rcases gO j.toNat n with hjn|hjn
    ·rw[if_neg (by omega),show((some ⟨b,off,none⟩:Option Addr).map (·.add (j.toNat*sz)))=some ⟨b,off+j.toNat*sz,none⟩ from by simp[Addr.add]]
     have hmul:j.toNat*sz+(n-j.toNat)*sz=n*sz:=by rw[←oh];congr 1;omega
     refine .s b (off+j.toNat*sz) (c-j.toNat) sz (n-j.toNat) us (fun q=>cv (j.toNat*sz+q)) (by omega) (by omega) (by omega) ?_ hb hav (fun q hq=>?_) (fun q u hq=>?_)
     ·grind
     ·grind
     grind
    ·have e9:n-j.toNat=0:=by omega
     rw[e9,←hu,pk (by rw[hlen];exact pf _ hjn)]
     exact .s0 _ _ (by omega))
end
theorem yj (h:Sem P ops o T B (.r (.v (.c (.s n us))))) (e1:n=n') (e2:us=us'):Sem P ops o T B (.r (.v (.c (.s n' us')))):=by subst e1 e2;exact h
def nxB (ops:Array Oper) (i j:Nat):Bool:=match ops[j]? with
 |none=>false
 |some o=>(cU o).any (Nat.beq i)
theorem J6 {i j:Nat}(h:nxB ops i j=true) (ho:ops[j]? =some o):i∈cU o:=by
 unfold nxB at h;rw[ho] at h;exact kS.1 h
section
variable {P:Program}{ops:Array Oper}{tail:List Oper}{K:St→Prop}{m n:Nat}{tm0 tm:List (Nat×DV)}{bx:List (Nat×TypeId×List CellD)}
theorem H6 {i3 t3 q3 ty3:Nat}{p3:String}{ys3:List CellD}{y3:Operand}
 (hU:tG P U=some (e,sz,by_,zs)) (hm:0<sz) (hb:cG (fun s=>aF s tm) x0=some (.f 0 us))
 (o1:ops[i1]? =some ⟨some t1,.call ⟨.builtin .append,#[x0,y1],#[U,U]⟩,ty1,p1,f1,none⟩) (o2:ops[i2]? =some ⟨some t2,.call ⟨.builtin .append,#[.tmp t1,y2],#[U,U]⟩,Ue,p2,f2,none⟩) (o3:ops[i3]? =some ⟨some t3,.call ⟨.builtin .append,#[.tmp t2,y3],#[U,U]⟩,ty3,p3,f3,none⟩)
 (lt:(Nat.blt i1 m&&Nat.blt i2 m&&Nat.blt i3 m)=true) (d1:cG (fun s=>aF s tm) y1=some (.v (.c (.s q1 ys1)))) (d2:cG (fun s=>aF s tm) y2=some (.v (.c (.s q2 ys2)))) (d3:cG (fun s=>aF s tm) y3=some (.v (.c (.s q3 ys3))))
 (l1:ys1.length=q1*sz) (l2:ys2.length=q2*sz) (l3:ys3.length=q3*sz) (b0:(qF ops [i1,i2,i3] m i1 x0&&qF ops [i1,i2,i3] m i1 y1&&qF ops [i1,i2,i3] m i2 y2&&qF ops [i1,i2,i3] m i3 y3)=true)
 (nx:(nxB ops i1 i2&&nxB ops i2 i3)=true) (hq:0<q1) (w1:aF t1 tm0=none) (w2:aF t2 tm0=none) (w3:aF t3 tm0=none) (v1:aF t1 bx=none) (v2:aF t2 bx=none) (v3:aF t3 bx=none)
 (hN:q1+q2+q3=N') (hz:ys1++ys2++ys3=zs') (hbytes:N'*by_≤140737488355328) (h63:N'≤maxLen)
 (hk: ∀c rest,N'≤c→c≤maxLen→rest.length=(c-N')*sz→dl P ops tail ⟨n,(t3,.o t3 N' c)::tm,(t3,e,zs'++rest)::bx⟩ K):
 ∃(U e:TypeId) (sz by_:Nat) (zs:List CellD) (x0:Operand) (ch:List AppS),ChainA P ops [i1,i2,i3] m U e sz by_ zs x0 tm0 tm bx ch∧
  ∀c rest,nA ch≤c→c≤maxLen→rest.length=(c-nA ch)*sz→dl P ops tail ⟨n,Bq c ch++tm,Fx e rest ch++bx⟩ K:=by
 simp only[dL] at lt b0 nx
 have hN2:nA [⟨i1,t1,y1,q1,ys1⟩,⟨i2,t2,y2,q2,ys2⟩,⟨i3,t3,y3,q3,ys3⟩]=N':=by show q1+(q2+(q3+0))=N';omega
 have hz2:uA [⟨i1,t1,y1,q1,ys1⟩,⟨i2,t2,y2,q2,ys2⟩,⟨i3,t3,y3,q3,ys3⟩]=zs':=by show ys1++(ys2++(ys3++[]))=zs';rw[←hz];simp
 refine⟨U,e,sz,by_,zs,x0,[⟨i1,t1,y1,q1,ys1⟩,⟨i2,t2,y2,q2,ys2⟩,⟨i3,t3,y3,q3,ys3⟩],⟨hU,hm,⟨us,hb⟩,rfl,?_,?_,?_,?_,?_,?_,by rw[hN2];exact⟨hbytes,h63⟩⟩,fun c rest g1 g2 g3=>?_⟩
 ·intro l a r h
  match l,h with
  |[],h=>injection h with h _;subst h;exact⟨_,_,_,o1⟩
  |[x],h=>injection h with h h';injection h' with h' _;subst h h';exact⟨_,_,_,o2⟩
  |[x,y],h=>injection h with h h';injection h' with h' h'';injection h'' with h'' _;subst h h' h'';exact⟨_,_,_,o3⟩
  |x::y::z'::l,h=>have:=congrArg List.length h;simp at this<;>omega
 ·simp_all
 ·grind
 ·grind
 ·intro l a b r h o ho
  match l,h with
  |[],h=>injection h with h h';injection h' with h' _;subst h h';exact J6 nx.1 ho
  |[x],h=>injection h with h h';injection h' with h' h'';injection h'' with h'' _;subst h h' h'';exact J6 nx.2 ho
  |x::y::l,h=>have:=congrArg List.length h;simp at this<;>omega
 ·grind
 ·rw[hN2] at g1 g3
  show dl P ops tail ⟨n,[(t3,.o t3 (nA _) c)]++tm,[(t3,e,uA _++rest)]++bx⟩ K
  grind
theorem IK 
 (hU:tG P U=some (e,sz,by_,zs)) (hm:0<sz) (hb:cG (fun s=>aF s tm) x0=some (.f 0 us))
 (o1:ops[i1]? =some ⟨some t1,.call ⟨.builtin .append,#[x0,y1],#[U,U]⟩,ty1,p1,f1,none⟩) (o2:ops[i2]? =some ⟨some t2,.call ⟨.builtin .append,#[.tmp t1,y2],#[U,U]⟩,Ue,p2,f2,none⟩)
 (lt:(Nat.blt i1 m&&Nat.blt i2 m)=true) (d1:cG (fun s=>aF s tm) y1=some (.v (.c (.s q1 ys1)))) (d2:cG (fun s=>aF s tm) y2=some (.v (.c (.s q2 ys2))))
 (l1:ys1.length=q1*sz) (l2:ys2.length=q2*sz) (b0:(qF ops [i1,i2] m i1 x0&&qF ops [i1,i2] m i1 y1&&qF ops [i1,i2] m i2 y2)=true)
 (nx:nxB ops i1 i2=true) (hq:0<q1) (w1:aF t1 tm0=none) (w2:aF t2 tm0=none) (v1:aF t1 bx=none) (v2:aF t2 bx=none)
 (hN:q1+q2=N') (hz:ys1++ys2=zs') (hbytes:N'*by_≤140737488355328) (h63:N'≤maxLen)
 (hk: ∀c rest,N'≤c→c≤maxLen→rest.length=(c-N')*sz→dl P ops tail ⟨n,(t2,.o t2 N' c)::tm,(t2,e,zs'++rest)::bx⟩ K):
 ∃(U e:TypeId) (sz by_:Nat) (zs:List CellD) (x0:Operand) (ch:List AppS),ChainA P ops [i1,i2] m U e sz by_ zs x0 tm0 tm bx ch∧
  ∀c rest,nA ch≤c→c≤maxLen→rest.length=(c-nA ch)*sz→dl P ops tail ⟨n,Bq c ch++tm,Fx e rest ch++bx⟩ K:=by
 have hN2:nA [⟨i1,t1,y1,q1,ys1⟩,⟨i2,t2,y2,q2,ys2⟩]=N':=by show q1+(q2+0)=N';omega
 have hz2:uA [⟨i1,t1,y1,q1,ys1⟩,⟨i2,t2,y2,q2,ys2⟩]=zs':=by show ys1++(ys2++[])=zs';rw[←hz];simp
 refine⟨U,e,sz,by_,zs,x0,[⟨i1,t1,y1,q1,ys1⟩,⟨i2,t2,y2,q2,ys2⟩],⟨hU,hm,⟨us,hb⟩,rfl,?_,?_,?_,?_,?_,?_,by rw[hN2];exact⟨hbytes,h63⟩⟩,fun c rest g1 g2 g3=>?_⟩
 ·intro l a r h
  match l,h with
  |[],h=>injection h with h _;subst h;exact⟨_,_,_,o1⟩
  |[x],h=>injection h with h h';injection h' with h' _;subst h h';exact⟨_,_,_,o2⟩
  |x::y::l,h=>have:=congrArg List.length h;simp at this<;>omega
 ·simp_all
 ·grind
 ·grind
 ·intro l a b r h o ho
  match l,h with
  |[],h=>injection h with h h';injection h' with h' _;subst h h';exact J6 nx ho
  |x::l,h=>have:=congrArg List.length h;simp at this<;>omega
 ·grind
 ·rw[hN2] at g1 g3
  show dl P ops tail ⟨n,[(t2,.o t2 (nA _) c)]++tm,[(t2,e,uA _++rest)]++bx⟩ K
  grind
end
def rP (a b:Rat):Pt:=⟨a,0,b,0,0⟩
theorem Wb {a b:Rat}(ha:Rz 1 a) (hb:Rz 1 b):GP (rP a b):=GP.rat (ha.mono (by decide)) (hb.mono (by decide))
def jT (k:Ci):Pt:=fV k.x (-1) k.y 0 k.q
def jE (k:Ci):Pt:=fV k.x 1 k.y 0 k.q
theorem n9:Rz 1 (1:Rat):=⟨by rw[show(1:Rat).num=1 from rfl];exact y6 (by decide) (by decide),by rw[show((1:Rat).den:Int)=1 from rfl];exact Sz.one (by decide)⟩
theorem sj (hk:GK k) (h0:0<k.q):GP (jT k):=xf (hk.x.mono (by decide)) (n9.neg.mono (by decide)) (hk.y.mono (by decide)) (dJ (by decide)) (hk.q.mono (by decide)) h0 (fun e=>absurd e.1 (by decide))
theorem r8 (hk:GK k) (h0:0<k.q):GP (jE k):=xf (hk.x.mono (by decide)) (n9.mono (by decide)) (hk.y.mono (by decide)) (dJ (by decide)) (hk.q.mono (by decide)) h0 (fun e=>absurd e.1 (by decide))
def zP5:List CellD:=M8++M8++M8++M8++M8
theorem Oa (c:Cv) (r:List CellD):(aC c++r).take 66=aC c:=by rw[←ai c];exact List.take_left
theorem abY {q:Rat}(h0:0<q) (hs:je q=true):rt q≠0:=by
 intro h
 have hs2:=hs
 unfold je DX at hs2
 simp only[dL,beq_iff_eq] at hs2
 have hd:bY (q.den:Int)≠0:=by have:=yO (den_pos q);omega
 have hdq:((bY (q.den:Int):Int):Rat)≠0:=by simpa using hd
 have h1:((bY q.num:Int):Rat)=0:=by
  have h2:rt q*((bY (q.den:Int):Int):Rat)=((bY q.num:Int):Rat):=by unfold rt;rw[Bf,o9 hdq]
  grind
 have h3:bY q.num=0:=by simpa using h1
 have h4:=hs2.1
 rw[h3,pF] at h4
 have h5:q=0:=Rat.num_eq_zero.1 h4.symm
 grind
def aw (k:Ci):List Cv:=[.arc k false (jT k) (jE k),.arc k false (jE k) (jT k)]
theorem PP (h:cP p q≠0):(gz c (gz c [] p) q).length=2:=by
 unfold gz
 grind
theorem AW {l:List Pt}(h:cP p q≠0):2≤(cz c ([p,q]++l)).length:=by
 have h1:=(Dv (c:=c) l (gz c (gz c [] p) q)).1
 rw[PP h] at h1
 exact h1
theorem Ed {q:Nat}
 (hU:tG P U=some (e,m,by_,zs)) (hx:cG T x=some .z) (hy:cG T y=some (.v (.c (.s q ys)))) (hq:q=0)
 (hg:gd ops ⟨dst,.call ⟨.builtin .append,#[x,y],#[U,U]⟩,ty,pos,af,g⟩ T=some true):
 Sem P ops ⟨dst,.call ⟨.builtin .append,#[x,y],#[U,U]⟩,ty,pos,af,g⟩ T B (.r .z):=by
 subst hq
 refine⟨pS rfl,fun V β a w hs=>⟨ez hs hg,?_⟩⟩
 have e1:a.eval x=.slice none 0 0:=aD hs (x:=x) (by simp[Op.operands,Call.operands]) hx
 have h2:RdC V w (a.eval y) (.s 0 ys):=aD hs (x:=y) (by simp[Op.operands,Call.operands]) hy
 have hys:ys=[]:=by
  generalize a.eval y=vy at h2
  cases h2 with
  |s0=>rfl
  |s b off c sz n' xs' cv h0=>omega
 subst hys
 obtain⟨news,hsrc,_⟩:=rS hU h2 (by simp)
 obtain⟨hu,i,z,hi,hz,hsz,hby,_,hzr⟩:=iW hU
 subst hsz
 have hn1:news=[]:=jQ.1 (by rw[hsrc.newsLen,Nat.zero_mul])
 subst hn1
 have hrun:(Builtin.append_ #[U,U] ty #[.slice none 0 0,a.eval y]).run P w=.ok (.slice none 0 0) w:=by
  rcases hsrc.kind with⟨e',hk⟩|hk<;>simp[Builtin.append_,run_underlying hu,sizeOf,typeInfo,hi,hsrc.len,hsrc.cells]<;>rfl
 have hexec:(execOp a.eval ⟨dst,.call ⟨.builtin .append,#[x,y],#[U,U]⟩,ty,pos,af,g⟩).run P w=.ok (.value (.slice none 0 0)) w:=by
  simp only[execOp,resolve,invoke,builtin,fb,f6,fk,qV,oJ,qe,e1]
  rw[hrun]
  rfl
 unfold Gives
 rw[hexec]
 exact⟨rfl,eQ _ w⟩
end Go.Proofs.YtegpmhlfjkhjmaaGreat
namespace Go.Proofs.YtegpmhlfjkhjmaaGreat
def uK (k:Fin 4):Bool:=k==0||k==1
def uF (k:Fin 4):Bool:=k==2||k==1
def Dn (u v:Bool) (n:Int):Int:=if u !=v then(if v then-1 else 1) else if u then-n else n
def BI (u v:Bool) (n:Int):Int:=if u !=v then(if u then-1 else 1) else if u then-n else n
def GM (a1 a2 a3:Int):Int:=if decide (a1<0) !=decide (a2<0) then(if decide (a2<0) then-1 else 1) else a3
def Oq (b:Int):Int:=if b=0 then 0 else if b>0 then 1 else 2
def Yu (n:Int):Int:=min 1 (max (-1) n)
def vx (b1 b2 b3:Int):Int:=if Oq b1≠Oq b2 then Yu (Oq b1-Oq b2) else Yu b3
def i3 (i:Fin 3):Int:=(i.val:Int)-1
def G6 (n1 n2 n3:Int):Bool:=(n2 !=0||n3==n1)&&(n1 !=0||n3== -n2)&&(n1 != -n2||n3==n1)
def uO (k l:Fin 4) (n:Int):Bool:=
 if k=0 then n==(if l=0 then 0 else 1) else if k=2 then n==(if l=2 then 0 else-1)
 else if l=0 then n== -1 else if l=2 then n==1 else true
set_option maxRecDepth 100000 in
theorem Pq: ∀(uf up uq:Bool) (i j l:Fin 3),G6 (i3 i) (i3 j) (i3 l)=true→
 GM (Dn up uf (i3 i)) (Dn uq uf (i3 j)) (Dn up uq (i3 l))=vx (BI up uf (i3 i)) (BI uq uf (i3 j)) (BI up uq (i3 l)):=by decide+kernel
def cwR (kf kp kt:Fin 4) (n1 n2 n3:Int):Bool:=
 decide (GM (Dn (uF kf) (uF kf) 0) (Dn (uF kp) (uF kf) (-n1)) (Dn (uF kf) (uF kp) n1)≤0)&&
 decide (GM (Dn (uF kp) (uF kf) (-n1)) (Dn (uF kt) (uF kf) (-n2)) (Dn (uF kp) (uF kt) (-n3))≤0)
def cwP (kf kp kt:Fin 4) (n1 n2 n3:Int):Bool:=
 decide (vx (BI (uK kp) (uK kt) n3) (BI (uK kf) (uK kt) (-n2)) (BI (uK kp) (uK kf) n1)≤0)
set_option maxRecDepth 100000 in
theorem Vt: ∀(kf kp kt:Fin 4) (i j l:Fin 3),G6 (i3 i) (i3 j) (i3 l)=true→uO kp kf (i3 i)=true→uO kt kf (i3 j)=true→uO kp kt (i3 l)=true→
 cwR kf kp kt (i3 i) (i3 j) (i3 l)=cwP kf kp kt (i3 i) (i3 j) (i3 l):=by decide+kernel
def ad3 (uf up ut:Bool) (n1 n2 n3:Int):Bool:=
 decide (GM (Dn uf uf 0) (Dn up uf n1) (Dn uf up (-n1))≤0)&&decide (GM (Dn up uf n1) (Dn ut uf n2) (Dn up ut n3)≤0)
def adU (uf up ut:Bool) (n1 n2 n3:Int):Bool:=decide (vx (BI up uf n1) (BI ut uf n2) (BI up ut n3)≤0)
set_option maxRecDepth 100000 in
theorem SQ: ∀(uf up ut:Bool) (i j l:Fin 3),G6 (i3 i) (i3 j) (i3 l)=true→ad3 uf up ut (i3 i) (i3 j) (i3 l)=adU uf up ut (i3 i) (i3 j) (i3 l):=by decide+kernel
end Go.Proofs.YtegpmhlfjkhjmaaGreat
namespace Go.Proofs.YtegpmhlfjkhjmaaGreat
open Go Go.RowKit
variable {w:Bool}{k:Ci}{c:Cv}{l:Ln}{f o p q t:Pt}{a a1 a2 b b1 b2 d v x y:Rat}
def pX (p:Pt):Re:=xB p.a1 p.b1 p.c
def pY (p:Pt):Re:=xB p.a2 p.b2 p.c
theorem cm (h:GP p):0≤p.c:=yY h.v
theorem oc (hp:0≤p.c) (hq:0≤q.c):cx p q=aT (pX p-pX q):=r5 hp hq
theorem si (hp:0≤p.c) (hq:0≤q.c):cy p q=aT (pY p-pY q):=r5 hp hq
theorem oH (hp:0≤p.c) (v:Rat):mO p v=aT (pX p-Re.of v):=by
 unfold mO
 rw[iX (kZ hp)]
 exact congrArg aT (br fun n=>by unfold pX xB aB;simp only[aQ,aI,aR,bc];grind)
theorem CP (hp:0≤p.c) (v:Rat):sY p v=aT (pY p-Re.of v):=by
 unfold sY
 rw[iX (kZ hp)]
 exact congrArg aT (br fun n=>by unfold pY xB aB;simp only[aQ,aI,aR,bc];grind)
theorem ef (hp:0≤p.c) (hq:0≤q.c):cx q p= -cx p q:=by rw[oc hp hq,oc hq hp,vC]
theorem B8 (hp:0≤p.c):cx p p=0:=by rw[oc hp hp,sI]
theorem T5 {A B c:Rat}(hc:0≤c) (b1 b2 x y:Rat) (hA:A=Jv x y b1 b2 c) (hB:B=KE x y b1 b2):
 aT (aB A B (zc B c)-(xB x b1 c*xB x b1 c+xB y b2 c*xB y b2 c))=0:=by
 subst hA hB
 rw[show aB (Jv x y b1 b2 c) (KE x y b1 b2) (zc (KE x y b1 b2) c)=xB (Jv x y b1 b2 c) (KE x y b1 b2) c from rfl,qm,qm,qm]
 have h:=oE hc
 have e:Re.of (Jv x y b1 b2 c)+Re.of (KE x y b1 b2)*Re.rt c-((Re.of x+Re.of b1*Re.rt c)*(Re.of x+Re.of b1*Re.rt c)+(Re.of y+Re.of b2*Re.rt c)*(Re.of y+Re.of b2*Re.rt c))=Re.of (-(b1*b1+b2*b2))*(Re.rt c*Re.rt c-Re.of c):=br fun n=>by
  unfold Jv KE
  simp only[aQ,aI,aR,bc];grind
 rw[e,bH,h,pF]
def xw (k:Ci) (p:Pt):Re:=(pX p-Re.of k.x)*(pX p-Re.of k.x)+(pY p-Re.of k.y)*(pY p-Re.of k.y)-Re.of k.q
theorem Ez (a b c v:Rat):xB (a-v) b c=xB a b c-Re.of v:=br fun n=>by unfold xB aB;simp only[aQ,aI,aR,bc];grind
theorem VR (hp:0≤p.c):aT (aB (G5 k p) (DY k p) (zc (DY k p) p.c))=aT (xw k p):=by
 refine dV ?_
 have h:=T5 (A:=Jv (p.a1-k.x) (p.a2-k.y) p.b1 p.b2 p.c) (B:=DY k p) hp p.b1 p.b2 (p.a1-k.x) (p.a2-k.y) rfl rfl
 rw[←h]
 refine congrArg aT (br fun n=>?_)
 unfold xw pX pY
 rw[Ez,Ez]
 unfold G5 aB
 simp only[aQ,aI,aR,bc];grind
theorem G1 (hv:uU p.b1 p.b2 p.c=true):mr k p= -aT (xw k p):=by
 unfold mr
 rw[←VR (yY hv),PO (kZ (yY hv))]
 intro hb
 have h:=Pr hv (x:=p.a1-k.x) (y:=p.a2-k.y) hb
 rw[show zc (DY k p) p.c=p.c from by unfold zc;rw[if_neg hb]]
 grind
theorem Aw (hp:GP p):mr k p= -aT (xw k p):=G1 hp.v
theorem U5 (k:Ci) (p:Pt): -1≤mr k p∧mr k p≤1:=by have:=W4 (G5 k p) (DY k p) (zc (DY k p) p.c);unfold mr;omega
def OnK (k:Ci) (p:Pt):Prop:=GP p∧mr k p=0
theorem b5:(Cv.arc k w f t).supp p=true↔mr k p=0:=by
 show(mr k p==0)=true↔_
 simp
def kd (k:Ci) (p:Pt):Fin 4:=if sY p k.y>0 then 1 else if sY p k.y=0 then(if mO p k.x>0 then 0 else 2) else 3
theorem fP (k:Ci) (p:Pt):lj k p=uK (kd k p):=by
 unfold lj kd uK
 by_cases h:sY p k.y>0
 ·grind
 grind
section
variable {k:Ci}{p:Pt}(hq:0<k.q) (hp:OnK k p)
include hp
theorem bk:0≤p.c:=cm hp.1
theorem xM:aT (xw k p)=0:=by have h1:=Aw (k:=k) hp.1;rw[hp.2] at h1;omega
include hq
theorem PD (h:sY p k.y=0):mO p k.x≠0:=by
 intro h2
 rw[CP (bk hp)] at h
 rw[oH (bk hp)] at h2
 have e:Re.of k.q=((pX p-Re.of k.x)*(pX p-Re.of k.x)+(pY p-Re.of k.y)*(pY p-Re.of k.y))+ -xw k p:=br fun n=>by unfold xw;simp only[aQ,aI,aR,bc,bD];grind
 have h3:aT (Re.of k.q)=0:=by
  rw[e,dT _ (by rw[cj,xM hp];rfl),dT _ (by rw[bH,h,qN]),bH,h2,qN]
 rw[cV] at h3
 have:=AH.1 h3
 grind
end
theorem BN (p:Pt):pX p.flip= -pX p:=br fun n=>by
 show(xB (-p.a1) (-p.b1) p.c).s n=_
 unfold pX xB aB
 have:zc (-p.b1) p.c=zc p.b1 p.c:=by
  by_cases h:p.b1=0
  ·grind
  ·rw[oY h,oY (by grind)]
 simp only[aQ,aR,bc,bD];grind
theorem S2 (p:Pt):pY p.flip=pY p:=rfl
theorem De (hp:0≤p.c):mO p.flip k.mir.x= -mO p k.x:=by
 rw[oH (show 0≤p.flip.c from hp),oH hp,BN,←cj]
 exact congrArg aT (br fun n=>by show _+ -(-k.x)=_;simp only[aI,bc,bD];grind)
theorem Db (k:Ci) (p:Pt):sY p.flip k.mir.y=sY p k.y:=rfl
theorem nl (hp:0≤p.c) (hq:0≤q.c):cx p.flip q.flip= -cx p q:=by
 rw[oc (show 0≤p.flip.c from hp) (show 0≤q.flip.c from hq),oc hp hq,BN,BN,←cj]
 exact congrArg aT (br fun n=>by simp only[aI,bD];grind)
theorem tj (hq:0<k.q) (hp:OnK k p):lj k.mir p.flip=uF (kd k p):=by
 have h1:=De (k:=k) (bk hp)
 have h2:=PD hq hp
 unfold lj kd uF
 rw[h1,Db]
 by_cases h:sY p k.y>0
 ·grind
 grind
theorem fB (k:Ci) (p q:Pt):fJ k p q=Dn (lj k p) (lj k q) (cx p q):=rfl
def ov (k:Ci) (p q:Pt):Int:=BI (lj k p) (lj k q) (cx p q)
def sS (k:Ci) (f p:Pt):Int:=Oq (ov k p f)
def yA (k:Ci) (f p q:Pt):Int:=vx (ov k p f) (ov k q f) (ov k p q)
theorem s8 (k:Ci) (f p q:Pt):sB k f p q=GM (fJ k p f) (fJ k q f) (fJ k p q):=rfl
theorem fU {n:Int}(h: -1≤n∧n≤1): ∃i:Fin 3,n=i3 i:=by
 rcases(by omega:n= -1∨n=0∨n=1) with h|h|h
 ·exact⟨0,h⟩
 ·exact⟨1,h⟩
 ·exact⟨2,h⟩
theorem j6 (hf:0≤f.c) (hp:0≤p.c) (ht:0≤t.c):G6 (cx p f) (cx t f) (cx p t)=true:=by
 rw[oc hp hf,oc ht hf,oc hp ht]
 have e2:pX p-pX t=(pX p-pX f)+ -(pX t-pX f):=br fun n=>by simp only[aQ,aI,bD];grind
 unfold G6
 simp only[dL,sC,bne_iff_ne,beq_iff_eq]
 refine⟨⟨?_,?_⟩,?_⟩
 ·by_cases h:aT (pX t-pX f)=0
  ·right;rw[e2];exact dT _ (by rw[cj,h];rfl)
  grind
 ·by_cases h:aT (pX p-pX f)=0
  ·right;rw[e2,ng h,cj]
  grind
 ·by_cases h:aT (pX p-pX f)= -aT (pX t-pX f)
  ·right;rw[e2,jD (by rw[cj];exact h)]
  grind
theorem YU (X:Re):aT (X+X)=aT X:=jD rfl
theorem Dy {l:Pt}(hp:OnK k p) (hl:OnK k l) (h0:sY p k.y=0) (h1:mO p k.x>0):
 (sY l k.y=0∧mO l k.x>0∧cx p l=0)∨(¬(sY l k.y=0∧mO l k.x>0)∧cx p l=1):=by
 have cp:=bk hp
 have cl:=bk hl
 rw[CP cp] at h0
 rw[oH cp] at h1
 rw[CP cl,oH cl,oc cp cl]
 generalize hP:pX p-Re.of k.x=P at*
 generalize hL:pX l-Re.of k.x=L at*
 generalize hY:pY p-Re.of k.y=Y at*
 generalize hZ:pY l-Re.of k.y=Z at*
 have d:pX p-pX l=P-L:=by rw[←hP,←hL];exact br fun n=>by simp only[aI];grind
 rw[d]
 have w1:xw k p=P*P+Y*Y-Re.of k.q:=by rw[←hP,←hY];rfl
 have w2:xw k l=L*L+Z*Z-Re.of k.q:=by rw[←hL,←hZ];rfl
 have e:(P-L)*(P+L)=(Z*Z+(P*P+Y*Y-Re.of k.q))+(-(L*L+Z*Z-Re.of k.q)+ -(Y*Y)):=br fun n=>by simp only[aQ,aI,aR,bc,bD];grind
 have z1:aT (-(L*L+Z*Z-Re.of k.q)+ -(Y*Y))=0:=by
  rw[dT _ (by rw[cj,bH,h0];rfl),cj,←w2,xM hl];rfl
 have hprod:aT (P-L)*aT (P+L)=aT Z*aT Z:=by
  rw[←bH,e,dT _ z1,dT _ (by rw[←w1];exact xM hp),bH]
 have s2:(P-L)+(P+L)=P+P:=br fun n=>by simp only[aQ,aI];grind
 have hP1:aT (P+P)=1:=by rw[YU];have:=bJ P;omega
 have hPL:L=P+ -(P-L):=br fun n=>by simp only[aQ,aI,bD];grind
 have hPL2:L= -P+(P+L):=br fun n=>by simp only[aQ,bD];grind
 rcases bJ Z with c|c|c
 ·right
  refine⟨fun h=>by omega,?_⟩
  rcases bJ (P-L) with a|a|a
  ·exact a
  ·grind
  ·exfalso
   have:aT (P+L)= -1:=by grind
   have:=jD (x:=P-L) (y:=P+L) (by omega)
   grind
 ·rw[c] at hprod
  rcases bJ (P-L) with a|a|a
  ·right
   have h5:aT (P+L)=0:=by grind
   have:aT L= -aT P:=by rw[hPL2,dT _ h5,cj]
   omega
  ·left
   have:aT L=aT P:=by rw[hPL,dT _ (by rw[cj,a];rfl)]
   grind
  ·exfalso
   have h5:aT (P+L)=0:=by grind
   have:=dT (P-L) h5
   grind
 ·right
  refine⟨fun h=>by omega,?_⟩
  rcases bJ (P-L) with a|a|a
  ·exact a
  ·grind
  ·exfalso
   have:aT (P+L)= -1:=by grind
   have:=jD (x:=P-L) (y:=P+L) (by omega)
   grind
theorem Qq (_hp:0≤p.c):aT (xw k.mir p.flip)=aT (xw k p):=by
 refine congrArg aT (br fun n=>?_)
 unfold xw
 rw[BN,S2]
 simp only[Ci.mir,aQ,aI,aR,bc,bD];grind
theorem OnK.flip (hp:OnK k p):OnK k.mir p.flip:=by
 refine⟨hp.1.flip,?_⟩
 rw[Aw hp.1.flip,Qq (bk hp),xM hp];rfl
theorem Gi {l:Pt}(hp:OnK k p) (hl:OnK k l) (h0:sY p k.y=0) (h1:mO p k.x<0):
 (sY l k.y=0∧mO l k.x<0∧cx p l=0)∨(¬(sY l k.y=0∧mO l k.x<0)∧cx p l= -1):=by
 have h:=Dy hp.flip hl.flip (by rw[Db];exact h0) (by rw[De (bk hp)];omega)
 rw[Db,De (bk hl),nl (bk hp) (bk hl)] at h
 grind
theorem zd (hq:0<k.q) (hp:OnK k p):(kd k p=0∧sY p k.y=0∧mO p k.x>0)∨(kd k p=1∧sY p k.y>0)∨(kd k p=2∧sY p k.y=0∧mO p k.x<0)∨(kd k p=3∧sY p k.y<0):=by
 have h2:=PD hq hp
 unfold kd
 grind
theorem iv {l:Pt}(hq:0<k.q) (hp:OnK k p) (hl:OnK k l):uO (kd k p) (kd k l) (cx p l)=true:=by
 have R:=Dy hp hl
 have L:=Gi hp hl
 have R':=Dy hl hp
 have L':=Gi hl hp
 rw[ef (bk hp) (bk hl)] at R' L'
 rcases zd hq hp with⟨e1,a1,a2⟩|⟨e1,a1⟩|⟨e1,a1,a2⟩|⟨e1,a1⟩<;>rcases zd hq hl with⟨e2,b1,b2⟩|⟨e2,b1⟩|⟨e2,b1,b2⟩|⟨e2,b1⟩<;>rw[e1,e2]<;>simp[uO]
 all_goals first
  |(have h:=R a1 a2;omega)
  |(have h:=L a1 a2;omega)
  |(have h:=R' b1 b2;omega)
  |(have h:=L' b1 b2;omega)
theorem F2 (hf:GP f) (ht:GP t) (hp:GP p):(decide ((Cv.arc k false f t).ord f p≤0)&&decide ((Cv.arc k false f t).ord p t≤0))=decide (yA k f p t≤0):=by
 have cf:=cm hf
 have ct:=cm ht
 have cp:=cm hp
 show(decide (sB k f f p≤0)&&decide (sB k f p t≤0))=_
 have ht:=j6 cf cp ct
 obtain⟨i,hi⟩:=fU (fE p f)
 obtain⟨j,hj⟩:=fU (fE t f)
 obtain⟨l,hl⟩:=fU (fE p t)
 have h:=SQ (lj k f) (lj k p) (lj k t) i j l (by rw[←hi,←hj,←hl];exact ht)
 rw[←hi,←hj,←hl] at h
 rw[s8,s8,fB,fB,fB,fB,fB,B8 cf,ef cp cf]
 exact h
theorem Ei (hq:0<k.q) (hf:OnK k f) (ht:OnK k t) (hp:OnK k p):(decide ((Cv.arc k true f t).ord f p≤0)&&decide ((Cv.arc k true f t).ord p t≤0))=decide (yA k t p f≤0):=by
 have cf:=bk hf
 have ct:=bk ht
 have cp:=bk hp
 show(decide (sB k.mir f.flip f.flip p.flip≤0)&&decide (sB k.mir f.flip p.flip t.flip≤0))=_
 have h3:=j6 cf cp ct
 have m1:=iv hq hp hf
 have m2:=iv hq ht hf
 have m3:=iv hq hp ht
 obtain⟨i,hi⟩:=fU (fE p f)
 obtain⟨j,hj⟩:=fU (fE t f)
 obtain⟨l,hl⟩:=fU (fE p t)
 rw[hi] at m1
 rw[hj] at m2
 rw[hl] at m3
 have h:=Vt (kd k f) (kd k p) (kd k t) i j l (by rw[←hi,←hj,←hl];exact h3) m1 m2 m3
 rw[←hi,←hj,←hl] at h
 unfold cwR cwP at h
 rw[s8,s8,fB,fB,fB,fB,fB,nl cf cf,nl cp cf,nl cf cp,nl ct cf,nl cp ct,B8 cf,ef cp cf,Int.neg_zero,Int.neg_neg,tj hq hf,tj hq hp,tj hq ht,h]
 unfold yA ov
 rw[ef ct cf,fP,fP,fP]
theorem ZX (k:Ci) (f p q:Pt): -1≤yA k f p q∧yA k f p q≤1:=by unfold yA vx Yu;split<;>omega
theorem Ua (hf:GP f) (hp:GP p) (hq:GP q):(Cv.arc k false f t).ord p q=yA k f p q:=by
 show sB k f p q=_
 have ht:=j6 (cm hf) (cm hp) (cm hq)
 obtain⟨i,hi⟩:=fU (fE p f)
 obtain⟨j,hj⟩:=fU (fE q f)
 obtain⟨l,hl⟩:=fU (fE p q)
 have h:=Pq (lj k f) (lj k p) (lj k q) i j l (by rw[←hi,←hj,←hl];exact ht)
 rw[←hi,←hj,←hl] at h
 exact h
theorem QF (a b c:Rat):eL a b c≤eJ a b c:=by
 cases h:eu a b c with
 |true=>have hi:=LS h;exact fI.1 (gl (ex hi.1 hi.2))
 |false=>rw[(rL h).1,(rL h).2];exact qw _
theorem Sr (a b c:Rat):Bd (eL a b c)∧Bd (eJ a b c):=by
 cases h:eu a b c with
 |false=>rw[(rL h).1,(rL h).2];exact⟨Bd.zero,Bd.zero⟩
 |true=>
  have hle:=QF a b c
  have h2:=h
  unfold eu TQ at h2
  simp only[dL,sC] at h2
  unfold eL eJ at*
  rw[if_pos h,if_pos h] at*
  have h3:=Ej h2.1
  split
  ·exact⟨⟨h3.1,h3.2.1⟩,h3.2.2⟩
  ·rename_i g
   rw[if_neg g,if_neg g] at hle
   have h4:=LV (h2.2.resolve_left g).2.2.2.2
   unfold Bd
   omega
theorem acj (a b c:Rat):Bd (eL a b c):=(Sr a b c).1
theorem abt (a b c:Rat):Bd (eJ a b c):=(Sr a b c).2
theorem Bd.neg {x:Int}(h:Bd x):Bd (-x):=by unfold Bd at*;omega
theorem OR {lo hi:Int}{X:Re}(h:uS lo hi X):uS (-hi) (-lo) (-X):=by
 refine⟨lk (fun k=>?_) h.2,lk (fun k=>?_) h.1⟩
 ·simp only[aI,aR,bc,bD,ri];grind
 ·simp only[aI,aR,bc,bD,ri];grind
theorem WZ {x y:Int}(h:x≤y): -y≤ -x:=by omega
def BC (a b c v:Rat):Bool:=eu a b c&&jj v
def EJ (a b c v:Rat):Int:=if BC a b c v then aL (eL a b c) (eJ a b c) (-gH v) (-gL v) else 0
def Eh (a b c v:Rat):Int:=if BC a b c v then aH (eL a b c) (eJ a b c) (-gH v) (-gL v) else 0
def Js (a b c v:Rat):Bool:=BC a b c v&&xk (eL a b c+ -gH v) (eJ a b c+ -gL v)
section
variable {a b c v:Rat}
theorem E3 (h:BC a b c v=false):EJ a b c v=0∧Eh a b c v=0∧Js a b c v=false:=by unfold EJ Eh Js;rw[h];exact⟨rfl,rfl,rfl⟩
theorem FI (h:BC a b c v=true):EJ a b c v=aL (eL a b c) (eJ a b c) (-gH v) (-gL v)∧Eh a b c v=aH (eL a b c) (eJ a b c) (-gH v) (-gL v)∧Js a b c v=xk (eL a b c+ -gH v) (eJ a b c+ -gL v):=by unfold EJ Eh Js;rw[h];exact⟨rfl,rfl,rfl⟩
theorem Fe (a b c v:Rat):Bd (EJ a b c v):=by
 unfold EJ;split
 ·exact Ly (QF _ _ _) (WZ (Eb _))
 ·exact Bd.zero
theorem FO (a b c v:Rat):Bd (Eh a b c v):=by
 unfold Eh;split
 ·exact MJ (QF _ _ _) (WZ (Eb _))
 ·exact Bd.zero
theorem VI (h:Js a b c v=true):uS (EJ a b c v) (Eh a b c v) (aB a b c+ -Re.of v):=by
 have h0:=h
 unfold Js at h
 rw[dL] at h
 obtain⟨e1,e2,_⟩:=FI h.1
 rw[e1,e2]
 have h2:=h.1
 unfold BC at h2
 rw[dL] at h2
 exact N3 (LS h2.1) (OR (I3 h2.2)) h.2
end
section
variable (k:Ci) (p:Pt)
def RH:Int:=pL (EJ p.a1 p.b1 p.c k.x) (Eh p.a1 p.b1 p.c k.x) (EJ p.a1 p.b1 p.c k.x) (Eh p.a1 p.b1 p.c k.x)
def SR:Int:=pH (EJ p.a1 p.b1 p.c k.x) (Eh p.a1 p.b1 p.c k.x) (EJ p.a1 p.b1 p.c k.x) (Eh p.a1 p.b1 p.c k.x)
def UJ:Bool:=AU (EJ p.a1 p.b1 p.c k.x) (Eh p.a1 p.b1 p.c k.x) (EJ p.a1 p.b1 p.c k.x) (Eh p.a1 p.b1 p.c k.x) 4
def RJ:Int:=pL (EJ p.a2 p.b2 p.c k.y) (Eh p.a2 p.b2 p.c k.y) (EJ p.a2 p.b2 p.c k.y) (Eh p.a2 p.b2 p.c k.y)
def Qi:Int:=pH (EJ p.a2 p.b2 p.c k.y) (Eh p.a2 p.b2 p.c k.y) (EJ p.a2 p.b2 p.c k.y) (Eh p.a2 p.b2 p.c k.y)
def Xj:Bool:=AU (EJ p.a2 p.b2 p.c k.y) (Eh p.a2 p.b2 p.c k.y) (EJ p.a2 p.b2 p.c k.y) (Eh p.a2 p.b2 p.c k.y) 4
def smL:Int:=aL (RH k p) (SR k p) (RJ k p) (Qi k p)
def smH:Int:=aH (RH k p) (SR k p) (RJ k p) (Qi k p)
def smK:Bool:=xk (RH k p+RJ k p) (SR k p+Qi k p)
def rsL:Int:=aL (smL k p) (smH k p) (-gH k.q) (-gL k.q)
def rsH:Int:=aH (smL k p) (smH k p) (-gH k.q) (-gL k.q)
def rsK:Bool:=xk (smL k p+ -gH k.q) (smH k p+ -gL k.q)
def SU:Bool:=Js p.a1 p.b1 p.c k.x&&(Js p.a2 p.b2 p.c k.y&&jj k.q)
def KX:Bool:=SU k p&&(UJ k p&&Xj k p)
def Jr:Bool:=KX k p&&smK k p
def Ee:Bool:=Jr k p&&rsK k p
def VO:Bool:=Ee k p&&Oo (rsL k p) (rsH k p)
def VK:Int:=if Ee k p then Nc (rsL k p) (rsH k p) else 0
end
section
variable {k:Ci}{p:Pt}
theorem rO (h:Ee k p=false):VK k p=0∧VO k p=false:=by unfold VK VO;rw[h];exact⟨rfl,rfl⟩
theorem KU (h:Ee k p=true):VK k p=Nc (rsL k p) (rsH k p)∧VO k p=Oo (rsL k p) (rsH k p):=by unfold VK VO;rw[h];exact⟨rfl,rfl⟩
theorem v3z {c:Rat}:aB a b (zc b c)=aB a b c:=br fun n=>by
 unfold aB zc
 by_cases h:b=0
 ·subst h;simp only[aQ,aR,bc];grind
 ·rw[if_neg h]
theorem Vf (h:VO k p=true):VK k p=aT (xw k p):=by
 unfold VO at h
 rw[dL] at h
 obtain⟨h4,hs⟩:=h
 rw[(KU h4).1]
 unfold Ee Jr KX SU at h4
 simp only[dL] at h4
 obtain⟨⟨⟨⟨k1,k2,k3⟩,k4,k5⟩,k6⟩,k7⟩:=h4
 have i1:=VI k1
 have i2:=VI k2
 have j1:uS (RH k p) (SR k p) _:=Of i1 i1 k4
 have j2:uS (RJ k p) (Qi k p) _:=Of i2 i2 k5
 have j3:uS (smL k p) (smH k p) _:=N3 j1 j2 k6
 have j4:uS (rsL k p) (rsH k p) _:=N3 j3 (OR (I3 k3)) k7
 rw[LK j4 hs]
 refine congrArg aT (br fun n=>?_)
 unfold xw pX pY xB
 rw[v3z,v3z]
 simp only[aQ,aI,aR,bc,bD]
theorem MA:Bd (RH k p)∧Bd (SR k p):=⟨EW _ _ _ _,Ew _ _ _ _⟩
theorem LT:Bd (RJ k p)∧Bd (Qi k p):=⟨EW _ _ _ _,Ew _ _ _ _⟩
theorem SI:Bd (smL k p)∧Bd (smH k p):=⟨Ly (BE _ _ _ _) (BE _ _ _ _),MJ (BE _ _ _ _) (BE _ _ _ _)⟩
theorem aaA (hv:uU p.b1 p.b2 p.c=true) (h:VO k p=true): -VK k p=mr k p:=by rw[Vf h,G1 hv]
theorem ab7 (hv:uU p.b1 p.b2 p.c=true): -bF (G5 k p) (DY k p) p.c=mr k p:=by
 rw[iX (yY hv),G1 hv,←VR (yY hv),v3z]
end
def SW (l:Ln) (p:Pt):Re:=Re.of l.a*pX p+Re.of l.b*pY p-Re.of l.c
theorem WC:aB (vA l p) (vB l p) p.c=SW l p:=br fun n=>by
 unfold SW pX pY xB
 rw[v3z,v3z]
 unfold aB vA vB
 simp only[aQ,aI,aR,bc];grind
theorem P9 (hp:GP p):Bw l p=aT (SW l p):=by
 have hv:=hp.v
 have hc:=cm hp
 unfold Bw
 by_cases hb:vB l p=0
 ·rw[TO (.inl hb),TK (.inl hb),PO (by decide) (fun h=>absurd rfl h),←WC]
  refine congrArg aT (br fun n=>?_)
  unfold aB
  simp only[aQ,aR,bc];grind
 ·have hcc:0<p.c∧je p.c=false:=by
   unfold uU at hv
   split at hv
   ·rename_i e
    exact absurd (by unfold vB;rw[e.1,e.2];grind) hb
   grind
  have hc0:p.c≠0:=by have:=hcc.1;grind
  have e1:rB (vB l p) p.c=vB l p:=by unfold rB;rw[if_neg (by rintro(h|h);exact hb h;exact hc0 h)]
  have e2:rC (vB l p) p.c=p.c:=by unfold rC;rw[if_neg (by rintro(h|h);exact hb h;exact hc0 h)]
  rw[e1,e2,PO hc (fun _=>hcc),WC]
def Cv.pos:Cv→Prop
 | .seg ..=>True
 | .arc k _ _ _=>0<k.q
structure CvV (c:Cv):Prop where
 g:c.good
 pos:c.pos
 sp:c.supp c.p=true
 sq:c.supp c.q=true
 ne:cP c.p c.q≠0
theorem eP:cP p q=0↔cx p q=0∧cy p q=0:=by
 show(if cx p q≠0 then cx p q else cy p q)=0↔_
 grind
theorem fH (hp:0≤p.c) (hq:0≤q.c):cP q p= -cP p q:=JT hp hq
theorem mi (hp:0≤p.c):cP p p=0:=JS hp
theorem CvV.rev (h:CvV c):CvV c.rev:=by
 have hp:=cm (iT h.g)
 have hq:=cm (sv h.g)
 cases c with
 |seg l p q=>exact⟨Jq h.g,trivial,h.sq,h.sp,fun e=>h.ne (by have:=fH hp hq;have e2:cP q p=0:=e;show cP p q=0;have h3:cP q p= -cP p q:=this;omega)⟩
 |arc k w p q=>exact⟨Jq h.g,h.pos,h.sq,h.sp,fun e=>h.ne (by have:=fH hp hq;have e2:cP q p=0:=e;show cP p q=0;have h3:cP q p= -cP p q:=this;omega)⟩
theorem BR {x y:Re}(h:aT (x-y)=0) (v:Re):aT (x-v)=aT (y-v):=dV (by rw[←h];exact congrArg aT (br fun n=>by simp only[aI];grind))
section
variable {p q:Pt}(hp:0≤p.c) (hq:0≤q.c) (h:cP p q=0)
include hp hq h
theorem wS (hf:0≤f.c):cx p f=cx q f:=by
 have h1:=(eP.1 h).1
 rw[oc hp hq] at h1
 rw[oc hp hf,oc hq hf];exact BR h1 _
theorem Cg (hf:0≤f.c):cy p f=cy q f:=by
 have h1:=(eP.1 h).2
 rw[si hp hq] at h1
 rw[si hp hf,si hq hf];exact BR h1 _
theorem QN (v:Rat):mO p v=mO q v:=by
 have h1:=(eP.1 h).1
 rw[oc hp hq] at h1
 rw[oH hp,oH hq];exact BR h1 _
theorem Po (v:Rat):sY p v=sY q v:=by
 have h1:=(eP.1 h).2
 rw[si hp hq] at h1
 rw[CP hp,CP hq];exact BR h1 _
theorem Dh (k:Ci):lj k p=lj k q:=by unfold lj;rw[QN hp hq h,Po hp hq h]
theorem II (hf:0≤f.c):sB k f p q=0:=by
 rw[s8,fB,fB,fB,wS hp hq h hf,Dh hp hq h,(eP.1 h).1]
 unfold GM
 unfold Dn
 simp
theorem wl (hc:c.good):c.ord p q=0:=by
 have hf:=cm (iT hc)
 cases c with
 |seg l f t=>
  show(if decide (cP f t>0)=true then-cP p q else cP p q)=0
  grind
 |arc k w f t=>
  show(if (!w)=true then sB k f p q else sB k.mir f.flip p.flip q.flip)=0
  split
  ·exact II hp hq h hf
  ·refine II (p:=p.flip) (q:=q.flip) hp hq (eP.2 ⟨?_,?_⟩) (f:=f.flip) hf
   ·rw[nl hp hq,(eP.1 h).1];rfl
   ·exact(eP.1 h).2
end
theorem se (hc:c.good) (hp:GP p) (hq:GP q) (h:c.ord p q<0):cP p q≠0:=fun e=>by
 have:=wl (cm hp) (cm hq) e hc
 omega
theorem Cs {x:Pt}:gz c [] x=[x]:=rfl
theorem za {x:Pt}{l:List Pt}(h:c.ord o x<0):gz c (o::l) x=o::gz c l x:=by
 have e:pp c x (o::l)=pp c x l+1:=by show(if c.ord o x<0 then pp c x l+1 else 0)=_;rw[if_pos h]
 unfold gz
 grind
theorem zM {x:Pt}{l:List Pt}(h: ¬c.ord o x<0):gz c (o::l) x=if cP o x=0 then o::l else x::o::l:=by
 have e:pp c x (o::l)=0:=by show(if c.ord o x<0 then pp c x l+1 else 0)=_;rw[if_neg h]
 unfold gz
 grind
def zL:List Pt→Prop
 |p::q::l=>cP p q≠0∧zL (q::l)
 |_=>True
theorem Sy {l:List Pt}(h:zL (o::l)):zL l:=by
 cases l with
 |nil=>trivial
 |cons p l=>exact h.2
theorem HT {c:Cv}(hc:c.good) {x:Pt}(hx:GP x): ∀ {l:List Pt},(∀p∈l,GP p)→zL l→zL (gz c l x)
 |[],_,_=>trivial
 |o::l,hl,h=>by
  by_cases g:c.ord o x<0
  ·rw[za g]
   have ih:=HT hc hx (l:=l) (fun p hp=>hl p (fC _ hp)) (Sy h)
   have ho:=se hc (hl o fO) hx g
   cases l with
   |nil=>exact⟨ho,trivial⟩
   |cons p l=>
    by_cases g2:c.ord p x<0
    ·rw[za g2] at ih⊢;exact⟨h.1,ih⟩
    ·rw[zM g2] at ih⊢
     by_cases e:cP p x=0
     ·rw[if_pos e];exact h
     ·rw[if_neg e] at ih⊢;exact⟨ho,ih⟩
  ·rw[zM g]
   by_cases e:cP o x=0
   ·rw[if_pos e];exact h
   ·rw[if_neg e]
    refine⟨fun e2=>e ?_,h⟩
    rw[fH (cm hx) (cm (hl o fO)),e2];rfl
theorem Iy {c:Cv}(hc:c.good): ∀ {l out:List Pt},(∀p∈l,GP p)→(∀p∈out,GP p)→zL out→zL (l.foldl (gz c) out)
 |[],_,_,_,h=>h
 |x::l,out,hl,ho,h=>by
  refine Iy hc (l:=l) (out:=gz c out x) (fun p hp=>hl p (fC _ hp)) (fun p hp=>?_) (HT hc (hl x fO) ho h)
  rcases ti hp with e|e
  ·exact ho p e
  ·rw[e];exact hl x fO
theorem Nf (hc:c.good) {l:List Pt}(hl: ∀p∈l,GP p):zL (cz c l):=Iy hc hl (fun p hp=>by cases hp) trivial
theorem Ep {c:Cv}: ∀ {l:List Pt}{d:Cv},zL l→d∈gI c l→ ∃p q,p∈l∧q∈l∧cP p q≠0∧d=c.ends p q
 |p::q::l,d,ha,h=>by
  rcases dD.1 (show d∈c.ends p q::gI c (q::l) from h) with h|h
  ·exact⟨p,q,fO,fC _ fO,ha.1,h⟩
  ·obtain⟨p',q',h1,h2,h3,h4⟩:=Ep ha.2 h
   exact⟨p',q',fC _ h1,fC _ h2,h3,h4⟩
 |[_],d,_,h=>by cases h
 |[],d,_,h=>by cases h
theorem O5 (c:Cv) (p q:Pt):(c.ends p q).p=p:=by cases c<;>rfl
theorem O0 (c:Cv) (p q:Pt):(c.ends p q).q=q:=by cases c<;>rfl
theorem E2 (c:Cv) (p q x:Pt):(c.ends p q).supp x=c.supp x:=by cases c<;>rfl
theorem R3 (h:c.pos) (p q:Pt):(c.ends p q).pos:=by cases c<;>exact h
theorem FQ (h:c.on p=true):c.supp p=true:=by
 unfold Cv.on at h
 grind
theorem Vs (h:CvV c) {L:List Pt}(hL: ∀p∈L,GP p) (hs: ∀p∈L,c.supp p=true): ∀d∈iU c L,CvV d:=by
 intro d hd
 have hG: ∀p∈ [c.p,c.q]++L,GP p:=by
  intro p hp
  simp only[List.cons_append,nE,dD] at hp
  rcases hp with e|e|e
  ·rw[e];exact iT h.g
  ·rw[e];exact sv h.g
  grind
 have hS: ∀p∈ [c.p,c.q]++L,c.supp p=true:=by
  intro p hp
  simp only[List.cons_append,nE,dD] at hp
  rcases hp with e|e|e
  ·rw[e];exact h.sp
  ·rw[e];exact h.sq
  grind
 obtain⟨p,q,h1,h2,h3,rfl⟩:=Ep (Nf h.g hG) hd
 have m1:=mI h1
 have m2:=mI h2
 exact⟨NR h.g (hG p m1) (hG q m2),R3 h.pos p q,by rw[O5,E2];exact hS p m1,by rw[O0,E2];exact hS q m2,by rw[O5,O0];exact h3⟩
theorem abk (a b:Rat):pX (rP a b)=Re.of a:=br fun n=>by unfold pX xB aB;simp only[aQ,aR,bc,rP];grind
theorem acs (a b:Rat):pY (rP a b)=Re.of b:=br fun n=>by unfold pY xB aB;simp only[aQ,aR,bc,rP];grind
theorem XN (hp:GP (rP a b)) (h:(a-k.x)*(a-k.x)+(b-k.y)*(b-k.y)=k.q):mr k (rP a b)=0:=by
 rw[Aw hp]
 unfold xw
 rw[abk,acs,yn,yn,ia,ia,XO,yn,cV,h,AH.2 (show k.q-k.q=0 by grind)];rfl
theorem Kw {q:Rat}(_h0:0<q) (hs:je q=true):rt q*rt q=q:=by
 have hs2:=hs
 unfold je DX at hs2
 simp only[dL,beq_iff_eq] at hs2
 have hd:bY (q.den:Int)≠0:=by have:=yO (den_pos q);omega
 have hdq:((bY (q.den:Int):Int):Rat)≠0:=by simpa using hd
 have h2:rt q*((bY (q.den:Int):Int):Rat)=((bY q.num:Int):Rat):=by unfold rt;rw[Bf,o9 hdq]
 have h3:=uM q
 have e1:((q.num:Int):Rat)=((bY q.num:Int):Rat)*((bY q.num:Int):Rat):=by rw[←f8,hs2.1]
 have e2:(((q.den:Int)):Rat)=((bY (q.den:Int):Int):Rat)*((bY (q.den:Int):Int):Rat):=by rw[←f8,hs2.2]
 grind
theorem SL (s:Rat) (hs:s*s=1) (h0:0<k.q) (hp:GP (fV k.x s k.y 0 k.q)):mr k (fV k.x s k.y 0 k.q)=0:=by
 cases hq:je k.q with
 |true=>
  have e:fV k.x s k.y 0 k.q=rP (k.x+s*rt k.q) (k.y+0*rt k.q):=by unfold fV;rw[hq];rfl
  rw[e] at hp⊢
  refine XN hp ?_
  have:=Kw h0 hq
  grind
 |false=>
  have e:fV k.x s k.y 0 k.q=⟨k.x,s,k.y,0,k.q⟩:=by unfold fV;rw[hq];rfl
  rw[Aw hp]
  have hc:(0:Rat)≤k.q:=by grind
  have h:=oE hc
  have e2:xw k ⟨k.x,s,k.y,0,k.q⟩=Re.rt k.q*Re.rt k.q-Re.of k.q:=br fun n=>by
   unfold xw pX pY
   rw[qm,qm]
   simp only[aQ,aI,aR,bc];grind
  grind
theorem FE (hk:GK k) (h0:0<k.q):mr k (jT k)=0:=SL (-1) (by decide+kernel) h0 (sj hk h0)
theorem Fi (hk:GK k) (h0:0<k.q):mr k (jE k)=0:=SL 1 (by decide+kernel) h0 (r8 hk h0)
def Cv.inner (c:Cv) (p:Pt):Bool:=c.on p&&(!(cP c.p p==0)&& !(cP c.q p==0))
def Cv.mono:Cv→Bool
 | .seg _ p q=> !decide (cP p q≥0)
 | .arc k w p q=> !decide (cP p q≥0)&&(!(Cv.arc k w p q).inner (jT k)&& !(Cv.arc k w p q).inner (jE k))
def Cv.vert:Cv→Bool
 | .seg _ p q=>cx p q==0
 | .arc ..=>false
def Ba (k:Ci) (p:Pt):Int:=if lj k p then 0 else 1
theorem Xi (h:decide (sY p k.y>0)=false) (g:(sY p k.y==0)=false):Ba k p=1:=by unfold Ba;rw[Ox h g];rfl
theorem aci (h:decide (sY p k.y>0)=true):Ba k p=0:=by unfold Ba;rw[Wg h];rfl
theorem aaH (h:decide (sY p k.y>0)=false) (g:(sY p k.y==0)=true) (e:decide (mO p k.x>0)=true):Ba k p=0:=by unfold Ba;rw[KN h g,e];rfl
theorem aaN (h:decide (sY p k.y>0)=false) (g:(sY p k.y==0)=true) (e:decide (mO p k.x>0)=false):Ba k p=1:=by unfold Ba;rw[KN h g,e];rfl
theorem PC (k:Ci) (p:Pt):0≤Ba k p∧Ba k p≤1:=by unfold Ba;split<;>omega
theorem XD (h:(Ba k p==Ba k q)=false):ov k p q=Ba k p-Ba k q:=by
 unfold ov BI Ba at*
 grind
theorem UW (h:(Ba k p==Ba k q)=true) (g:(Ba k p==0)=true):ov k p q= -cx p q:=by
 unfold ov BI Ba at*
 grind
theorem Tl (h:(Ba k p==Ba k q)=true) (g:(Ba k p==0)=false):ov k p q=cx p q:=by
 unfold ov BI Ba at*
 grind
theorem Qo (k:Ci) (f p:Pt):0≤sS k f p∧sS k f p≤2:=by unfold sS Oq;repeat' split<;>omega
theorem YS (h:(ov k p f==0)=true):sS k f p=0:=by unfold sS Oq;rw[if_pos (by simpa using h)]
theorem XS (h:(ov k p f==0)=false) (g:decide (ov k p f>0)=true):sS k f p=1:=by unfold sS Oq;rw[if_neg (by simpa using h),if_pos (of_decide_eq_true g)]
theorem Z7 (h:(ov k p f==0)=false) (g:decide (ov k p f>0)=false):sS k f p=2:=by unfold sS Oq;rw[if_neg (by simpa using h),if_neg (of_decide_eq_false g)]
theorem ab1 (h:(sS k f p==sS k f q)=false):yA k f p q=Yu (sS k f p-sS k f q):=by
 unfold yA vx;rw[if_pos (show Oq (ov k p f)≠Oq (ov k q f) from by simpa [sS] using h)];rfl
theorem abg (h:(sS k f p==sS k f q)=true):yA k f p q=Yu (ov k p q):=by
 unfold yA vx;rw[if_neg (show ¬Oq (ov k p f)≠Oq (ov k q f) from by simpa [sS] using h)]
theorem abD (h:c.on p=false):c.inner p=false:=by unfold Cv.inner;rw[h];rfl
theorem Yv (h:c.on p=true) (g:(!(cP c.p p==0))=false):c.inner p=false:=by unfold Cv.inner;rw[h,g];rfl
theorem XB (h:c.on p=true) (g:(!(cP c.p p==0))=true):c.inner p= !(cP c.q p==0):=by unfold Cv.inner;rw[h,g];rfl
theorem DE (h:c.supp p=true):c.on p=(decide (c.ord c.p p≤0)&&decide (c.ord p c.q≤0)):=by unfold Cv.on;rw[h,iF]
theorem ZS {u q:Rat}(hb: ¬(u=0∧v=0)):Np u v (cc u (zc u q) (zc v q))=q:=by
 unfold Np
 rw[if_neg hb]
 by_cases h:u=0
 ·rw[Fv h,oY (fun e=>hb ⟨h,e⟩)]
 ·rw[AT h,oY h]
theorem acv {c:Rat}(ha:Rz 600 a) (hb:Rz 600 b) (hc:Rz 600 c) (hd:Rz 600 d):Ok Tryz.prog 86 [.a ((cR a++cR b++cR c)),dR d] [.c (.i .i64 (bF (a-d) b c))]:=by
 refine bX Tryz.func86 rfl<|cJ 10 [] ?_
 refine aK rfl (dM (aO ha) (aO hd)) ?_
 refine aK rfl (vN (aO (cT ha hd)) (aO hb) (aO hc)) ?_
 exact ah (az ae)
theorem ac7 (hp:GP p) (hv:Rz 600 v):Ok Tryz.prog 86 [.a ((cR p.a1++cR p.b1++cR (zc p.b1 p.c))),dR v] [.c (.i .i64 (mO p v))]:=acv (hp.a1.mono (by decide)) (hp.b1.mono (by decide)) (ij (hp.c.mono (by decide)) (by decide)) hv
theorem adJ (hp:GP p) (hv:Rz 600 v):Ok Tryz.prog 86 [.a ((cR p.a2++cR p.b2++cR (zc p.b2 p.c))),dR v] [.c (.i .i64 (sY p v))]:=acv (hp.a2.mono (by decide)) (hp.b2.mono (by decide)) (ij (hp.c.mono (by decide)) (by decide)) hv
theorem yCX (hp:GP p) (hq:GP q):Ok Tryz.prog 83 [.a ((cR p.a1++cR p.b1++cR (zc p.b1 p.c))),.a ((cR q.a1++cR q.b1++cR (zc q.b1 q.c)))] [.c (.i .i64 (cx p q))]:=zZ (hp.a1.mono (by decide)) (hp.b1.mono (by decide)) (ij (hp.c.mono (by decide)) (by decide)) (hq.a1.mono (by decide)) (hq.b1.mono (by decide)) (ij (hq.c.mono (by decide)) (by decide))
theorem yCY (hp:GP p) (hq:GP q):Ok Tryz.prog 83 [.a ((cR p.a2++cR p.b2++cR (zc p.b2 p.c))),.a ((cR q.a2++cR q.b2++cR (zc q.b2 q.c)))] [.c (.i .i64 (cy p q))]:=zZ (hp.a2.mono (by decide)) (hp.b2.mono (by decide)) (ij (hp.c.mono (by decide)) (by decide)) (hq.a2.mono (by decide)) (hq.b2.mono (by decide)) (ij (hq.c.mono (by decide)) (by decide))
theorem AI (hp:GP p) (hq:GP q):Ok Tryz.prog 57 [.a (aj p),.a (aj q)] [.c (.i .i64 (cP p q))]:=by
 refine bX Tryz.func57 rfl<|cJ 6 [] ?_
 refine aK rfl (pd) ?_
 refine aK rfl (pd) ?_
 refine aK rfl (yCX hp hq) ?_
 refine dk rfl (fun hc1=>?_) (fun hc1=>?_)
 ·refine ah ?_
  rw[adB (p:=p) (q:=q) hc1]
  exact az ae
 ·refine cJ 6 [] ?_
  refine aK rfl (GW) ?_
  refine aK rfl (GW) ?_
  refine aK rfl (yCY hp hq)<|ah ?_
  rw[adu (p:=p) (q:=q) hc1]
  exact az ae
theorem Hj (hp:GP p) (hq:GP q):Ok Tryz.prog 41 [.a (aj p),.a (aj q)] [.c (.b (cP p q==0))]:=by
 refine bX Tryz.func41 rfl ?_
 refine ac rfl (AI hp hq) ?_
 exact ah (az ae)
theorem zi (hx:Rz 6000000 x) (hy:Rz 6000000 y):Ok Tryz.prog 185 [dR x,dR y] [dR (x+y)]:=by
 refine bX Tryz.func185 rfl<|ac rfl (cS (aO hx) (aO hy)) ?_
 exact ah (aS aZ rfl ae)
theorem I7 (hx:Rz 6000000 x) (hy:Rz 6000000 y):Ok Tryz.prog 184 [dR x,dR y] [dR (x-y)]:=by
 refine bX Tryz.func184 rfl<|ac rfl (dM (aO hx) (aO hy)) ?_
 exact ah (aS aZ rfl ae)
theorem oW (hx:Rz 6000000 x) (hy:Rz 6000000 y):Ok Tryz.prog 186 [dR x,dR y] [dR (x*y)]:=by
 refine bX Tryz.func186 rfl<|ac rfl (co (aO hx) (aO hy)) ?_
 exact ah (aS aZ rfl ae)
theorem tu (hx:Rz 6000000 x) (hy:Rz 6000000 y):Ok Tryz.prog 260 [dR x,dR y] [dR (x+y)]:=by
 refine bX Tryz.func260 rfl<|ac rfl (cS (aO hx) (aO hy)) ?_
 exact ah (aS aZ rfl ae)
theorem mT (hx:Rz 6000000 x) (hy:Rz 6000000 y):Ok Tryz.prog 259 [dR x,dR y] [dR (x-y)]:=by
 refine bX Tryz.func259 rfl<|ac rfl (dM (aO hx) (aO hy)) ?_
 exact ah (aS aZ rfl ae)
theorem gF (hx:Rz 6000000 x) (hy:Rz 6000000 y):Ok Tryz.prog 261 [dR x,dR y] [dR (x*y)]:=by
 refine bX Tryz.func261 rfl<|ac rfl (co (aO hx) (aO hy)) ?_
 exact ah (aS aZ rfl ae)
theorem DT (hx:Rz 6000000 x) (hy:Rz 6000000 y) (h0:y≠0):Ok Tryz.prog 264 [dR x,dR y] [dR (x/y)]:=by
 refine bX Tryz.func264 rfl<|ac rfl (oB hx hy h0) ?_
 exact ah (aS aZ rfl ae)
theorem yG (hx:Rz 6000000 x):Ok Tryz.prog 258 [dR x] [dR (-x)]:=by
 refine bX Tryz.func258 rfl<|ac rfl (iy (aO hx)) ?_
 exact ah (aS aZ rfl ae)
theorem Tt {w:Rat}(hv:Rz 6000000 v) (hw:Rz 6000000 w):Ok Tryz.prog 180 [.a ((cR v++cR w))] [.a ((cR (-v)++cR (-w)))]:=by
 refine bX Tryz.func180 rfl<|cJ 7 [] ?_
 refine aK rfl (iy (aO hv)) ?_
 refine aK rfl (iy (aO hw)) ?_
 refine aq (aG (us:=(cR (-v)++cR (-w))) HR Fu rfl rfl rfl) ?_
 exact ah (aS NF rfl ae)
theorem O8 {c:Rat}{w:Rat}(hv:Rz 6000000 v) (hw:Rz 6000000 w) (ha1:Rz 6000000 a1) (ha2:Rz 6000000 a2):Ok Tryz.prog 188 [.a ((cR a1++cR b1++cR a2++cR b2++cR c)),.a ((cR v++cR w))] [.a ((cR (a1+v)++cR b1++cR (a2+w)++cR b2++cR c))]:=by
 refine eo Tryz.func188 22 [.cell 4 47] rfl<|aa<|ag<|aa<|lX 17 rfl rfl<|cn 1<|ba (d5 (cR a1) aZ rfl)<|cn 1<|ba (d5 (cR v) aZ rfl)<|ba (cb rfl (cS (aO ha1) (aO hv)))<|cn 1<|ba (d5 (cR b1) aZ rfl)<|cn 1<|ba (d5 (cR a2) aZ rfl) ?_
 refine cn 1<|ba (d5 (cR w) aZ rfl)<|ba (cb rfl (cS (aO ha2) (aO hw)))<|cn 1<|ba (d5 (cR b2) aZ rfl)<|cn 1<|ba (d5 (cR c) aZ rfl)<|ba (aG (us:=(cR (a1+v)++cR b1++cR (a2+w)++cR b2++cR c)) Ef Ac rfl rfl rfl) ?_
 refine ln<|dG<|ed<|a7 ?_
 exact ah (aS bq rfl ae)
theorem Ft {c:Rat}(ha1:Rz 60000 a1) (hb1:Rz 60000 b1) (ha2:Rz 60000 a2) (hb2:Rz 60000 b2) (hc:Rz 60000 c) (v1:uU b1 b2 c=true) {e:Rat}(hd:Rz 60000 d) (he:Rz 60000 e):Ok Tryz.prog 91 [.a ((cR a1++cR b1++cR a2++cR b2++cR c)),.a ((cR d++cR e))] [.a ((cR (Jv (a1-d) (a2-e) b1 b2 c)++cR (KE (a1-d) (a2-e) b1 b2)++cR (zc (KE (a1-d) (a2-e) b1 b2) c)))]:=by
 have ka1:Rz 6000000 a1:=ha1.m_
 have kb1:Rz 6000000 b1:=hb1.m_
 have ka2:Rz 6000000 a2:=ha2.m_
 have kb2:Rz 6000000 b2:=hb2.m_
 have kc:Rz 6000000 c:=hc.m_
 have kd:Rz 6000000 d:=hd.m_
 have ke:Rz 6000000 e:=he.m_
 have u1:Rz 140000 (a1-d):=(ha1.sub hd).m_
 have u2:Rz 140000 (a2-e):=(ha2.sub he).m_
 have k3:Rz 6000000 (-d):=kd.neg
 have k4:Rz 6000000 (-e):=ke.neg
 have nz:=aat v1
 have x1:Rz 1000000 (a1-d):=u1.m_
 have x2:Rz 1000000 (a2-e):=u2.m_
 have y1:Rz 1000000 b1:=hb1.m_
 have y2:Rz 1000000 b2:=hb2.m_
 have hC:Rz 1000000 c:=hc.m_
 have z1:Rz 1000000 (zc b1 c):=ij hC (by decide)
 have z2:Rz 1000000 (zc b2 c):=ij hC (by decide)
 have A1:Rz 1000000 ((a1-d)*(a1-d)+b1*b1*c):=((u1.mul u1).add ((hb1.mul hb1).mul hc)).m_
 have A2:Rz 1000000 ((a2-e)*(a2-e)+b2*b2*c):=((u2.mul u2).add ((hb2.mul hb2).mul hc)).m_
 have B1:Rz 1000000 ((a1-d)*b1+(a1-d)*b1):=((u1.mul hb1).add (u1.mul hb1)).m_
 have B2:Rz 1000000 ((a2-e)*b2+(a2-e)*b2):=((u2.mul hb2).add (u2.mul hb2)).m_
 have C1:Rz 1000000 (zc ((a1-d)*b1+(a1-d)*b1) c):=ij hC (by decide)
 have C2:Rz 1000000 (zc ((a2-e)*b2+(a2-e)*b2) c):=ij hC (by decide)
 have nS:((a1-d)*b1+(a1-d)*b1)+((a2-e)*b2+(a2-e)*b2)≠0→c≠0:=fun h=>by rw[SD] at h;have:=(Pr v1 h).1;grind
 refine bX Tryz.func91 rfl<|cJ 5 [] ?_
 refine aK rfl (Tt (by assumption) (by assumption)) ?_
 refine aK rfl (O8 (by assumption) (by assumption) (by assumption) (by assumption))<|cJ 13 [6,999999] ?_
 refine aK rfl (CK pd (VG _ _) rfl rfl) ?_
 refine aK rfl (CK (IS x1 y1 z1) acM (abr nz.1) (acx nz.1)) ?_
 refine aK rfl (CK GW (VG _ _) rfl rfl) ?_
 refine aK rfl (CK (IS x2 y2 z2) acM (abr nz.2) (acx nz.2)) ?_
 refine aK rfl (wN (Nt A1 B1 C1 A2 B2 C2 ZC) (aa8 _ _ _ _ _) ((adt nS).trans (SD _ _ _ _)) ((adT nS).trans (by rw[SD]))) ?_
 refine DQ.mk<|f5 (eh df rfl) rfl rfl rfl rfl<|dF ?_
 exact ah (aS df rfl ae)
theorem aaI (hk:GK k) (hp:GB p):Ok Tryz.prog 91 [.a (aj p),.a ((cR k.x++cR k.y))] [.a ((cR (Jv (p.a1-k.x) (p.a2-k.y) p.b1 p.b2 p.c)++cR (DY k p)++cR (zc (DY k p) p.c)))]:=Ft (hp.a1.mono (by decide)) (hp.b1.mono (by decide)) (hp.a2.mono (by decide)) (hp.b2.mono (by decide)) (hp.c.mono (by decide)) hp.v (hk.x.mono (by decide)) (hk.y.mono (by decide))
theorem aas (hk:GK k) (hp:GB p):Ok Tryz.prog 267 [.a (aV k),.a (aj p)] [.a ((cR (G5 k p)++cR (DY k p)++cR (zc (DY k p) p.c)))]:=by
 have s1:Rz 6000000 (Jv (p.a1-k.x) (p.a2-k.y) p.b1 p.b2 p.c):=(OK hk hp).m_
 have s2:Rz 6000000 k.q:=hk.q.m_
 have s3:Rz 6000000 (-k.q):=s2.neg
 refine bX Tryz.func267 rfl<|cJ 11 [] ?_
 refine aq (aG (us:=(cR k.x++cR k.y)) HR Fu rfl rfl rfl) ?_
 refine aK rfl (aaI hk hp) ?_
 refine aK rfl (iy (G3)) ?_
 refine aK rfl (GQ (by assumption) (by assumption)) ?_
 exact ah (aS df rfl ae)
theorem Rs (hk:GK k) (hp:GB p):Ok Tryz.prog 146 [.a (aV k),.a (aj p)] [.c (.i .i64 (mr k p))]:=by
 refine bX Tryz.func146 rfl ?_
 refine ac rfl (aas hk hp) ?_
 refine ac rfl (CN ((QY hk hp).m_) ((Rm hk hp).m_) (ij (hp.c.m_) (by decide))) ?_
 refine ar (fa (r:= -s3 (G5 k p) (DY k p) (zc (DY k p) p.c)) rfl (xv (W4 _ _ _)) rfl) ?_
 exact ah (az ae)
theorem ab3 (hk:GK k) (hp:GP p):Ok Tryz.prog 146 [.a (aV k),.a (aj p)] [.c (.i .i64 (mr k p))]:=Rs hk hp.gb
theorem RA (hl:GL l) (hp:GP p) (hs:je p.c=true):Ok Tryz.prog 88 [.a (iI l),.a (aj p)] [.a ((cR (vA l p+vB l p*rt p.c)++cR 0++cR 0))]:=by
 refine bX Tryz.func88 rfl<|cJ 15 [] ?_
 refine aK rfl (oW (aO (hl.a)) (aO (hp.a1))) ?_
 refine aK rfl (oW (aO (hl.b)) (aO (hp.a2))) ?_
 refine aK rfl (zi (aO (aP (hl.a) (hp.a1))) (aO (aP (hl.b) (hp.a2)))) ?_
 refine aK rfl (I7 (aO (gj (aP (hl.a) (hp.a1)) (aP (hl.b) (hp.a2)))) (aO (hl.c)))<|cJ 21 [6,999999] ?_
 refine aK rfl (oW (aO (hl.a)) (aO (hp.b1))) ?_
 refine aK rfl (oW (aO (hl.b)) (aO (hp.b2))) ?_
 refine aK rfl (zi (aO (aP (hl.a) (hp.b1))) (aO (aP (hl.b) (hp.b2)))) ?_
 refine aK rfl (xS ((PH hl hp).m_) ((RR hl hp).m_) (hp.c.m_) (fun h=>absurd h (Rat.not_lt.2 (yY hp.v))) hs) ?_
 refine DQ.mk<|f5 (eh df rfl) rfl rfl rfl rfl<|dF ?_
 exact ah (aS df rfl ae)
theorem Qz (hl:GL l) (hp:GP p) (hs:je p.c=false):Ok Tryz.prog 88 [.a (iI l),.a (aj p)] [.a ((cR (vA l p)++cR (rB (vB l p) p.c)++cR (rC (vB l p) p.c)))]:=by
 refine bX Tryz.func88 rfl<|cJ 15 [] ?_
 refine aK rfl (oW (aO (hl.a)) (aO (hp.a1))) ?_
 refine aK rfl (oW (aO (hl.b)) (aO (hp.a2))) ?_
 refine aK rfl (zi (aO (aP (hl.a) (hp.a1))) (aO (aP (hl.b) (hp.a2)))) ?_
 refine aK rfl (I7 (aO (gj (aP (hl.a) (hp.a1)) (aP (hl.b) (hp.a2)))) (aO (hl.c)))<|cJ 21 [6,999999] ?_
 refine aK rfl (oW (aO (hl.a)) (aO (hp.b1))) ?_
 refine aK rfl (oW (aO (hl.b)) (aO (hp.b2))) ?_
 refine aK rfl (zi (aO (aP (hl.a) (hp.b1))) (aO (aP (hl.b) (hp.b2)))) ?_
 refine aK rfl (xP ((PH hl hp).m_) ((RR hl hp).m_) (hp.c.m_) (fun h=>absurd h (Rat.not_lt.2 (yY hp.v))) hs) ?_
 refine DQ.mk<|f5 (eh df rfl) rfl rfl rfl rfl<|dF ?_
 exact ah (aS df rfl ae)
theorem ach (hl:GL l) (hp:GP p):Ok Tryz.prog 88 [.a (iI l),.a (aj p)] [.a ((cR (vA l p)++cR (rB (vB l p) p.c)++cR (rC (vB l p) p.c)))]:=by
 cases hs:je p.c with
 |true=>obtain⟨e1,e2,e3⟩:=X0 (l:=l) hp.v hs;exact CK (RA hl hp hs) e1 e2 e3
 |false=>exact Qz hl hp hs
theorem YM (hl:GL l) (hp:GP p):Ok Tryz.prog 152 [.a (iI l),.a (aj p)] [.c (.i .i64 (Bw l p))]:=by
 refine bX Tryz.func152 rfl ?_
 refine ac rfl (ach hl hp) ?_
 refine ac rfl (CN ((PH hl hp).m_) (acP ((RR hl hp).m_) (by decide)) (aaz (hp.c.m_) (by decide))) ?_
 exact ah (az ae)
theorem WJ (hk:GK k) (hp:GP p):Ok Tryz.prog 344 [.a (aV k),.a (aj p)] [.c (.b (lj k p))]:=by
 refine bX Tryz.func344 rfl<|cJ 6 [] ?_
 refine aK rfl (GW) ?_
 refine aK rfl (adJ hp (hk.y.m_))<|cJ 15 [] ?_
 refine BD (bE rfl) (fun c1 hb1=>?_)
 cases c1
 ·refine BD (bE rfl) (fun c2 hb2=>?_)
  cases c2
  ·refine ah ?_
   rw[Ox (k:=k) (p:=p) hb1 hb2]
   exact az ae
  ·refine aK rfl (pd) ?_
   refine aK rfl (ac7 hp (hk.x.m_))<|ah ?_
   rw[KN (k:=k) (p:=p) hb1 hb2]
   exact az ae
 ·refine DQ.mk<|wt (oI rfl)<|dF ?_
  refine ah ?_
  rw[Wg (k:=k) (p:=p) hb1]
  exact az ae
theorem O1 (hk:GK k) (hp:GP p) (hq:GP q):Ok Tryz.prog 284 [.a (aV k),.a (aj p),.a (aj q)] [.c (.i .i64 (fJ k p q))]:=by
 refine bX Tryz.func284 rfl<|cJ 8 [] ?_
 refine aK rfl (WJ hk hp) ?_
 refine aK rfl (WJ hk hq) ?_
 refine ar (lE rfl rfl jM rfl) ?_
 refine dk rfl (fun hc1=>?_) (fun hc1=>?_)
 ·refine dk rfl (fun hc2=>?_) (fun hc2=>?_)
  ·refine ah ?_
   rw[To (k:=k) (p:=p) (q:=q) hc1 hc2]
   exact az ae
  ·refine ah ?_
   rw[Qe (k:=k) (p:=p) (q:=q) hc1 hc2]
   exact az ae
 ·refine cJ 6 [] ?_
  refine aK rfl (pd) ?_
  refine aK rfl (pd) ?_
  refine aK rfl (yCX hp hq) ?_
  refine dk rfl (fun hc3=>?_) (fun hc3=>?_)
  ·refine ar (fa (r:= -cx p q) rfl (xv (fE p q)) rfl) ?_
   refine ah ?_
   rw[Ql (k:=k) (p:=p) (q:=q) hc1 hc3]
   exact az ae
  ·refine ah ?_
   rw[QB (k:=k) (p:=p) (q:=q) hc1 hc3]
   exact az ae
theorem VL (hk:GK k) (hf:GP f) (hp:GP p) (hq:GP q):Ok Tryz.prog 172 [.a (aV k),.a (aj f),.a (aj p),.a (aj q)] [.c (.i .i64 (sB k f p q))]:=by
 refine bX Tryz.func172 rfl<|cJ 12 [] ?_
 refine aK rfl (O1 hk hp hf) ?_
 refine aK rfl (O1 hk hq hf) ?_
 refine ar (lE rfl rfl jM rfl) ?_
 refine dk rfl (fun hc1=>?_) (fun hc1=>?_)
 ·refine dk rfl (fun hc2=>?_) (fun hc2=>?_)
  ·refine ah ?_
   rw[aa7 (k:=k) (f:=f) (p:=p) (q:=q) hc1 hc2]
   exact az ae
  ·refine ah ?_
   rw[X1 (k:=k) (f:=f) (p:=p) (q:=q) hc1 hc2]
   exact az ae
 ·refine ac rfl (O1 hk hp hq)<|ah ?_
  rw[aa2 (k:=k) (f:=f) (p:=p) (q:=q) hc1]
  exact az ae
theorem Fm (hp:GP p):Ok Tryz.prog 174 [.a (aj p)] [.a (aj p.flip)]:=by
 refine bX Tryz.func174 rfl<|cJ 7 [] ?_
 refine aK rfl (iy (hp.a1.m_)) ?_
 refine aK rfl (iy (hp.b1.m_)) ?_
 refine pu (aY (us:=(cR (-p.a1)++cR p.b1++cR p.a2++cR p.b2++cR p.c)) aZ rfl rfl rfl rfl (fe rfl) rfl rfl) ?_
 refine pu (aY (us:=(cR (-p.a1)++cR (-p.b1)++cR p.a2++cR p.b2++cR p.c)) aZ rfl rfl rfl rfl (fe rfl) rfl rfl) ?_
 exact ah (aS bq rfl ae)
theorem ace (hk:GK k) (hf:GP f) (ht:GP t):Ok Tryz.prog 173 [.a (([.b true]++nr++aV k++[.b w]++aj f++aj t))] [.a (([.b true]++nr++aV k.mir++[.b (!w)]++aj f.flip++aj t.flip))]:=by
 refine eo Tryz.func173 22 [.cell 2 49] rfl<|aa<|ag<|aa<|ag ?_
 refine ar (cO (cR k.x) aZ rfl (by kernel_rfl)) ?_
 refine ac rfl (iy (hk.x.m_)) ?_
 refine pu (aY (us:=([.b true]++nr++(cR k.mir.x++cR k.y++cR k.q)++[.b w]++aj f++aj t)) aZ rfl rfl rfl rfl (fe (by kernel_rfl)) (by kernel_rfl) rfl) ?_
 refine aa<|pQ 13 [1,999999] dP (by kernel_rfl) rfl rfl<|cn 1<|DO (by kernel_rfl) (cO (aj f) bq rfl (by kernel_rfl))<|ba (cb rfl (Fm hf))<|cn 1<|DO (by kernel_rfl) (cO (aj t) bq rfl (by kernel_rfl))<|ba (cb rfl (Fm ht))<|cn 1<|DO (by kernel_rfl) (gY lW rfl)<|cn 2<|iE (aY (us:=([.b true]++nr++(cR k.mir.x++cR k.y++cR k.q)++[.b w]++aj f.flip++aj t)) bq rfl rfl rfl rfl (fe (by kernel_rfl)) (by kernel_rfl) rfl) rfl rfl rfl rfl ?_
 refine cn 1<|Lw (aY (us:=([.b true]++nr++(cR k.mir.x++cR k.y++cR k.q)++[.b w]++aj f.flip++aj t.flip)) bq rfl rfl rfl rfl (fe (by kernel_rfl)) (by kernel_rfl) rfl) rfl rfl (by kernel_rfl) rfl ?_
 refine ln<|AJ<|bU 1<|gi (aY (us:=([.b true]++nr++(cR k.mir.x++cR k.y++cR k.q)++[.b (!w)]++aj f.flip++aj t.flip)) lW rfl rfl rfl rfl (fe (by kernel_rfl)) (by kernel_rfl) rfl) ?_
 refine bt<|aa<|ag ?_
 refine ar (gE bO rfl) ?_
 refine pu (eh bO rfl)<|a7 ?_
 exact ah (kK (us:=([.b true]++nr++(cR k.mir.x++cR k.y++cR k.q)++[.b (!w)]++aj f.flip++aj t.flip)) bO rfl rfl (by kernel_rfl) (by kernel_rfl) ae)
theorem JL (_hl:GL l) (hf:GP f) (ht:GP t) (hp:GP p) (hq:GP q):Ok Tryz.prog 78 [.a (([.b false]++iI l++rQ++[.b false]++aj f++aj t)),.a (aj p),.a (aj q)] [.c (.i .i64 ((Cv.seg l f t).ord p q))]:=by
 refine bX Tryz.func78 rfl ?_
 refine ar (gY lW rfl) ?_
 refine sy rfl ?_
 refine ac rfl (AI hp hq) ?_
 refine ar (cO (aj f) bq rfl (by kernel_rfl)) ?_
 refine ar (cO (aj t) bq rfl (by kernel_rfl)) ?_
 refine ac rfl (AI hf ht) ?_
 refine dk rfl (fun hc1=>?_) (fun hc1=>?_)
 ·refine ar (fa (r:= -cP p q) rfl (xv (aby p q)) rfl) ?_
  refine ah ?_
  rw[Zu (l:=l) (f:=f) (t:=t) (p:=p) (q:=q) hc1]
  exact az ae
 ·refine ah ?_
  rw[Zx (l:=l) (f:=f) (t:=t) (p:=p) (q:=q) hc1]
  exact az ae
theorem J4 (hk:GK k) (hf:GP f) (ht:GP t) (hp:GP p) (hq:GP q):Ok Tryz.prog 78 [.a (([.b true]++nr++aV k++[.b w]++aj f++aj t)),.a (aj p),.a (aj q)] [.c (.i .i64 ((Cv.arc k w f t).ord p q))]:=by
 refine bX Tryz.func78 rfl ?_
 refine ar (gY lW rfl) ?_
 refine sb rfl ?_
 refine ar (gY lW rfl) ?_
 refine dk rfl (fun hc1=>?_) (fun hc1=>?_)
 ·refine ar (cO (aV k) qK rfl (by kernel_rfl)) ?_
  refine ar (cO (aj f) bq rfl (by kernel_rfl)) ?_
  refine ac rfl (VL hk hf hp hq)<|ah ?_
  rw[Zh (k:=k) (w:=w) (f:=f) (t:=t) (p:=p) (q:=q) hc1]
  exact az ae
 ·refine ar (gE bO rfl)<|ac rfl (ace hk hf ht)<|pu (eh bO rfl)<|cJ 10 [] ?_
  refine aq (cO (aV k.mir) qK rfl (by kernel_rfl)) ?_
  refine aq (cO (aj f.flip) bq rfl (by kernel_rfl)) ?_
  refine aK rfl (Fm hp) ?_
  refine aK rfl (Fm hq) ?_
  refine aK rfl (VL (GK.mir hk) (GP.flip hf) (GP.flip hp) (GP.flip hq))<|ah ?_
  rw[Yw (k:=k) (w:=w) (f:=f) (t:=t) (p:=p) (q:=q) hc1]
  exact az ae
theorem Kt (hl:GL l) (_hf:GP f) (_ht:GP t) (hp:GP p):Ok Tryz.prog 61 [.a (([.b false]++iI l++rQ++[.b false]++aj f++aj t)),.a (aj p)] [.c (.b ((Cv.seg l f t).supp p))]:=by
 refine bX Tryz.func61 rfl ?_
 refine ar (gY lW rfl) ?_
 refine sb rfl ?_
 refine ar (cO (iI l) TX rfl (by kernel_rfl)) ?_
 refine ac rfl (YM hl hp) ?_
 exact ah (az ae)
theorem Ke (hk:GK k) (_hf:GP f) (_ht:GP t) (hp:GP p):Ok Tryz.prog 61 [.a (([.b true]++nr++aV k++[.b w]++aj f++aj t)),.a (aj p)] [.c (.b ((Cv.arc k w f t).supp p))]:=by
 refine bX Tryz.func61 rfl ?_
 refine ar (gY lW rfl) ?_
 refine sy rfl ?_
 refine ar (cO (aV k) qK rfl (by kernel_rfl)) ?_
 refine ac rfl (ab3 hk hp) ?_
 exact ah (az ae)
theorem acQ (hl:GL l) (hf:GP f) (ht:GP t) (hp:GP p):Ok Tryz.prog 25 [.a (([.b false]++iI l++rQ++[.b false]++aj f++aj t)),.a (aj p)] [.c (.b ((Cv.seg l f t).on p))]:=by
 refine bX Tryz.func25 rfl ?_
 refine ar (gE bO rfl) ?_
 refine ac rfl (Kt hl hf ht hp) ?_
 refine jU (bE rfl) (fun c1 hb1=>?_)
 cases c1
 ·refine ar (bE rfl)<|ah ?_
  rw[X7 (c:=(Cv.seg l f t)) (p:=p) hb1]
  exact az ae
 ·refine ar (gE bO rfl) ?_
  refine ar (cO (aj f) bq rfl (by kernel_rfl)) ?_
  refine ac rfl (JL hl hf ht hf hp) ?_
  refine jU (bE rfl) (fun c2 hb2=>?_)
  cases c2
  ·refine ah ?_
   rw[W1 (c:=(Cv.seg l f t)) (p:=p) hb1 hb2]
   exact az ae
  ·refine ar (gE bO rfl) ?_
   refine ar (cO (aj t) bq rfl (by kernel_rfl)) ?_
   refine ac rfl (JL hl hf ht hp ht)<|ah ?_
   rw[WB (c:=(Cv.seg l f t)) (p:=p) hb1 hb2]
   exact az ae
theorem aam (hk:GK k) (hf:GP f) (ht:GP t) (hp:GP p):Ok Tryz.prog 25 [.a (([.b true]++nr++aV k++[.b w]++aj f++aj t)),.a (aj p)] [.c (.b ((Cv.arc k w f t).on p))]:=by
 refine bX Tryz.func25 rfl ?_
 refine ar (gE bO rfl) ?_
 refine ac rfl (Ke hk hf ht hp) ?_
 refine jU (bE rfl) (fun c1 hb1=>?_)
 cases c1
 ·refine ar (bE rfl)<|ah ?_
  rw[X7 (c:=(Cv.arc k w f t)) (p:=p) hb1]
  exact az ae
 ·refine ar (gE bO rfl) ?_
  refine ar (cO (aj f) bq rfl (by kernel_rfl)) ?_
  refine ac rfl (J4 hk hf ht hf hp) ?_
  refine jU (bE rfl) (fun c2 hb2=>?_)
  cases c2
  ·refine ah ?_
   rw[W1 (c:=(Cv.arc k w f t)) (p:=p) hb1 hb2]
   exact az ae
  ·refine ar (gE bO rfl) ?_
   refine ar (cO (aj t) bq rfl (by kernel_rfl)) ?_
   refine ac rfl (J4 hk hf ht hp ht)<|ah ?_
   rw[WB (c:=(Cv.arc k w f t)) (p:=p) hb1 hb2]
   exact az ae
theorem Yb (_hl:GL l) (_hf:GP f) (_ht:GP t):Ok Tryz.prog 147 [.a (([.b false]++iI l++rQ++[.b false]++aj f++aj t))] [.a (([.b false]++iI l++rQ++[.b false]++aj t++aj f))]:=by
 refine bX Tryz.func147 rfl<|ar (cO (aj t) bq rfl (by kernel_rfl)) ?_
 refine ar (cO (aj f) bq rfl (by kernel_rfl)) ?_
 refine pu (aY (us:=([.b false]++iI l++rQ++[.b false]++aj t++aj t)) bq rfl rfl rfl rfl (fe (by kernel_rfl)) (by kernel_rfl) rfl) ?_
 refine pu (aY (us:=([.b false]++iI l++rQ++[.b false]++aj t++aj f)) bq rfl rfl rfl rfl (fe (by kernel_rfl)) (by kernel_rfl) rfl) ?_
 refine ar (gY lW rfl)<|ar (bE rfl) ?_
 refine pu (aY (us:=([.b false]++iI l++rQ++[.b false]++aj t++aj f)) lW rfl rfl rfl rfl (fe (by kernel_rfl)) (by kernel_rfl) rfl) ?_
 refine ar (gE bO rfl) ?_
 refine pu (eh bO rfl) ?_
 exact ah (kK (us:=([.b false]++iI l++rQ++[.b false]++aj t++aj f)) bO rfl rfl (by kernel_rfl) (by kernel_rfl) ae)
theorem Xt (_hk:GK k) (_hf:GP f) (_ht:GP t):Ok Tryz.prog 147 [.a (([.b true]++nr++aV k++[.b w]++aj f++aj t))] [.a (([.b true]++nr++aV k++[.b (!w)]++aj t++aj f))]:=by
 refine bX Tryz.func147 rfl<|ar (cO (aj t) bq rfl (by kernel_rfl)) ?_
 refine ar (cO (aj f) bq rfl (by kernel_rfl)) ?_
 refine pu (aY (us:=([.b true]++nr++aV k++[.b w]++aj t++aj t)) bq rfl rfl rfl rfl (fe (by kernel_rfl)) (by kernel_rfl) rfl) ?_
 refine pu (aY (us:=([.b true]++nr++aV k++[.b w]++aj t++aj f)) bq rfl rfl rfl rfl (fe (by kernel_rfl)) (by kernel_rfl) rfl) ?_
 refine ar (gY lW rfl)<|ar (bE rfl) ?_
 refine ar (gY lW rfl) ?_
 refine pu (aY (us:=([.b true]++nr++aV k++[.b (!w)]++aj t++aj f)) lW rfl rfl rfl rfl (fe (by kernel_rfl)) (by kernel_rfl) rfl) ?_
 refine ar (gE bO rfl) ?_
 refine pu (eh bO rfl) ?_
 exact ah (kK (us:=([.b true]++nr++aV k++[.b (!w)]++aj t++aj f)) bO rfl rfl (by kernel_rfl) (by kernel_rfl) ae)
end Go.Proofs.YtegpmhlfjkhjmaaGreat
