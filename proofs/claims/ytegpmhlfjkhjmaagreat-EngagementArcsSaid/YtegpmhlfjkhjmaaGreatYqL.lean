/-Data:a slice of nothing,slices from a place on,chains of two and three appends. -/
import Derived.Test.YtegpmhlfjkhjmaaGreatYqK
namespace Go.Proofs.YtegpmhlfjkhjmaaGreat
open Go Go.RowKit
variable {f1 f2 f3:Array Edge}{ops:Array Oper}{B:BF}{k:Ci}{c:Cv}{us us' xs ys ys1 ys2 zs zs':List CellD}{N' Tk by_ i1 i2 m n n' q1 q2 sz t1 t2 ty1:Nat}{o:Oper}{h x x0 y y1 y2:Operand}{P:Program}{p q:Pt}{p1 p2:String}{T:TF}{U e:TypeId}
variable {ty:TypeId}{pos:String}{af:Array Edge}{g:Option (Nat×Bool)}{dst:Option Nat}
theorem o8:type_of% @Rat.div_mul_cancel:=@Rat.div_mul_cancel
section
variable {P:Program}{ops:Array Oper}{T:TF}{B:BF}
theorem j7 
 (hU:tR P U=some (e,m,by_,zs)) (hg:gd ops ⟨dst,.buildSlice U 0 #[],ty,pos,af,g⟩ T=some true):Sem P ops ⟨dst,.buildSlice U 0 #[],ty,pos,af,g⟩ T B (.r (.f 0 [])):=by
 refine⟨pP rfl,fun V β a w hs=>⟨et hs hg,?_⟩⟩
 obtain⟨hu,i,z,hi,hz,hsz,hby,hzl,hzr⟩:=iZ hU
 have hexec:(execOp a.eval ⟨dst,.buildSlice U 0 #[],ty,pos,af,g⟩).run P w=.ok (.value (.slice (some ⟨w.heap.size,0,none⟩) 0 0)) (w.alloc (.cells #[] e)):=by
  have hso: ∀w,(sizeOf e).run P w=.ok i.size w:=fun w=>by unfold sizeOf typeInfo;simp[program,Sem.run,hi]
  simp[execOp,Instr.buildSlice,run_underlying hu,hso,Instr.fill,newRow]
  grind
 unfold Gives
 rw[hexec]
 exact⟨⟨⟨_,rfl⟩,.s0 _ _ (by decide)⟩,(eL _ w).alloc (ce _) _⟩
theorem n6 
 (hU:tR P U=some (e,m,by_,zs)) (hx:cE T x=some (.f 0 us)) (hy:cE T y=some (.v (.c (.s 0 ys))))
 (hg:gd ops ⟨dst,.call ⟨.builtin .append,#[x,y],#[U,U]⟩,ty,pos,af,g⟩ T=some true):
 Sem P ops ⟨dst,.call ⟨.builtin .append,#[x,y],#[U,U]⟩,ty,pos,af,g⟩ T B (.r (.f 0 us)):=by
 refine⟨pP rfl,fun V β a w hs=>⟨et hs hg,?_⟩⟩
 obtain⟨⟨A,e1⟩,hxr⟩:(∃A,a.eval x=.slice A 0 0)∧RdV V w (a.eval x) (.c (.s 0 us)):=aE hs (x:=x) (by simp[Op.operands,Call.operands]) hx
 have h2:RdC V w (a.eval y) (.s 0 ys):=aE hs (x:=y) (by simp[Op.operands,Call.operands]) hy
 have hys:ys=[]:=by
  generalize a.eval y=vy at h2
  cases h2 with
  |s0=>rfl
  |s b off c sz n' xs' cv h0=>omega
 subst hys
 obtain⟨news,hsrc,_⟩:=rW hU h2 (by simp)
 obtain⟨hu,i,z,hi,hz,hsz,hby,_,hzr⟩:=iZ hU
 subst hsz
 have hn1:news=[]:=jP.1 (by rw[hsrc.newsLen,Nat.zero_mul])
 subst hn1
 rw[e1] at hxr
 have hrun:(Builtin.append_ #[U,U] ty #[.slice A 0 0,a.eval y]).run P w=.ok (.slice A 0 0) w:=by
  cases A with
  |none=>rcases hsrc.kind with⟨e',hk⟩|hk<;>simp[Builtin.append_,run_underlying hu,sizeOf,typeInfo,hi,hsrc.len,hsrc.cells]<;>rfl
  |some A=>
   rcases hsrc.kind with⟨e',hk⟩|hk<;>simp[Builtin.append_,run_underlying hu,sizeOf,typeInfo,hi,hsrc.len,hsrc.cells]<;>rfl
 have hexec:(execOp a.eval ⟨dst,.call ⟨.builtin .append,#[x,y],#[U,U]⟩,ty,pos,af,g⟩).run P w=.ok (.value (.slice A 0 0)) w:=by
  simp only[execOp,resolve,invoke,builtin,eQ,fX,fe,qC,oU,qM,e1]
  rw[hrun]
  rfl
 unfold Gives
 rw[hexec]
 exact⟨⟨⟨A,rfl⟩,hxr⟩,eL _ w⟩
theorem Fz {q:Nat}
 (hU:tR P U=some (e,m,by_,zs)) (hx:cE T x=some (.f n us)) (hy:cE T y=some (.v (.c (.s q ys)))) (hus:us.length=n*m) (hyl:ys.length=q*m) (hm:0<m) (hn0:0<n) (hbytes:(n+q)*by_≤140737488355328) (h63:n+q≤maxLen)
 (hg:gd ops ⟨dst,.call ⟨.builtin .append,#[x,y],#[U,U]⟩,ty,pos,af,g⟩ T=some true):
 Sem P ops ⟨dst,.call ⟨.builtin .append,#[x,y],#[U,U]⟩,ty,pos,af,g⟩ T B (.r (.v (.c (.s (n+q) (us++ys))))):=
 t7 hU hx (fun V β a w hs=>rW hU (aE hs (x:=y) (by simp[Op.operands,Call.operands]) hy) hyl) hus hyl hm hn0 hbytes h63 hg
theorem rg {ki:IntKind}{j:Int}
 (hU:th P U=some m) (hx:cE T x=some (.v (.c (.s n xs)))) (hh:cE T h=some (.v (.c (.i ki j)))) (hj:0≤j∧j≤n) (hl:xs.length=n*m) (hn':n-j.toNat=n') (hu:xs.drop (j.toNat*m)=us) (hg:gd ops ⟨dst,.slice U x (some h) none none,ty,pos,af,g⟩ T=some true):
 Sem P ops ⟨dst,.slice U x (some h) none none,ty,pos,af,g⟩ T B (.r (.v (.c (.s n' us)))):=
 bQ hg (pP rfl) (fun V β a w hs=>by
  subst hn'
  have h1:=aE hs (x:=x) (by simp[Op.operands]) hx
  have h2:=fQ (aE hs (x:=h) (by simp[Op.operands]) hh)
  generalize hv:a.eval x=v at h1
  have h1:RdC V w v (.s n xs):=h1
  unfold th at hU
  split at hU
  case h_2=>cases hU
  rename_i el hul
  cases hinf:P.info? el with
  |none=>rw[hinf] at hU;cases hU
  |some inf=>
   rw[hinf] at hU
   simp at hU
   have hso: ∀w,(sizeOf el).run P w=.ok m w:=fun w=>by unfold sizeOf typeInfo;simp[program,Sem.run,hinf,hU]
   have hgen: ∀(A:Option Addr) (c:Nat),a.eval x=.slice A n c→n≤c→(execOp a.eval ⟨dst,.slice U x (some h) none none,ty,pos,af,g⟩).run P w=.ok (.value (.slice (if c=j.toNat then A else A.map (·.add (j.toNat*m))) (n-j.toNat) (c-j.toNat))) w:=by
    intro A c e hnc
    have hjc:j≤c:=by omega
    have hjn:=hj.2
    simp[execOp,Instr.sliceAt,Instr.slice,run_underlying hul,e,h2,Instr.sliceBounds,Instr.sliceBound,asIntOf,hj.1,hjn,hso]
   cases h1 with
   |s0 A c hc=>
    have hj0:j.toNat=0:=by omega
    refine⟨_,hgen A c hv (by omega),?_⟩
    rw[←hu,hj0]
    simp
    exact .s0 _ c hc
   |s b off c sz _ _ cv h0 hnc hcm hlen hb hav hc hr=>
    have hsz:sz=m:=by
     rw[hl] at hlen
     exact(EK h0 hlen).symm
    subst hsz
    refine⟨_,hgen _ c hv hnc,?_⟩
    rcases io j.toNat n with hjn|hjn
    ·rw[if_neg (by omega),show((some ⟨b,off,none⟩:Option Addr).map (·.add (j.toNat*sz)))=some ⟨b,off+j.toNat*sz,none⟩ from by simp[Addr.add]]
     have hmul:j.toNat*sz+(n-j.toNat)*sz=n*sz:=by rw[←oH];congr 1;omega
     refine .s b (off+j.toNat*sz) (c-j.toNat) sz (n-j.toNat) us (fun q=>cv (j.toNat*sz+q)) (by omega) (by omega) (by omega) ?_ hb hav (fun q hq=>?_) (fun q u hq=>?_)
     ·grind
     ·grind
     grind
    ·have e9:n-j.toNat=0:=by omega
     rw[e9,←hu,pn (by rw[hlen];exact o9 _ hjn)]
     exact .s0 _ _ (by omega))
end
theorem xX (h:Sem P ops o T B (.r (.v (.c (.s n us))))) (e1:n=n') (e2:us=us'):Sem P ops o T B (.r (.v (.c (.s n' us')))):=by subst e1 e2;exact h
def nxB (ops:Array Oper) (i j:Nat):Bool:=match ops[j]? with
 |none=>false
 |some o=>(cJ o).any (Nat.beq i)
theorem IY {i j:Nat}(h:nxB ops i j=true) (ho:ops[j]? =some o):i∈cJ o:=by
 unfold nxB at h;rw[ho] at h;exact kQ.1 h
section
variable {P:Program}{ops:Array Oper}{tail:List Oper}{K:St→Prop}{m n:Nat}{tm0 tm:List (Nat×DV)}{bx:List (Nat×TypeId×List CellD)}
theorem GD {i3 t3 q3 ty3:Nat}{p3:String}{ys3:List CellD}{y3:Operand}
 (hU:tR P U=some (e,sz,by_,zs)) (hm:0<sz) (hb:cE (fun s=>aF s tm) x0=some (.f 0 us))
 (o1:ops[i1]? =some ⟨some t1,.call ⟨.builtin .append,#[x0,y1],#[U,U]⟩,ty1,p1,f1,none⟩) (o2:ops[i2]? =some ⟨some t2,.call ⟨.builtin .append,#[.tmp t1,y2],#[U,U]⟩,Tk,p2,f2,none⟩) (o3:ops[i3]? =some ⟨some t3,.call ⟨.builtin .append,#[.tmp t2,y3],#[U,U]⟩,ty3,p3,f3,none⟩)
 (lt:(Nat.blt i1 m&&Nat.blt i2 m&&Nat.blt i3 m)=true) (d1:cE (fun s=>aF s tm) y1=some (.v (.c (.s q1 ys1)))) (d2:cE (fun s=>aF s tm) y2=some (.v (.c (.s q2 ys2)))) (d3:cE (fun s=>aF s tm) y3=some (.v (.c (.s q3 ys3))))
 (l1:ys1.length=q1*sz) (l2:ys2.length=q2*sz) (l3:ys3.length=q3*sz) (b0:(qB ops [i1,i2,i3] m i1 x0&&qB ops [i1,i2,i3] m i1 y1&&qB ops [i1,i2,i3] m i2 y2&&qB ops [i1,i2,i3] m i3 y3)=true)
 (nx:(nxB ops i1 i2&&nxB ops i2 i3)=true) (hq:0<q1) (w1:aF t1 tm0=none) (w2:aF t2 tm0=none) (w3:aF t3 tm0=none) (v1:aF t1 bx=none) (v2:aF t2 bx=none) (v3:aF t3 bx=none)
 (hN:q1+q2+q3=N') (hz:ys1++ys2++ys3=zs') (hbytes:N'*by_≤140737488355328) (h63:N'≤maxLen)
 (hk: ∀c rest,N'≤c→c≤maxLen→rest.length=(c-N')*sz→dl P ops tail ⟨n,(t3,.o t3 N' c)::tm,(t3,e,zs'++rest)::bx⟩ K):
 ∃(U e:TypeId) (sz by_:Nat) (zs:List CellD) (x0:Operand) (ch:List AppS),ChainA P ops [i1,i2,i3] m U e sz by_ zs x0 tm0 tm bx ch∧
  ∀c rest,nA ch≤c→c≤maxLen→rest.length=(c-nA ch)*sz→dl P ops tail ⟨n,AM c ch++tm,FO e rest ch++bx⟩ K:=by
 simp only[dN] at lt b0 nx
 have hN2:nA [⟨i1,t1,y1,q1,ys1⟩,⟨i2,t2,y2,q2,ys2⟩,⟨i3,t3,y3,q3,ys3⟩]=N':=by show q1+(q2+(q3+0))=N';omega
 have hz2:uA [⟨i1,t1,y1,q1,ys1⟩,⟨i2,t2,y2,q2,ys2⟩,⟨i3,t3,y3,q3,ys3⟩]=zs':=by show ys1++(ys2++(ys3++[]))=zs';rw[←hz];simp
 refine⟨U,e,sz,by_,zs,x0,[⟨i1,t1,y1,q1,ys1⟩,⟨i2,t2,y2,q2,ys2⟩,⟨i3,t3,y3,q3,ys3⟩],⟨hU,hm,⟨us,hb⟩,rfl,?_,?_,?_,?_,?_,?_,by rw[hN2];exact⟨hbytes,h63⟩⟩,fun c rest g1 g2 g3=>?_⟩
 ·intro l a r h
  match l,h with
  |[],h=>injection h with h _;subst h;exact⟨_,_,_,o1⟩
  |[x],h=>injection h with h h';injection h' with h' _;subst h h';exact⟨_,_,_,o2⟩
  |[x,y],h=>injection h with h h';injection h' with h' h'';injection h'' with h'' _;subst h h' h'';exact⟨_,_,_,o3⟩
  |x::y::z'::l,h=>have:=congrArg List.length h;simp at this<;>omega
 ·simp_all
 ·grind
 ·grind
 ·intro l a b r h o ho
  match l,h with
  |[],h=>injection h with h h';injection h' with h' _;subst h h';exact IY nx.1 ho
  |[x],h=>injection h with h h';injection h' with h' h'';injection h'' with h'' _;subst h h' h'';exact IY nx.2 ho
  |x::y::l,h=>have:=congrArg List.length h;simp at this<;>omega
 ·grind
 ·rw[hN2] at g1 g3
  show dl P ops tail ⟨n,[(t3,.o t3 (nA _) c)]++tm,[(t3,e,uA _++rest)]++bx⟩ K
  grind
theorem GV 
 (hU:tR P U=some (e,sz,by_,zs)) (hm:0<sz) (hb:cE (fun s=>aF s tm) x0=some (.f 0 us))
 (o1:ops[i1]? =some ⟨some t1,.call ⟨.builtin .append,#[x0,y1],#[U,U]⟩,ty1,p1,f1,none⟩) (o2:ops[i2]? =some ⟨some t2,.call ⟨.builtin .append,#[.tmp t1,y2],#[U,U]⟩,Tk,p2,f2,none⟩)
 (lt:(Nat.blt i1 m&&Nat.blt i2 m)=true) (d1:cE (fun s=>aF s tm) y1=some (.v (.c (.s q1 ys1)))) (d2:cE (fun s=>aF s tm) y2=some (.v (.c (.s q2 ys2))))
 (l1:ys1.length=q1*sz) (l2:ys2.length=q2*sz) (b0:(qB ops [i1,i2] m i1 x0&&qB ops [i1,i2] m i1 y1&&qB ops [i1,i2] m i2 y2)=true)
 (nx:nxB ops i1 i2=true) (hq:0<q1) (w1:aF t1 tm0=none) (w2:aF t2 tm0=none) (v1:aF t1 bx=none) (v2:aF t2 bx=none)
 (hN:q1+q2=N') (hz:ys1++ys2=zs') (hbytes:N'*by_≤140737488355328) (h63:N'≤maxLen)
 (hk: ∀c rest,N'≤c→c≤maxLen→rest.length=(c-N')*sz→dl P ops tail ⟨n,(t2,.o t2 N' c)::tm,(t2,e,zs'++rest)::bx⟩ K):
 ∃(U e:TypeId) (sz by_:Nat) (zs:List CellD) (x0:Operand) (ch:List AppS),ChainA P ops [i1,i2] m U e sz by_ zs x0 tm0 tm bx ch∧
  ∀c rest,nA ch≤c→c≤maxLen→rest.length=(c-nA ch)*sz→dl P ops tail ⟨n,AM c ch++tm,FO e rest ch++bx⟩ K:=by
 have hN2:nA [⟨i1,t1,y1,q1,ys1⟩,⟨i2,t2,y2,q2,ys2⟩]=N':=by show q1+(q2+0)=N';omega
 have hz2:uA [⟨i1,t1,y1,q1,ys1⟩,⟨i2,t2,y2,q2,ys2⟩]=zs':=by show ys1++(ys2++[])=zs';rw[←hz];simp
 refine⟨U,e,sz,by_,zs,x0,[⟨i1,t1,y1,q1,ys1⟩,⟨i2,t2,y2,q2,ys2⟩],⟨hU,hm,⟨us,hb⟩,rfl,?_,?_,?_,?_,?_,?_,by rw[hN2];exact⟨hbytes,h63⟩⟩,fun c rest g1 g2 g3=>?_⟩
 ·intro l a r h
  match l,h with
  |[],h=>injection h with h _;subst h;exact⟨_,_,_,o1⟩
  |[x],h=>injection h with h h';injection h' with h' _;subst h h';exact⟨_,_,_,o2⟩
  |x::y::l,h=>have:=congrArg List.length h;simp at this<;>omega
 ·simp_all
 ·grind
 ·grind
 ·intro l a b r h o ho
  match l,h with
  |[],h=>injection h with h h';injection h' with h' _;subst h h';exact IY nx ho
  |x::l,h=>have:=congrArg List.length h;simp at this<;>omega
 ·grind
 ·rw[hN2] at g1 g3
  show dl P ops tail ⟨n,[(t2,.o t2 (nA _) c)]++tm,[(t2,e,uA _++rest)]++bx⟩ K
  grind
end
def rP (a b:Rat):Pt:=⟨a,0,b,0,0⟩
theorem VL {a b:Rat}(ha:Rz 1 a) (hb:Rz 1 b):GP (rP a b):=GP.rat (ha.mono (by decide)) (hb.mono (by decide))
def jS (k:Ci):Pt:=fS k.x (-1) k.y 0 k.q
def jI (k:Ci):Pt:=fS k.x 1 k.y 0 k.q
theorem n5:Rz 1 (1:Rat):=⟨by rw[show(1:Rat).num=1 from rfl];exact EF (by decide) (by decide),by rw[show((1:Rat).den:Int)=1 from rfl];exact Sz.one (by decide)⟩
theorem rN (hk:GK k) (h0:0<k.q):GP (jS k):=wG (hk.x.mono (by decide)) (n5.neg.mono (by decide)) (hk.y.mono (by decide)) (dH (by decide)) (hk.q.mono (by decide)) h0 (fun e=>absurd e.1 (by decide))
theorem rS (hk:GK k) (h0:0<k.q):GP (jI k):=wG (hk.x.mono (by decide)) (n5.mono (by decide)) (hk.y.mono (by decide)) (dH (by decide)) (hk.q.mono (by decide)) h0 (fun e=>absurd e.1 (by decide))
def Y0:List CellD:=Na++Na++Na++Na++Na
theorem MD (c:Cv) (r:List CellD):(aD c++r).take 66=aD c:=by rw[←ai c];exact List.take_left
theorem Zt {q:Rat}(h0:0<q) (hs:jd q=true):rt q≠0:=by
 intro h
 have hs2:=hs
 unfold jd Dg at hs2
 simp only[dN,beq_iff_eq] at hs2
 have hd:bV (q.den:Int)≠0:=by have:=yP (den_pos q);omega
 have hdq:((bV (q.den:Int):Int):Rat)≠0:=by simpa using hd
 have h1:((bV q.num:Int):Rat)=0:=by
  have h2:rt q*((bV (q.den:Int):Int):Rat)=((bV q.num:Int):Rat):=by unfold rt;rw[zo,o8 hdq]
  grind
 have h3:bV q.num=0:=by simpa using h1
 have h4:=hs2.1
 rw[h3,pD] at h4
 have h5:q=0:=Rat.num_eq_zero.1 h4.symm
 grind
def ap (k:Ci):List Cv:=[.arc k false (jS k) (jI k),.arc k false (jI k) (jS k)]
theorem Qv (h:cP p q≠0):(gz c (gz c [] p) q).length=2:=by
 unfold gz
 grind
theorem zO {l:List Pt}(h:cP p q≠0):2≤(cr c ([p,q]++l)).length:=by
 have h1:=(Ch (c:=c) l (gz c (gz c [] p) q)).1
 rw[Qv h] at h1
 exact h1
theorem Dm {q:Nat}
 (hU:tR P U=some (e,m,by_,zs)) (hx:cE T x=some .z) (hy:cE T y=some (.v (.c (.s q ys)))) (hq:q=0)
 (hg:gd ops ⟨dst,.call ⟨.builtin .append,#[x,y],#[U,U]⟩,ty,pos,af,g⟩ T=some true):
 Sem P ops ⟨dst,.call ⟨.builtin .append,#[x,y],#[U,U]⟩,ty,pos,af,g⟩ T B (.r .z):=by
 subst hq
 refine⟨pP rfl,fun V β a w hs=>⟨et hs hg,?_⟩⟩
 have e1:a.eval x=.slice none 0 0:=aE hs (x:=x) (by simp[Op.operands,Call.operands]) hx
 have h2:RdC V w (a.eval y) (.s 0 ys):=aE hs (x:=y) (by simp[Op.operands,Call.operands]) hy
 have hys:ys=[]:=by
  generalize a.eval y=vy at h2
  cases h2 with
  |s0=>rfl
  |s b off c sz n' xs' cv h0=>omega
 subst hys
 obtain⟨news,hsrc,_⟩:=rW hU h2 (by simp)
 obtain⟨hu,i,z,hi,hz,hsz,hby,_,hzr⟩:=iZ hU
 subst hsz
 have hn1:news=[]:=jP.1 (by rw[hsrc.newsLen,Nat.zero_mul])
 subst hn1
 have hrun:(Builtin.append_ #[U,U] ty #[.slice none 0 0,a.eval y]).run P w=.ok (.slice none 0 0) w:=by
  rcases hsrc.kind with⟨e',hk⟩|hk<;>simp[Builtin.append_,run_underlying hu,sizeOf,typeInfo,hi,hsrc.len,hsrc.cells]<;>rfl
 have hexec:(execOp a.eval ⟨dst,.call ⟨.builtin .append,#[x,y],#[U,U]⟩,ty,pos,af,g⟩).run P w=.ok (.value (.slice none 0 0)) w:=by
  simp only[execOp,resolve,invoke,builtin,eQ,fX,fe,qC,oU,qM,e1]
  rw[hrun]
  rfl
 unfold Gives
 rw[hexec]
 exact⟨rfl,eL _ w⟩
end Go.Proofs.YtegpmhlfjkhjmaaGreat
namespace Go.Proofs.YtegpmhlfjkhjmaaGreat
def uK (k:Fin 4):Bool:=k==0||k==1
def uF (k:Fin 4):Bool:=k==2||k==1
def Cw (u v:Bool) (n:Int):Int:=if u !=v then(if v then-1 else 1) else if u then-n else n
def AU (u v:Bool) (n:Int):Int:=if u !=v then(if u then-1 else 1) else if u then-n else n
def Fj (a1 a2 a3:Int):Int:=if decide (a1<0) !=decide (a2<0) then(if decide (a2<0) then-1 else 1) else a3
def Np (b:Int):Int:=if b=0 then 0 else if b>0 then 1 else 2
def Xy (n:Int):Int:=min 1 (max (-1) n)
def vm (b1 b2 b3:Int):Int:=if Np b1≠Np b2 then Xy (Np b1-Np b2) else Xy b3
def i3 (i:Fin 3):Int:=(i.val:Int)-1
def F8 (n1 n2 n3:Int):Bool:=(n2 !=0||n3==n1)&&(n1 !=0||n3== -n2)&&(n1 != -n2||n3==n1)
def um (k l:Fin 4) (n:Int):Bool:=
 if k=0 then n==(if l=0 then 0 else 1) else if k=2 then n==(if l=2 then 0 else-1)
 else if l=0 then n== -1 else if l=2 then n==1 else true
set_option maxRecDepth 100000 in
theorem Rw: ∀(uf up uq:Bool) (i j l:Fin 3),F8 (i3 i) (i3 j) (i3 l)=true→
 Fj (Cw up uf (i3 i)) (Cw uq uf (i3 j)) (Cw up uq (i3 l))=vm (AU up uf (i3 i)) (AU uq uf (i3 j)) (AU up uq (i3 l)):=by decide+kernel
def cwR (kf kp kt:Fin 4) (n1 n2 n3:Int):Bool:=
 decide (Fj (Cw (uF kf) (uF kf) 0) (Cw (uF kp) (uF kf) (-n1)) (Cw (uF kf) (uF kp) n1)≤0)&&
 decide (Fj (Cw (uF kp) (uF kf) (-n1)) (Cw (uF kt) (uF kf) (-n2)) (Cw (uF kp) (uF kt) (-n3))≤0)
def cwP (kf kp kt:Fin 4) (n1 n2 n3:Int):Bool:=
 decide (vm (AU (uK kp) (uK kt) n3) (AU (uK kf) (uK kt) (-n2)) (AU (uK kp) (uK kf) n1)≤0)
set_option maxRecDepth 100000 in
theorem Sr: ∀(kf kp kt:Fin 4) (i j l:Fin 3),F8 (i3 i) (i3 j) (i3 l)=true→um kp kf (i3 i)=true→um kt kf (i3 j)=true→um kp kt (i3 l)=true→
 cwR kf kp kt (i3 i) (i3 j) (i3 l)=cwP kf kp kt (i3 i) (i3 j) (i3 l):=by decide+kernel
def aco (uf up ut:Bool) (n1 n2 n3:Int):Bool:=
 decide (Fj (Cw uf uf 0) (Cw up uf n1) (Cw uf up (-n1))≤0)&&decide (Fj (Cw up uf n1) (Cw ut uf n2) (Cw up ut n3)≤0)
def acI (uf up ut:Bool) (n1 n2 n3:Int):Bool:=decide (vm (AU up uf n1) (AU ut uf n2) (AU up ut n3)≤0)
set_option maxRecDepth 100000 in
theorem QK: ∀(uf up ut:Bool) (i j l:Fin 3),F8 (i3 i) (i3 j) (i3 l)=true→aco uf up ut (i3 i) (i3 j) (i3 l)=acI uf up ut (i3 i) (i3 j) (i3 l):=by decide+kernel
end Go.Proofs.YtegpmhlfjkhjmaaGreat
namespace Go.Proofs.YtegpmhlfjkhjmaaGreat
open Go Go.RowKit
variable {w:Bool}{k:Ci}{c:Cv}{l:Ln}{f o p q t:Pt}{a a1 a2 b b1 b2 d v x y:Rat}
def pX (p:Pt):Re:=wY p.a1 p.b1 p.c
def pY (p:Pt):Re:=wY p.a2 p.b2 p.c
theorem co (h:GP p):0≤p.c:=C9 h.v
theorem pN (hp:0≤p.c) (hq:0≤q.c):cx p q=aS (pX p-pX q):=r6 hp hq
theorem tw (hp:0≤p.c) (hq:0≤q.c):cy p q=aS (pY p-pY q):=r6 hp hq
theorem od (hp:0≤p.c) (v:Rat):mS p v=aS (pX p-Re.of v):=by
 unfold mS
 rw[iX (li hp)]
 exact congrArg aS (bt fun n=>by unfold pX wY aC;simp only[aU,aG,aT,bi];grind)
theorem Cp (hp:0≤p.c) (v:Rat):sY p v=aS (pY p-Re.of v):=by
 unfold sY
 rw[iX (li hp)]
 exact congrArg aS (bt fun n=>by unfold pY wY aC;simp only[aU,aG,aT,bi];grind)
theorem d9 (hp:0≤p.c) (hq:0≤q.c):cx q p= -cx p q:=by rw[pN hp hq,pN hq hp,u6]
theorem Bi (hp:0≤p.c):cx p p=0:=by rw[pN hp hp,sX]
theorem S9 {A B c:Rat}(hc:0≤c) (b1 b2 x y:Rat) (hA:A=Iu x y b1 b2 c) (hB:B=IR x y b1 b2):
 aS (aC A B (zc B c)-(wY x b1 c*wY x b1 c+wY y b2 c*wY y b2 c))=0:=by
 subst hA hB
 rw[show aC (Iu x y b1 b2 c) (IR x y b1 b2) (zc (IR x y b1 b2) c)=wY (Iu x y b1 b2 c) (IR x y b1 b2) c from rfl,t9,t9,t9]
 have h:=ow hc
 have e:Re.of (Iu x y b1 b2 c)+Re.of (IR x y b1 b2)*Re.rt c-((Re.of x+Re.of b1*Re.rt c)*(Re.of x+Re.of b1*Re.rt c)+(Re.of y+Re.of b2*Re.rt c)*(Re.of y+Re.of b2*Re.rt c))=Re.of (-(b1*b1+b2*b2))*(Re.rt c*Re.rt c-Re.of c):=bt fun n=>by
  unfold Iu IR
  simp only[aU,aG,aT,bi];grind
 rw[e,bJ,h,pD]
def xf (k:Ci) (p:Pt):Re:=(pX p-Re.of k.x)*(pX p-Re.of k.x)+(pY p-Re.of k.y)*(pY p-Re.of k.y)-Re.of k.q
theorem D7 (a b c v:Rat):wY (a-v) b c=wY a b c-Re.of v:=bt fun n=>by unfold wY aC;simp only[aU,aG,aT,bi];grind
theorem UW (hp:0≤p.c):aS (aC (F9 k p) (Dh k p) (zc (Dh k p) p.c))=aS (xf k p):=by
 refine dP ?_
 have h:=S9 (A:=Iu (p.a1-k.x) (p.a2-k.y) p.b1 p.b2 p.c) (B:=Dh k p) hp p.b1 p.b2 (p.a1-k.x) (p.a2-k.y) rfl rfl
 rw[←h]
 refine congrArg aS (bt fun n=>?_)
 unfold xf pX pY
 rw[D7,D7]
 unfold F9 aC
 simp only[aU,aG,aT,bi];grind
theorem FH (hv:uE p.b1 p.b2 p.c=true):mp k p= -aS (xf k p):=by
 unfold mp
 rw[←UW (C9 hv),Oa (li (C9 hv))]
 intro hb
 have h:=QE hv (x:=p.a1-k.x) (y:=p.a2-k.y) hb
 rw[show zc (Dh k p) p.c=p.c from by unfold zc;rw[if_neg hb]]
 grind
theorem An (hp:GP p):mp k p= -aS (xf k p):=FH hp.v
theorem Uv (k:Ci) (p:Pt): -1≤mp k p∧mp k p≤1:=by have:=Vj (F9 k p) (Dh k p) (zc (Dh k p) p.c);unfold mp;omega
def OnK (k:Ci) (p:Pt):Prop:=GP p∧mp k p=0
theorem b7:(Cv.arc k w f t).supp p=true↔mp k p=0:=by
 show(mp k p==0)=true↔_
 simp
def kd (k:Ci) (p:Pt):Fin 4:=if sY p k.y>0 then 1 else if sY p k.y=0 then(if mS p k.x>0 then 0 else 2) else 3
theorem fL (k:Ci) (p:Pt):ll k p=uK (kd k p):=by
 unfold ll kd uK
 by_cases h:sY p k.y>0
 ·grind
 grind
section
variable {k:Ci}{p:Pt}(hq:0<k.q) (hp:OnK k p)
include hp
theorem bn:0≤p.c:=co hp.1
theorem xo:aS (xf k p)=0:=by have h1:=An (k:=k) hp.1;rw[hp.2] at h1;omega
include hq
theorem OW (h:sY p k.y=0):mS p k.x≠0:=by
 intro h2
 rw[Cp (bn hp)] at h
 rw[od (bn hp)] at h2
 have e:Re.of k.q=((pX p-Re.of k.x)*(pX p-Re.of k.x)+(pY p-Re.of k.y)*(pY p-Re.of k.y))+ -xf k p:=bt fun n=>by unfold xf;simp only[aU,aG,aT,bi,bE];grind
 have h3:aS (Re.of k.q)=0:=by
  rw[e,dO _ (by rw[cm,xo hp];rfl),dO _ (by rw[bJ,h,qk]),bJ,h2,qk]
 rw[cO] at h3
 have:=B7.1 h3
 grind
end
theorem Bf (p:Pt):pX p.flip= -pX p:=bt fun n=>by
 show(wY (-p.a1) (-p.b1) p.c).s n=_
 unfold pX wY aC
 have:zc (-p.b1) p.c=zc p.b1 p.c:=by
  by_cases h:p.b1=0
  ·grind
  ·rw[pe h,pe (by grind)]
 simp only[aU,aT,bi,bE];grind
theorem T9 (p:Pt):pY p.flip=pY p:=rfl
theorem CJ (hp:0≤p.c):mS p.flip k.mir.x= -mS p k.x:=by
 rw[od (show 0≤p.flip.c from hp),od hp,Bf,←cm]
 exact congrArg aS (bt fun n=>by show _+ -(-k.x)=_;simp only[aG,bi,bE];grind)
theorem BB (k:Ci) (p:Pt):sY p.flip k.mir.y=sY p k.y:=rfl
theorem nj (hp:0≤p.c) (hq:0≤q.c):cx p.flip q.flip= -cx p q:=by
 rw[pN (show 0≤p.flip.c from hp) (show 0≤q.flip.c from hq),pN hp hq,Bf,Bf,←cm]
 exact congrArg aS (bt fun n=>by simp only[aG,bE];grind)
theorem sr (hq:0<k.q) (hp:OnK k p):ll k.mir p.flip=uF (kd k p):=by
 have h1:=CJ (k:=k) (bn hp)
 have h2:=OW hq hp
 unfold ll kd uF
 rw[h1,BB]
 by_cases h:sY p k.y>0
 ·grind
 grind
theorem fu (k:Ci) (p q:Pt):fG k p q=Cw (ll k p) (ll k q) (cx p q):=rfl
def ov (k:Ci) (p q:Pt):Int:=AU (ll k p) (ll k q) (cx p q)
def sj (k:Ci) (f p:Pt):Int:=Np (ov k p f)
def x7 (k:Ci) (f p q:Pt):Int:=vm (ov k p f) (ov k q f) (ov k p q)
theorem sb (k:Ci) (f p q:Pt):r9 k f p q=Fj (fG k p f) (fG k q f) (fG k p q):=rfl
theorem fR {n:Int}(h: -1≤n∧n≤1): ∃i:Fin 3,n=i3 i:=by
 rcases(by omega:n= -1∨n=0∨n=1) with h|h|h
 ·exact⟨0,h⟩
 ·exact⟨1,h⟩
 ·exact⟨2,h⟩
theorem kh (hf:0≤f.c) (hp:0≤p.c) (ht:0≤t.c):F8 (cx p f) (cx t f) (cx p t)=true:=by
 rw[pN hp hf,pN ht hf,pN hp ht]
 have e2:pX p-pX t=(pX p-pX f)+ -(pX t-pX f):=bt fun n=>by simp only[aU,aG,bE];grind
 unfold F8
 simp only[dN,ss,bne_iff_ne,beq_iff_eq]
 refine⟨⟨?_,?_⟩,?_⟩
 ·by_cases h:aS (pX t-pX f)=0
  ·right;rw[e2];exact dO _ (by rw[cm,h];rfl)
  grind
 ·by_cases h:aS (pX p-pX f)=0
  ·right;rw[e2,m8 h,cm]
  grind
 ·by_cases h:aS (pX p-pX f)= -aS (pX t-pX f)
  ·right;rw[e2,jD (by rw[cm];exact h)]
  grind
theorem YP (X:Re):aS (X+X)=aS X:=jD rfl
theorem BT {l:Pt}(hp:OnK k p) (hl:OnK k l) (h0:sY p k.y=0) (h1:mS p k.x>0):
 (sY l k.y=0∧mS l k.x>0∧cx p l=0)∨(¬(sY l k.y=0∧mS l k.x>0)∧cx p l=1):=by
 have cp:=bn hp
 have cl:=bn hl
 rw[Cp cp] at h0
 rw[od cp] at h1
 rw[Cp cl,od cl,pN cp cl]
 generalize hP:pX p-Re.of k.x=P at*
 generalize hL:pX l-Re.of k.x=L at*
 generalize hY:pY p-Re.of k.y=Y at*
 generalize hZ:pY l-Re.of k.y=Z at*
 have d:pX p-pX l=P-L:=by rw[←hP,←hL];exact bt fun n=>by simp only[aG];grind
 rw[d]
 have w1:xf k p=P*P+Y*Y-Re.of k.q:=by rw[←hP,←hY];rfl
 have w2:xf k l=L*L+Z*Z-Re.of k.q:=by rw[←hL,←hZ];rfl
 have e:(P-L)*(P+L)=(Z*Z+(P*P+Y*Y-Re.of k.q))+(-(L*L+Z*Z-Re.of k.q)+ -(Y*Y)):=bt fun n=>by simp only[aU,aG,aT,bi,bE];grind
 have z1:aS (-(L*L+Z*Z-Re.of k.q)+ -(Y*Y))=0:=by
  rw[dO _ (by rw[cm,bJ,h0];rfl),cm,←w2,xo hl];rfl
 have hprod:aS (P-L)*aS (P+L)=aS Z*aS Z:=by
  rw[←bJ,e,dO _ z1,dO _ (by rw[←w1];exact xo hp),bJ]
 have s2:(P-L)+(P+L)=P+P:=bt fun n=>by simp only[aU,aG];grind
 have hP1:aS (P+P)=1:=by rw[YP];have:=bL P;omega
 have hPL:L=P+ -(P-L):=bt fun n=>by simp only[aU,aG,bE];grind
 have hPL2:L= -P+(P+L):=bt fun n=>by simp only[aU,bE];grind
 rcases bL Z with c|c|c
 ·right
  refine⟨fun h=>by omega,?_⟩
  rcases bL (P-L) with a|a|a
  ·exact a
  ·grind
  ·exfalso
   have:aS (P+L)= -1:=by grind
   have:=jD (x:=P-L) (y:=P+L) (by omega)
   grind
 ·rw[c] at hprod
  rcases bL (P-L) with a|a|a
  ·right
   have h5:aS (P+L)=0:=by grind
   have:aS L= -aS P:=by rw[hPL2,dO _ h5,cm]
   omega
  ·left
   have:aS L=aS P:=by rw[hPL,dO _ (by rw[cm,a];rfl)]
   grind
  ·exfalso
   have h5:aS (P+L)=0:=by grind
   have:=dO (P-L) h5
   grind
 ·right
  refine⟨fun h=>by omega,?_⟩
  rcases bL (P-L) with a|a|a
  ·exact a
  ·grind
  ·exfalso
   have:aS (P+L)= -1:=by grind
   have:=jD (x:=P-L) (y:=P+L) (by omega)
   grind
theorem Q8 (_hp:0≤p.c):aS (xf k.mir p.flip)=aS (xf k p):=by
 refine congrArg aS (bt fun n=>?_)
 unfold xf
 rw[Bf,T9]
 simp only[Ci.mir,aU,aG,aT,bi,bE];grind
theorem OnK.flip (hp:OnK k p):OnK k.mir p.flip:=by
 refine⟨hp.1.flip,?_⟩
 rw[An hp.1.flip,Q8 (bn hp),xo hp];rfl
theorem Fp {l:Pt}(hp:OnK k p) (hl:OnK k l) (h0:sY p k.y=0) (h1:mS p k.x<0):
 (sY l k.y=0∧mS l k.x<0∧cx p l=0)∨(¬(sY l k.y=0∧mS l k.x<0)∧cx p l= -1):=by
 have h:=BT hp.flip hl.flip (by rw[BB];exact h0) (by rw[CJ (bn hp)];omega)
 rw[BB,CJ (bn hl),nj (bn hp) (bn hl)] at h
 grind
theorem zh (hq:0<k.q) (hp:OnK k p):(kd k p=0∧sY p k.y=0∧mS p k.x>0)∨(kd k p=1∧sY p k.y>0)∨(kd k p=2∧sY p k.y=0∧mS p k.x<0)∨(kd k p=3∧sY p k.y<0):=by
 have h2:=OW hq hp
 unfold kd
 grind
theorem iF {l:Pt}(hq:0<k.q) (hp:OnK k p) (hl:OnK k l):um (kd k p) (kd k l) (cx p l)=true:=by
 have R:=BT hp hl
 have L:=Fp hp hl
 have R':=BT hl hp
 have L':=Fp hl hp
 rw[d9 (bn hp) (bn hl)] at R' L'
 rcases zh hq hp with⟨e1,a1,a2⟩|⟨e1,a1⟩|⟨e1,a1,a2⟩|⟨e1,a1⟩<;>rcases zh hq hl with⟨e2,b1,b2⟩|⟨e2,b1⟩|⟨e2,b1,b2⟩|⟨e2,b1⟩<;>rw[e1,e2]<;>simp[um]
 all_goals first
  |(have h:=R a1 a2;omega)
  |(have h:=L a1 a2;omega)
  |(have h:=R' b1 b2;omega)
  |(have h:=L' b1 b2;omega)
theorem E1 (hf:GP f) (ht:GP t) (hp:GP p):(decide ((Cv.arc k false f t).ord f p≤0)&&decide ((Cv.arc k false f t).ord p t≤0))=decide (x7 k f p t≤0):=by
 have cf:=co hf
 have ct:=co ht
 have cp:=co hp
 show(decide (r9 k f f p≤0)&&decide (r9 k f p t≤0))=_
 have ht:=kh cf cp ct
 obtain⟨i,hi⟩:=fR (fv p f)
 obtain⟨j,hj⟩:=fR (fv t f)
 obtain⟨l,hl⟩:=fR (fv p t)
 have h:=QK (ll k f) (ll k p) (ll k t) i j l (by rw[←hi,←hj,←hl];exact ht)
 rw[←hi,←hj,←hl] at h
 rw[sb,sb,fu,fu,fu,fu,fu,Bi cf,d9 cp cf]
 exact h
theorem Ea (hq:0<k.q) (hf:OnK k f) (ht:OnK k t) (hp:OnK k p):(decide ((Cv.arc k true f t).ord f p≤0)&&decide ((Cv.arc k true f t).ord p t≤0))=decide (x7 k t p f≤0):=by
 have cf:=bn hf
 have ct:=bn ht
 have cp:=bn hp
 show(decide (r9 k.mir f.flip f.flip p.flip≤0)&&decide (r9 k.mir f.flip p.flip t.flip≤0))=_
 have h3:=kh cf cp ct
 have m1:=iF hq hp hf
 have m2:=iF hq ht hf
 have m3:=iF hq hp ht
 obtain⟨i,hi⟩:=fR (fv p f)
 obtain⟨j,hj⟩:=fR (fv t f)
 obtain⟨l,hl⟩:=fR (fv p t)
 rw[hi] at m1
 rw[hj] at m2
 rw[hl] at m3
 have h:=Sr (kd k f) (kd k p) (kd k t) i j l (by rw[←hi,←hj,←hl];exact h3) m1 m2 m3
 rw[←hi,←hj,←hl] at h
 unfold cwR cwP at h
 rw[sb,sb,fu,fu,fu,fu,fu,nj cf cf,nj cp cf,nj cf cp,nj ct cf,nj cp ct,Bi cf,d9 cp cf,Int.neg_zero,Int.neg_neg,sr hq hf,sr hq hp,sr hq ht,h]
 unfold x7 ov
 rw[d9 ct cf,fL,fL,fL]
theorem Wv (k:Ci) (f p q:Pt): -1≤x7 k f p q∧x7 k f p q≤1:=by unfold x7 vm Xy;split<;>omega
theorem Sj (hf:GP f) (hp:GP p) (hq:GP q):(Cv.arc k false f t).ord p q=x7 k f p q:=by
 show r9 k f p q=_
 have ht:=kh (co hf) (co hp) (co hq)
 obtain⟨i,hi⟩:=fR (fv p f)
 obtain⟨j,hj⟩:=fR (fv q f)
 obtain⟨l,hl⟩:=fR (fv p q)
 have h:=Rw (ll k f) (ll k p) (ll k q) i j l (by rw[←hi,←hj,←hl];exact ht)
 rw[←hi,←hj,←hl] at h
 exact h
theorem NX (a b c:Rat):eB a b c≤eF a b c:=by
 cases h:ei a b c with
 |true=>have hi:=J6 h;exact fH.1 (gg (eo hi.1 hi.2))
 |false=>rw[(rE h).1,(rE h).2];exact nH _
theorem Ot (a b c:Rat):Bd (eB a b c)∧Bd (eF a b c):=by
 cases h:ei a b c with
 |false=>rw[(rE h).1,(rE h).2];exact⟨Bd.zero,Bd.zero⟩
 |true=>
  have hle:=NX a b c
  have h2:=h
  unfold ei Tj at h2
  simp only[dN,ss] at h2
  unfold eB eF at*
  rw[if_pos h,if_pos h] at*
  have h3:=Dz h2.1
  split
  ·exact⟨⟨h3.1,h3.2.1⟩,h3.2.2⟩
  ·rename_i g
   rw[if_neg g,if_neg g] at hle
   have h4:=LZ (h2.2.resolve_left g).2.2.2.2
   unfold Bd
   omega
theorem Y7 (a b c:Rat):Bd (eB a b c):=(Ot a b c).1
theorem aby (a b c:Rat):Bd (eF a b c):=(Ot a b c).2
theorem Bd.neg {x:Int}(h:Bd x):Bd (-x):=by unfold Bd at*;omega
theorem Oh {lo hi:Int}{X:Re}(h:uG lo hi X):uG (-hi) (-lo) (-X):=by
 refine⟨kZ (fun k=>?_) h.2,kZ (fun k=>?_) h.1⟩
 ·simp only[aG,aT,bi,bE,rF];grind
 ·simp only[aG,aT,bi,bE,rF];grind
theorem Vf {x y:Int}(h:x≤y): -y≤ -x:=by omega
def AV (a b c v:Rat):Bool:=ei a b c&&jj v
def Eu (a b c v:Rat):Int:=if AV a b c v then aL (eB a b c) (eF a b c) (-gH v) (-gL v) else 0
def DF (a b c v:Rat):Int:=if AV a b c v then aH (eB a b c) (eF a b c) (-gH v) (-gL v) else 0
def Iv (a b c v:Rat):Bool:=AV a b c v&&wS (eB a b c+ -gH v) (eF a b c+ -gL v)
section
variable {a b c v:Rat}
theorem DP (h:AV a b c v=false):Eu a b c v=0∧DF a b c v=0∧Iv a b c v=false:=by unfold Eu DF Iv;rw[h];exact⟨rfl,rfl,rfl⟩
theorem EL (h:AV a b c v=true):Eu a b c v=aL (eB a b c) (eF a b c) (-gH v) (-gL v)∧DF a b c v=aH (eB a b c) (eF a b c) (-gH v) (-gL v)∧Iv a b c v=wS (eB a b c+ -gH v) (eF a b c+ -gL v):=by unfold Eu DF Iv;rw[h];exact⟨rfl,rfl,rfl⟩
theorem Fw (a b c v:Rat):Bd (Eu a b c v):=by
 unfold Eu;split
 ·exact Lw (NX _ _ _) (Vf (Di _))
 ·exact Bd.zero
theorem E8 (a b c v:Rat):Bd (DF a b c v):=by
 unfold DF;split
 ·exact Ke (NX _ _ _) (Vf (Di _))
 ·exact Bd.zero
theorem Vh (h:Iv a b c v=true):uG (Eu a b c v) (DF a b c v) (aC a b c+ -Re.of v):=by
 have h0:=h
 unfold Iv at h
 rw[dN] at h
 obtain⟨e1,e2,_⟩:=EL h.1
 rw[e1,e2]
 have h2:=h.1
 unfold AV at h2
 rw[dN] at h2
 exact Ni (J6 h2.1) (Oh (HB h2.2)) h.2
end
section
variable (k:Ci) (p:Pt)
def Pp:Int:=pL (Eu p.a1 p.b1 p.c k.x) (DF p.a1 p.b1 p.c k.x) (Eu p.a1 p.b1 p.c k.x) (DF p.a1 p.b1 p.c k.x)
def N9:Int:=pH (Eu p.a1 p.b1 p.c k.x) (DF p.a1 p.b1 p.c k.x) (Eu p.a1 p.b1 p.c k.x) (DF p.a1 p.b1 p.c k.x)
def UA:Bool:=zl (Eu p.a1 p.b1 p.c k.x) (DF p.a1 p.b1 p.c k.x) (Eu p.a1 p.b1 p.c k.x) (DF p.a1 p.b1 p.c k.x) 4
def PZ:Int:=pL (Eu p.a2 p.b2 p.c k.y) (DF p.a2 p.b2 p.c k.y) (Eu p.a2 p.b2 p.c k.y) (DF p.a2 p.b2 p.c k.y)
def ND:Int:=pH (Eu p.a2 p.b2 p.c k.y) (DF p.a2 p.b2 p.c k.y) (Eu p.a2 p.b2 p.c k.y) (DF p.a2 p.b2 p.c k.y)
def WZ:Bool:=zl (Eu p.a2 p.b2 p.c k.y) (DF p.a2 p.b2 p.c k.y) (Eu p.a2 p.b2 p.c k.y) (DF p.a2 p.b2 p.c k.y) 4
def smL:Int:=aL (Pp k p) (N9 k p) (PZ k p) (ND k p)
def Z5:Int:=aH (Pp k p) (N9 k p) (PZ k p) (ND k p)
def smK:Bool:=wS (Pp k p+PZ k p) (N9 k p+ND k p)
def rsL:Int:=aL (smL k p) (Z5 k p) (-gH k.q) (-gL k.q)
def Z1:Int:=aH (smL k p) (Z5 k p) (-gH k.q) (-gL k.q)
def rsK:Bool:=wS (smL k p+ -gH k.q) (Z5 k p+ -gL k.q)
def RO:Bool:=Iv p.a1 p.b1 p.c k.x&&(Iv p.a2 p.b2 p.c k.y&&jj k.q)
def Kv:Bool:=RO k p&&(UA k p&&WZ k p)
def It:Bool:=Kv k p&&smK k p
def Dr:Bool:=It k p&&rsK k p
def VG:Bool:=Dr k p&&Mz (rsL k p) (Z1 k p)
def UF:Int:=if Dr k p then Md (rsL k p) (Z1 k p) else 0
end
section
variable {k:Ci}{p:Pt}
theorem rI (h:Dr k p=false):UF k p=0∧VG k p=false:=by unfold UF VG;rw[h];exact⟨rfl,rfl⟩
theorem Ji (h:Dr k p=true):UF k p=Md (rsL k p) (Z1 k p)∧VG k p=Mz (rsL k p) (Z1 k p):=by unfold UF VG;rw[h];exact⟨rfl,rfl⟩
theorem v3z {c:Rat}:aC a b (zc b c)=aC a b c:=bt fun n=>by
 unfold aC zc
 by_cases h:b=0
 ·subst h;simp only[aU,aT,bi];grind
 ·rw[if_neg h]
theorem SN (h:VG k p=true):UF k p=aS (xf k p):=by
 unfold VG at h
 rw[dN] at h
 obtain⟨h4,hs⟩:=h
 rw[(Ji h4).1]
 unfold Dr It Kv RO at h4
 simp only[dN] at h4
 obtain⟨⟨⟨⟨k1,k2,k3⟩,k4,k5⟩,k6⟩,k7⟩:=h4
 have i1:=Vh k1
 have i2:=Vh k2
 have j1:uG (Pp k p) (N9 k p) _:=MH i1 i1 k4
 have j2:uG (PZ k p) (ND k p) _:=MH i2 i2 k5
 have j3:uG (smL k p) (Z5 k p) _:=Ni j1 j2 k6
 have j4:uG (rsL k p) (Z1 k p) _:=Ni j3 (Oh (HB k3)) k7
 rw[Ks j4 hs]
 refine congrArg aS (bt fun n=>?_)
 unfold xf pX pY wY
 rw[v3z,v3z]
 simp only[aU,aG,aT,bi,bE]
theorem LG:Bd (Pp k p)∧Bd (N9 k p):=⟨D8 _ _ _ _,Eh _ _ _ _⟩
theorem LW:Bd (PZ k p)∧Bd (ND k p):=⟨D8 _ _ _ _,Eh _ _ _ _⟩
theorem Or:Bd (smL k p)∧Bd (Z5 k p):=⟨Lw (AS _ _ _ _) (AS _ _ _ _),Ke (AS _ _ _ _) (AS _ _ _ _)⟩
theorem Zl (hv:uE p.b1 p.b2 p.c=true) (h:VG k p=true): -UF k p=mp k p:=by rw[SN h,FH hv]
theorem aaR (hv:uE p.b1 p.b2 p.c=true): -bo (F9 k p) (Dh k p) p.c=mp k p:=by
 rw[iX (C9 hv),FH hv,←UW (C9 hv),v3z]
end
def RS (l:Ln) (p:Pt):Re:=Re.of l.a*pX p+Re.of l.b*pY p-Re.of l.c
theorem UE:aC (vA l p) (vB l p) p.c=RS l p:=bt fun n=>by
 unfold RS pX pY wY
 rw[v3z,v3z]
 unfold aC vA vB
 simp only[aU,aG,aT,bi];grind
theorem Q0 (hp:GP p):AI l p=aS (RS l p):=by
 have hv:=hp.v
 have hc:=co hp
 unfold AI
 by_cases hb:vB l p=0
 ·rw[TP (.inl hb),TN (.inl hb),Oa (by decide) (fun h=>absurd rfl h),←UE]
  refine congrArg aS (bt fun n=>?_)
  unfold aC
  simp only[aU,aT,bi];grind
 ·have hcc:0<p.c∧jd p.c=false:=by
   unfold uE at hv
   split at hv
   ·rename_i e
    exact absurd (by unfold vB;rw[e.1,e.2];grind) hb
   grind
  have hc0:p.c≠0:=by have:=hcc.1;grind
  have e1:rB (vB l p) p.c=vB l p:=by unfold rB;rw[if_neg (by rintro(h|h);exact hb h;exact hc0 h)]
  have e2:rC (vB l p) p.c=p.c:=by unfold rC;rw[if_neg (by rintro(h|h);exact hb h;exact hc0 h)]
  rw[e1,e2,Oa hc (fun _=>hcc),UE]
def Cv.pos:Cv→Prop
 | .seg ..=>True
 | .arc k _ _ _=>0<k.q
structure CvV (c:Cv):Prop where
 g:c.good
 pos:c.pos
 sp:c.supp c.p=true
 sq:c.supp c.q=true
 ne:cP c.p c.q≠0
theorem fj:cP p q=0↔cx p q=0∧cy p q=0:=by
 show(if cx p q≠0 then cx p q else cy p q)=0↔_
 grind
theorem fD (hp:0≤p.c) (hq:0≤q.c):cP q p= -cP p q:=I4 hp hq
theorem l5 (hp:0≤p.c):cP p p=0:=JR hp
theorem CvV.rev (h:CvV c):CvV c.rev:=by
 have hp:=co (iq h.g)
 have hq:=co (o7 h.g)
 cases c with
 |seg l p q=>exact⟨H4 h.g,trivial,h.sq,h.sp,fun e=>h.ne (by have:=fD hp hq;have e2:cP q p=0:=e;show cP p q=0;have h3:cP q p= -cP p q:=this;omega)⟩
 |arc k w p q=>exact⟨H4 h.g,h.pos,h.sq,h.sp,fun e=>h.ne (by have:=fD hp hq;have e2:cP q p=0:=e;show cP p q=0;have h3:cP q p= -cP p q:=this;omega)⟩
theorem A7 {x y:Re}(h:aS (x-y)=0) (v:Re):aS (x-v)=aS (y-v):=dP (by rw[←h];exact congrArg aS (bt fun n=>by simp only[aG];grind))
section
variable {p q:Pt}(hp:0≤p.c) (hq:0≤q.c) (h:cP p q=0)
include hp hq h
theorem ww (hf:0≤f.c):cx p f=cx q f:=by
 have h1:=(fj.1 h).1
 rw[pN hp hq] at h1
 rw[pN hp hf,pN hq hf];exact A7 h1 _
theorem Bg (hf:0≤f.c):cy p f=cy q f:=by
 have h1:=(fj.1 h).2
 rw[tw hp hq] at h1
 rw[tw hp hf,tw hq hf];exact A7 h1 _
theorem Oi (v:Rat):mS p v=mS q v:=by
 have h1:=(fj.1 h).1
 rw[pN hp hq] at h1
 rw[od hp,od hq];exact A7 h1 _
theorem Q7 (v:Rat):sY p v=sY q v:=by
 have h1:=(fj.1 h).2
 rw[tw hp hq] at h1
 rw[Cp hp,Cp hq];exact A7 h1 _
theorem CU (k:Ci):ll k p=ll k q:=by unfold ll;rw[Oi hp hq h,Q7 hp hq h]
theorem Gi (hf:0≤f.c):r9 k f p q=0:=by
 rw[sb,fu,fu,fu,ww hp hq h hf,CU hp hq h,(fj.1 h).1]
 unfold Fj
 unfold Cw
 simp
theorem vU (hc:c.good):c.ord p q=0:=by
 have hf:=co (iq hc)
 cases c with
 |seg l f t=>
  show(if decide (cP f t>0)=true then-cP p q else cP p q)=0
  grind
 |arc k w f t=>
  show(if (!w)=true then r9 k f p q else r9 k.mir f.flip p.flip q.flip)=0
  split
  ·exact Gi hp hq h hf
  ·refine Gi (p:=p.flip) (q:=q.flip) hp hq (fj.2 ⟨?_,?_⟩) (f:=f.flip) hf
   ·rw[nj hp hq,(fj.1 h).1];rfl
   ·exact(fj.1 h).2
end
theorem r5 (hc:c.good) (hp:GP p) (hq:GP q) (h:c.ord p q<0):cP p q≠0:=fun e=>by
 have:=vU (co hp) (co hq) e hc
 omega
theorem B6 {x:Pt}:gz c [] x=[x]:=rfl
theorem zd {x:Pt}{l:List Pt}(h:c.ord o x<0):gz c (o::l) x=o::gz c l x:=by
 have e:nD c x (o::l)=nD c x l+1:=by show(if c.ord o x<0 then nD c x l+1 else 0)=_;rw[if_pos h]
 unfold gz
 grind
theorem y8 {x:Pt}{l:List Pt}(h: ¬c.ord o x<0):gz c (o::l) x=if cP o x=0 then o::l else x::o::l:=by
 have e:nD c x (o::l)=0:=by show(if c.ord o x<0 then nD c x l+1 else 0)=_;rw[if_neg h]
 unfold gz
 grind
def yX:List Pt→Prop
 |p::q::l=>cP p q≠0∧yX (q::l)
 |_=>True
theorem OS {l:List Pt}(h:yX (o::l)):yX l:=by
 cases l with
 |nil=>trivial
 |cons p l=>exact h.2
theorem Gx {c:Cv}(hc:c.good) {x:Pt}(hx:GP x): ∀ {l:List Pt},(∀p∈l,GP p)→yX l→yX (gz c l x)
 |[],_,_=>trivial
 |o::l,hl,h=>by
  by_cases g:c.ord o x<0
  ·rw[zd g]
   have ih:=Gx hc hx (l:=l) (fun p hp=>hl p (fB _ hp)) (OS h)
   have ho:=r5 hc (hl o fJ) hx g
   cases l with
   |nil=>exact⟨ho,trivial⟩
   |cons p l=>
    by_cases g2:c.ord p x<0
    ·rw[zd g2] at ih⊢;exact⟨h.1,ih⟩
    ·rw[y8 g2] at ih⊢
     by_cases e:cP p x=0
     ·rw[if_pos e];exact h
     ·rw[if_neg e] at ih⊢;exact⟨ho,ih⟩
  ·rw[y8 g]
   by_cases e:cP o x=0
   ·rw[if_pos e];exact h
   ·rw[if_neg e]
    refine⟨fun e2=>e ?_,h⟩
    rw[fD (co hx) (co (hl o fJ)),e2];rfl
theorem Ia {c:Cv}(hc:c.good): ∀ {l out:List Pt},(∀p∈l,GP p)→(∀p∈out,GP p)→yX out→yX (l.foldl (gz c) out)
 |[],_,_,_,h=>h
 |x::l,out,hl,ho,h=>by
  refine Ia hc (l:=l) (out:=gz c out x) (fun p hp=>hl p (fB _ hp)) (fun p hp=>?_) (Gx hc (hl x fJ) ho h)
  rcases sP hp with e|e
  ·exact ho p e
  ·rw[e];exact hl x fJ
theorem M3 (hc:c.good) {l:List Pt}(hl: ∀p∈l,GP p):yX (cr c l):=Ia hc hl (fun p hp=>by cases hp) trivial
theorem Eg {c:Cv}: ∀ {l:List Pt}{d:Cv},yX l→d∈gC c l→ ∃p q,p∈l∧q∈l∧cP p q≠0∧d=c.ends p q
 |p::q::l,d,ha,h=>by
  rcases dA.1 (show d∈c.ends p q::gC c (q::l) from h) with h|h
  ·exact⟨p,q,fJ,fB _ fJ,ha.1,h⟩
  ·obtain⟨p',q',h1,h2,h3,h4⟩:=Eg ha.2 h
   exact⟨p',q',fB _ h1,fB _ h2,h3,h4⟩
 |[_],d,_,h=>by cases h
 |[],d,_,h=>by cases h
theorem Rl (c:Cv) (p q:Pt):(c.ends p q).p=p:=by cases c<;>rfl
theorem OO (c:Cv) (p q:Pt):(c.ends p q).q=q:=by cases c<;>rfl
theorem DI (c:Cv) (p q x:Pt):(c.ends p q).supp x=c.supp x:=by cases c<;>rfl
theorem OG (h:c.pos) (p q:Pt):(c.ends p q).pos:=by cases c<;>exact h
theorem E3 (h:c.on p=true):c.supp p=true:=by
 unfold Cv.on at h
 grind
theorem SW (h:CvV c) {L:List Pt}(hL: ∀p∈L,GP p) (hs: ∀p∈L,c.supp p=true): ∀d∈je c L,CvV d:=by
 intro d hd
 have hG: ∀p∈ [c.p,c.q]++L,GP p:=by
  intro p hp
  simp only[List.cons_append,nI,dA] at hp
  rcases hp with e|e|e
  ·rw[e];exact iq h.g
  ·rw[e];exact o7 h.g
  grind
 have hS: ∀p∈ [c.p,c.q]++L,c.supp p=true:=by
  intro p hp
  simp only[List.cons_append,nI,dA] at hp
  rcases hp with e|e|e
  ·rw[e];exact h.sp
  ·rw[e];exact h.sq
  grind
 obtain⟨p,q,h1,h2,h3,rfl⟩:=Eg (M3 h.g hG) hd
 have m1:=mI h1
 have m2:=mI h2
 exact⟨Ma h.g (hG p m1) (hG q m2),OG h.pos p q,by rw[Rl,DI];exact hS p m1,by rw[OO,DI];exact hS q m2,by rw[Rl,OO];exact h3⟩
theorem Zc (a b:Rat):pX (rP a b)=Re.of a:=bt fun n=>by unfold pX wY aC;simp only[aU,aT,bi,rP];grind
theorem aa4 (a b:Rat):pY (rP a b)=Re.of b:=bt fun n=>by unfold pY wY aC;simp only[aU,aT,bi,rP];grind
theorem Wc (hp:GP (rP a b)) (h:(a-k.x)*(a-k.x)+(b-k.y)*(b-k.y)=k.q):mp k (rP a b)=0:=by
 rw[An hp]
 unfold xf
 rw[Zc,aa4,xO,xO,gZ,gZ,XR,xO,cO,h,B7.2 (show k.q-k.q=0 by grind)];rfl
theorem Jr {q:Rat}(_h0:0<q) (hs:jd q=true):rt q*rt q=q:=by
 have hs2:=hs
 unfold jd Dg at hs2
 simp only[dN,beq_iff_eq] at hs2
 have hd:bV (q.den:Int)≠0:=by have:=yP (den_pos q);omega
 have hdq:((bV (q.den:Int):Int):Rat)≠0:=by simpa using hd
 have h2:rt q*((bV (q.den:Int):Int):Rat)=((bV q.num:Int):Rat):=by unfold rt;rw[zo,o8 hdq]
 have h3:=uo q
 have e1:((q.num:Int):Rat)=((bV q.num:Int):Rat)*((bV q.num:Int):Rat):=by rw[←fZ,hs2.1]
 have e2:(((q.den:Int)):Rat)=((bV (q.den:Int):Int):Rat)*((bV (q.den:Int):Int):Rat):=by rw[←fZ,hs2.2]
 grind
theorem Nz (s:Rat) (hs:s*s=1) (h0:0<k.q) (hp:GP (fS k.x s k.y 0 k.q)):mp k (fS k.x s k.y 0 k.q)=0:=by
 cases hq:jd k.q with
 |true=>
  have e:fS k.x s k.y 0 k.q=rP (k.x+s*rt k.q) (k.y+0*rt k.q):=by unfold fS;rw[hq];rfl
  rw[e] at hp⊢
  refine Wc hp ?_
  have:=Jr h0 hq
  grind
 |false=>
  have e:fS k.x s k.y 0 k.q=⟨k.x,s,k.y,0,k.q⟩:=by unfold fS;rw[hq];rfl
  rw[An hp]
  have hc:(0:Rat)≤k.q:=by grind
  have h:=ow hc
  have e2:xf k ⟨k.x,s,k.y,0,k.q⟩=Re.rt k.q*Re.rt k.q-Re.of k.q:=bt fun n=>by
   unfold xf pX pY
   rw[t9,t9]
   simp only[aU,aG,aT,bi];grind
  grind
theorem Ft (hk:GK k) (h0:0<k.q):mp k (jS k)=0:=Nz (-1) (by decide+kernel) h0 (rN hk h0)
theorem EM (hk:GK k) (h0:0<k.q):mp k (jI k)=0:=Nz 1 (by decide+kernel) h0 (rS hk h0)
def Cv.inner (c:Cv) (p:Pt):Bool:=c.on p&&(!(cP c.p p==0)&& !(cP c.q p==0))
def Cv.mono:Cv→Bool
 | .seg _ p q=> !decide (cP p q≥0)
 | .arc k w p q=> !decide (cP p q≥0)&&(!(Cv.arc k w p q).inner (jS k)&& !(Cv.arc k w p q).inner (jI k))
def Cv.vert:Cv→Bool
 | .seg _ p q=>cx p q==0
 | .arc ..=>false
def zw (k:Ci) (p:Pt):Int:=if ll k p then 0 else 1
theorem Yz (h:decide (sY p k.y>0)=false) (g:(sY p k.y==0)=false):zw k p=1:=by unfold zw;rw[Nw h g];rfl
theorem aaj (h:decide (sY p k.y>0)=true):zw k p=0:=by unfold zw;rw[V2 h];rfl
theorem Zy (h:decide (sY p k.y>0)=false) (g:(sY p k.y==0)=true) (e:decide (mS p k.x>0)=true):zw k p=0:=by unfold zw;rw[Jw h g,e];rfl
theorem aaD (h:decide (sY p k.y>0)=false) (g:(sY p k.y==0)=true) (e:decide (mS p k.x>0)=false):zw k p=1:=by unfold zw;rw[Jw h g,e];rfl
theorem Qu (k:Ci) (p:Pt):0≤zw k p∧zw k p≤1:=by unfold zw;split<;>omega
theorem Wf (h:(zw k p==zw k q)=false):ov k p q=zw k p-zw k q:=by
 unfold ov AU zw at*
 grind
theorem R9 (h:(zw k p==zw k q)=true) (g:(zw k p==0)=true):ov k p q= -cx p q:=by
 unfold ov AU zw at*
 grind
theorem SJ (h:(zw k p==zw k q)=true) (g:(zw k p==0)=false):ov k p q=cx p q:=by
 unfold ov AU zw at*
 grind
theorem PH (k:Ci) (f p:Pt):0≤sj k f p∧sj k f p≤2:=by unfold sj Np;repeat' split<;>omega
theorem Yb (h:(ov k p f==0)=true):sj k f p=0:=by unfold sj Np;rw[if_pos (by simpa using h)]
theorem XQ (h:(ov k p f==0)=false) (g:decide (ov k p f>0)=true):sj k f p=1:=by unfold sj Np;rw[if_neg (by simpa using h),if_pos (of_decide_eq_true g)]
theorem Wb (h:(ov k p f==0)=false) (g:decide (ov k p f>0)=false):sj k f p=2:=by unfold sj Np;rw[if_neg (by simpa using h),if_neg (of_decide_eq_false g)]
theorem aak (h:(sj k f p==sj k f q)=false):x7 k f p q=Xy (sj k f p-sj k f q):=by
 unfold x7 vm;rw[if_pos (show Np (ov k p f)≠Np (ov k q f) from by simpa [sj] using h)];rfl
theorem ZW (h:(sj k f p==sj k f q)=true):x7 k f p q=Xy (ov k p q):=by
 unfold x7 vm;rw[if_neg (show ¬Np (ov k p f)≠Np (ov k q f) from by simpa [sj] using h)]
theorem aat (h:c.on p=false):c.inner p=false:=by unfold Cv.inner;rw[h];rfl
theorem V9 (h:c.on p=true) (g:(!(cP c.p p==0))=false):c.inner p=false:=by unfold Cv.inner;rw[h,g];rfl
theorem Yc (h:c.on p=true) (g:(!(cP c.p p==0))=true):c.inner p= !(cP c.q p==0):=by unfold Cv.inner;rw[h,g];rfl
theorem CX (h:c.supp p=true):c.on p=(decide (c.ord c.p p≤0)&&decide (c.ord p c.q≤0)):=by unfold Cv.on;rw[h,iO]
theorem YV {u q:Rat}(hb: ¬(u=0∧v=0)):Mm u v (cc u (zc u q) (zc v q))=q:=by
 unfold Mm
 rw[if_neg hb]
 by_cases h:u=0
 ·rw[Fv h,pe (fun e=>hb ⟨h,e⟩)]
 ·rw[Ap h,pe h]
theorem Zw {c:Rat}(ha:Rz 600 a) (hb:Rz 600 b) (hc:Rz 600 c) (hd:Rz 600 d):Ok Tryz.prog 86 [.a ((cR a++cR b++cR c)),dR d] [.c (.i .i64 (bo (a-d) b c))]:=by
 refine ca Tryz.func86 rfl<|cT 10 [] ?_
 refine aK rfl (fi (aQ ha) (aQ hd)) ?_
 refine aK rfl (vL (aQ (dd ha hd)) (aQ hb) (aQ hc)) ?_
 exact ah (az ae)
theorem abS (hp:GP p) (hv:Rz 600 v):Ok Tryz.prog 86 [.a ((cR p.a1++cR p.b1++cR (zc p.b1 p.c))),dR v] [.c (.i .i64 (mS p v))]:=Zw (hp.a1.mono (by decide)) (hp.b1.mono (by decide)) (il (hp.c.mono (by decide)) (by decide)) hv
theorem acG (hp:GP p) (hv:Rz 600 v):Ok Tryz.prog 86 [.a ((cR p.a2++cR p.b2++cR (zc p.b2 p.c))),dR v] [.c (.i .i64 (sY p v))]:=Zw (hp.a2.mono (by decide)) (hp.b2.mono (by decide)) (il (hp.c.mono (by decide)) (by decide)) hv
theorem yCX (hp:GP p) (hq:GP q):Ok Tryz.prog 83 [.a ((cR p.a1++cR p.b1++cR (zc p.b1 p.c))),.a ((cR q.a1++cR q.b1++cR (zc q.b1 q.c)))] [.c (.i .i64 (cx p q))]:=ya (hp.a1.mono (by decide)) (hp.b1.mono (by decide)) (il (hp.c.mono (by decide)) (by decide)) (hq.a1.mono (by decide)) (hq.b1.mono (by decide)) (il (hq.c.mono (by decide)) (by decide))
theorem yCY (hp:GP p) (hq:GP q):Ok Tryz.prog 83 [.a ((cR p.a2++cR p.b2++cR (zc p.b2 p.c))),.a ((cR q.a2++cR q.b2++cR (zc q.b2 q.c)))] [.c (.i .i64 (cy p q))]:=ya (hp.a2.mono (by decide)) (hp.b2.mono (by decide)) (il (hp.c.mono (by decide)) (by decide)) (hq.a2.mono (by decide)) (hq.b2.mono (by decide)) (il (hq.c.mono (by decide)) (by decide))
theorem Ax (hp:GP p) (hq:GP q):Ok Tryz.prog 57 [.a (aj p),.a (aj q)] [.c (.i .i64 (cP p q))]:=by
 refine ca Tryz.func57 rfl<|cT 6 [] ?_
 refine aK rfl (pc) ?_
 refine aK rfl (pc) ?_
 refine aK rfl (yCX hp hq) ?_
 refine dD rfl (fun hc1=>?_) (fun hc1=>?_)
 ·refine ah ?_
  rw[acz (p:=p) (q:=q) hc1]
  exact az ae
 ·refine cT 6 [] ?_
  refine aK rfl (Fa) ?_
  refine aK rfl (Fa) ?_
  refine aK rfl (yCY hp hq)<|ah ?_
  rw[abL (p:=p) (q:=q) hc1]
  exact az ae
theorem BO (hp:GP p) (hq:GP q):Ok Tryz.prog 41 [.a (aj p),.a (aj q)] [.c (.b (cP p q==0))]:=by
 refine ca Tryz.func41 rfl ?_
 refine ac rfl (Ax hp hq) ?_
 exact ah (az ae)
theorem za (hx:Rz 6000000 x) (hy:Rz 6000000 y):Ok Tryz.prog 185 [dR x,dR y] [dR (x+y)]:=by
 refine ca Tryz.func185 rfl<|ac rfl (cn (aQ hx) (aQ hy)) ?_
 exact ah (aV bF rfl ae)
theorem Gn (hx:Rz 6000000 x) (hy:Rz 6000000 y):Ok Tryz.prog 184 [dR x,dR y] [dR (x-y)]:=by
 refine ca Tryz.func184 rfl<|ac rfl (fi (aQ hx) (aQ hy)) ?_
 exact ah (aV bF rfl ae)
theorem iE (hx:Rz 6000000 x) (hy:Rz 6000000 y):Ok Tryz.prog 186 [dR x,dR y] [dR (x*y)]:=by
 refine ca Tryz.func186 rfl<|ac rfl (ck (aQ hx) (aQ hy)) ?_
 exact ah (aV bF rfl ae)
theorem sU (hx:Rz 6000000 x) (hy:Rz 6000000 y):Ok Tryz.prog 260 [dR x,dR y] [dR (x+y)]:=by
 refine ca Tryz.func260 rfl<|ac rfl (cn (aQ hx) (aQ hy)) ?_
 exact ah (aV bF rfl ae)
theorem nk (hx:Rz 6000000 x) (hy:Rz 6000000 y):Ok Tryz.prog 259 [dR x,dR y] [dR (x-y)]:=by
 refine ca Tryz.func259 rfl<|ac rfl (fi (aQ hx) (aQ hy)) ?_
 exact ah (aV bF rfl ae)
theorem gE (hx:Rz 6000000 x) (hy:Rz 6000000 y):Ok Tryz.prog 261 [dR x,dR y] [dR (x*y)]:=by
 refine ca Tryz.func261 rfl<|ac rfl (ck (aQ hx) (aQ hy)) ?_
 exact ah (aV bF rfl ae)
theorem Cn (hx:Rz 6000000 x) (hy:Rz 6000000 y) (h0:y≠0):Ok Tryz.prog 264 [dR x,dR y] [dR (x/y)]:=by
 refine ca Tryz.func264 rfl<|ac rfl (n9 hx hy h0) ?_
 exact ah (aV bF rfl ae)
theorem yN (hx:Rz 6000000 x):Ok Tryz.prog 258 [dR x] [dR (-x)]:=by
 refine ca Tryz.func258 rfl<|ac rfl (lX (aQ hx)) ?_
 exact ah (aV bF rfl ae)
theorem Tu {w:Rat}(hv:Rz 6000000 v) (hw:Rz 6000000 w):Ok Tryz.prog 180 [.a ((cR v++cR w))] [.a ((cR (-v)++cR (-w)))]:=by
 refine ca Tryz.func180 rfl<|cT 7 [] ?_
 refine aK rfl (lX (aQ hv)) ?_
 refine aK rfl (lX (aQ hw)) ?_
 refine aq (aM (us:=(cR (-v)++cR (-w))) IL G8 rfl rfl rfl) ?_
 exact ah (aV P5 rfl ae)
theorem NG {c:Rat}{w:Rat}(hv:Rz 6000000 v) (hw:Rz 6000000 w) (ha1:Rz 6000000 a1) (ha2:Rz 6000000 a2):Ok Tryz.prog 188 [.a ((cR a1++cR b1++cR a2++cR b2++cR c)),.a ((cR v++cR w))] [.a ((cR (a1+v)++cR b1++cR (a2+w)++cR b2++cR c))]:=by
 refine eH Tryz.func188 22 [.cell 4 47] rfl<|aa<|ag<|aa<|ln 17 rfl rfl<|dt 1<|bD (js (cR a1) bF rfl)<|dt 1<|bD (js (cR v) bF rfl)<|bD (cj rfl (cn (aQ ha1) (aQ hv)))<|dt 1<|bD (js (cR b1) bF rfl)<|dt 1<|bD (js (cR a2) bF rfl) ?_
 refine dt 1<|bD (js (cR w) bF rfl)<|bD (cj rfl (cn (aQ ha2) (aQ hw)))<|dt 1<|bD (js (cR b2) bF rfl)<|dt 1<|bD (js (cR c) bF rfl)<|bD (aM (us:=(cR (a1+v)++cR b1++cR (a2+w)++cR b2++cR c)) Dn yY rfl rfl rfl) ?_
 refine jY<|dk<|ex<|aZ ?_
 exact ah (aV bv rfl ae)
theorem EP {c:Rat}(ha1:Rz 60000 a1) (hb1:Rz 60000 b1) (ha2:Rz 60000 a2) (hb2:Rz 60000 b2) (hc:Rz 60000 c) (v1:uE b1 b2 c=true) {e:Rat}(hd:Rz 60000 d) (he:Rz 60000 e):Ok Tryz.prog 91 [.a ((cR a1++cR b1++cR a2++cR b2++cR c)),.a ((cR d++cR e))] [.a ((cR (Iu (a1-d) (a2-e) b1 b2 c)++cR (IR (a1-d) (a2-e) b1 b2)++cR (zc (IR (a1-d) (a2-e) b1 b2) c)))]:=by
 have ka1:Rz 6000000 a1:=ha1.m_
 have kb1:Rz 6000000 b1:=hb1.m_
 have ka2:Rz 6000000 a2:=ha2.m_
 have kb2:Rz 6000000 b2:=hb2.m_
 have kc:Rz 6000000 c:=hc.m_
 have kd:Rz 6000000 d:=hd.m_
 have ke:Rz 6000000 e:=he.m_
 have u1:Rz 140000 (a1-d):=(ha1.sub hd).m_
 have u2:Rz 140000 (a2-e):=(ha2.sub he).m_
 have k3:Rz 6000000 (-d):=kd.neg
 have k4:Rz 6000000 (-e):=ke.neg
 have nz:=aaN v1
 have x1:Rz 1000000 (a1-d):=u1.m_
 have x2:Rz 1000000 (a2-e):=u2.m_
 have y1:Rz 1000000 b1:=hb1.m_
 have y2:Rz 1000000 b2:=hb2.m_
 have hC:Rz 1000000 c:=hc.m_
 have z1:Rz 1000000 (zc b1 c):=il hC (by decide)
 have z2:Rz 1000000 (zc b2 c):=il hC (by decide)
 have A1:Rz 1000000 ((a1-d)*(a1-d)+b1*b1*c):=((u1.mul u1).add ((hb1.mul hb1).mul hc)).m_
 have A2:Rz 1000000 ((a2-e)*(a2-e)+b2*b2*c):=((u2.mul u2).add ((hb2.mul hb2).mul hc)).m_
 have B1:Rz 1000000 ((a1-d)*b1+(a1-d)*b1):=((u1.mul hb1).add (u1.mul hb1)).m_
 have B2:Rz 1000000 ((a2-e)*b2+(a2-e)*b2):=((u2.mul hb2).add (u2.mul hb2)).m_
 have C1:Rz 1000000 (zc ((a1-d)*b1+(a1-d)*b1) c):=il hC (by decide)
 have C2:Rz 1000000 (zc ((a2-e)*b2+(a2-e)*b2) c):=il hC (by decide)
 have nS:((a1-d)*b1+(a1-d)*b1)+((a2-e)*b2+(a2-e)*b2)≠0→c≠0:=fun h=>by rw[Pc] at h;have:=(QE v1 h).1;grind
 refine ca Tryz.func91 rfl<|cT 5 [] ?_
 refine aK rfl (Tu (by assumption) (by assumption)) ?_
 refine aK rfl (NG (by assumption) (by assumption) (by assumption) (by assumption))<|cT 13 [6,999999] ?_
 refine aK rfl (CC pc (VV _ _) rfl rfl) ?_
 refine aK rfl (CC (GY x1 y1 z1) ZL (Zg nz.1) (aaz nz.1)) ?_
 refine aK rfl (CC Fa (VV _ _) rfl rfl) ?_
 refine aK rfl (CC (GY x2 y2 z2) ZL (Zg nz.2) (aaz nz.2)) ?_
 refine aK rfl (wM (MK A1 B1 C1 A2 B2 C2 Yp) (aan _ _ _ _ _) ((acg nS).trans (Pc _ _ _ _)) ((acd nS).trans (by rw[Pc]))) ?_
 refine DQ.mk<|iQ (fg dh rfl) rfl rfl rfl rfl<|d7 ?_
 exact ah (aV dh rfl ae)
theorem Y8 (hk:GK k) (hp:GB p):Ok Tryz.prog 91 [.a (aj p),.a ((cR k.x++cR k.y))] [.a ((cR (Iu (p.a1-k.x) (p.a2-k.y) p.b1 p.b2 p.c)++cR (Dh k p)++cR (zc (Dh k p) p.c)))]:=EP (hp.a1.mono (by decide)) (hp.b1.mono (by decide)) (hp.a2.mono (by decide)) (hp.b2.mono (by decide)) (hp.c.mono (by decide)) hp.v (hk.x.mono (by decide)) (hk.y.mono (by decide))
theorem aa2 (hk:GK k) (hp:GB p):Ok Tryz.prog 267 [.a (aX k),.a (aj p)] [.a ((cR (F9 k p)++cR (Dh k p)++cR (zc (Dh k p) p.c)))]:=by
 have s1:Rz 6000000 (Iu (p.a1-k.x) (p.a2-k.y) p.b1 p.b2 p.c):=(Rc hk hp).m_
 have s2:Rz 6000000 k.q:=hk.q.m_
 have s3:Rz 6000000 (-k.q):=s2.neg
 refine ca Tryz.func267 rfl<|cT 11 [] ?_
 refine aq (aM (us:=(cR k.x++cR k.y)) IL G8 rfl rfl rfl) ?_
 refine aK rfl (Y8 hk hp) ?_
 refine aK rfl (lX (Ix)) ?_
 refine aK rfl (F1 (by assumption) (by assumption)) ?_
 exact ah (aV dh rfl ae)
theorem Po (hk:GK k) (hp:GB p):Ok Tryz.prog 146 [.a (aX k),.a (aj p)] [.c (.i .i64 (mp k p))]:=by
 refine ca Tryz.func146 rfl ?_
 refine ac rfl (aa2 hk hp) ?_
 refine ac rfl (Ct ((Qc hk hp).m_) ((RM hk hp).m_) (il (hp.c.m_) (by decide))) ?_
 refine ar (gl (r:= -s3 (F9 k p) (Dh k p) (zc (Dh k p) p.c)) rfl (DB (Vj _ _ _)) rfl) ?_
 exact ah (az ae)
theorem abj (hk:GK k) (hp:GP p):Ok Tryz.prog 146 [.a (aX k),.a (aj p)] [.c (.i .i64 (mp k p))]:=Po hk hp.gb
theorem OI (hl:GL l) (hp:GP p) (hs:jd p.c=true):Ok Tryz.prog 88 [.a (gK l),.a (aj p)] [.a ((cR (vA l p+vB l p*rt p.c)++cR 0++cR 0))]:=by
 refine ca Tryz.func88 rfl<|cT 15 [] ?_
 refine aK rfl (iE (aQ (hl.a)) (aQ (hp.a1))) ?_
 refine aK rfl (iE (aQ (hl.b)) (aQ (hp.a2))) ?_
 refine aK rfl (za (aQ (aO (hl.a) (hp.a1))) (aQ (aO (hl.b) (hp.a2)))) ?_
 refine aK rfl (Gn (aQ (gD (aO (hl.a) (hp.a1)) (aO (hl.b) (hp.a2)))) (aQ (hl.c)))<|cT 21 [6,999999] ?_
 refine aK rfl (iE (aQ (hl.a)) (aQ (hp.b1))) ?_
 refine aK rfl (iE (aQ (hl.b)) (aQ (hp.b2))) ?_
 refine aK rfl (za (aQ (aO (hl.a) (hp.b1))) (aQ (aO (hl.b) (hp.b2)))) ?_
 refine aK rfl (xB ((N1 hl hp).m_) ((PG hl hp).m_) (hp.c.m_) (fun h=>absurd h (Rat.not_lt.2 (C9 hp.v))) hs) ?_
 refine DQ.mk<|iQ (fg dh rfl) rfl rfl rfl rfl<|d7 ?_
 exact ah (aV dh rfl ae)
theorem PC (hl:GL l) (hp:GP p) (hs:jd p.c=false):Ok Tryz.prog 88 [.a (gK l),.a (aj p)] [.a ((cR (vA l p)++cR (rB (vB l p) p.c)++cR (rC (vB l p) p.c)))]:=by
 refine ca Tryz.func88 rfl<|cT 15 [] ?_
 refine aK rfl (iE (aQ (hl.a)) (aQ (hp.a1))) ?_
 refine aK rfl (iE (aQ (hl.b)) (aQ (hp.a2))) ?_
 refine aK rfl (za (aQ (aO (hl.a) (hp.a1))) (aQ (aO (hl.b) (hp.a2)))) ?_
 refine aK rfl (Gn (aQ (gD (aO (hl.a) (hp.a1)) (aO (hl.b) (hp.a2)))) (aQ (hl.c)))<|cT 21 [6,999999] ?_
 refine aK rfl (iE (aQ (hl.a)) (aQ (hp.b1))) ?_
 refine aK rfl (iE (aQ (hl.b)) (aQ (hp.b2))) ?_
 refine aK rfl (za (aQ (aO (hl.a) (hp.b1))) (aQ (aO (hl.b) (hp.b2)))) ?_
 refine aK rfl (xv ((N1 hl hp).m_) ((PG hl hp).m_) (hp.c.m_) (fun h=>absurd h (Rat.not_lt.2 (C9 hp.v))) hs) ?_
 refine DQ.mk<|iQ (fg dh rfl) rfl rfl rfl rfl<|d7 ?_
 exact ah (aV dh rfl ae)
theorem aaw (hl:GL l) (hp:GP p):Ok Tryz.prog 88 [.a (gK l),.a (aj p)] [.a ((cR (vA l p)++cR (rB (vB l p) p.c)++cR (rC (vB l p) p.c)))]:=by
 cases hs:jd p.c with
 |true=>obtain⟨e1,e2,e3⟩:=Yf (l:=l) hp.v hs;exact CC (OI hl hp hs) e1 e2 e3
 |false=>exact PC hl hp hs
theorem WJ (hl:GL l) (hp:GP p):Ok Tryz.prog 152 [.a (gK l),.a (aj p)] [.c (.i .i64 (AI l p))]:=by
 refine ca Tryz.func152 rfl ?_
 refine ac rfl (aaw hl hp) ?_
 refine ac rfl (Ct ((N1 hl hp).m_) (Zf ((PG hl hp).m_) (by decide)) (abo (hp.c.m_) (by decide))) ?_
 exact ah (az ae)
theorem Vv (hk:GK k) (hp:GP p):Ok Tryz.prog 344 [.a (aX k),.a (aj p)] [.c (.b (ll k p))]:=by
 refine ca Tryz.func344 rfl<|cT 6 [] ?_
 refine aK rfl (Fa) ?_
 refine aK rfl (acG hp (hk.y.m_))<|cT 15 [] ?_
 refine AF (bz rfl) (fun c1 hb1=>?_)
 cases c1
 ·refine AF (bz rfl) (fun c2 hb2=>?_)
  cases c2
  ·refine ah ?_
   rw[Nw (k:=k) (p:=p) hb1 hb2]
   exact az ae
  ·refine aK rfl (pc) ?_
   refine aK rfl (abS hp (hk.x.m_))<|ah ?_
   rw[Jw (k:=k) (p:=p) hb1 hb2]
   exact az ae
 ·refine DQ.mk<|wJ (oE rfl)<|d7 ?_
  refine ah ?_
  rw[V2 (k:=k) (p:=p) hb1]
  exact az ae
theorem Pw (hk:GK k) (hp:GP p) (hq:GP q):Ok Tryz.prog 284 [.a (aX k),.a (aj p),.a (aj q)] [.c (.i .i64 (fG k p q))]:=by
 refine ca Tryz.func284 rfl<|cT 8 [] ?_
 refine aK rfl (Vv hk hp) ?_
 refine aK rfl (Vv hk hq) ?_
 refine ar (gV rfl rfl gO rfl) ?_
 refine dD rfl (fun hc1=>?_) (fun hc1=>?_)
 ·refine dD rfl (fun hc2=>?_) (fun hc2=>?_)
  ·refine ah ?_
   rw[Sk (k:=k) (p:=p) (q:=q) hc1 hc2]
   exact az ae
  ·refine ah ?_
   rw[N8 (k:=k) (p:=p) (q:=q) hc1 hc2]
   exact az ae
 ·refine cT 6 [] ?_
  refine aK rfl (pc) ?_
  refine aK rfl (pc) ?_
  refine aK rfl (yCX hp hq) ?_
  refine dD rfl (fun hc3=>?_) (fun hc3=>?_)
  ·refine ar (gl (r:= -cx p q) rfl (DB (fv p q)) rfl) ?_
   refine ah ?_
   rw[Oj (k:=k) (p:=p) (q:=q) hc1 hc3]
   exact az ae
  ·refine ah ?_
   rw[OX (k:=k) (p:=p) (q:=q) hc1 hc3]
   exact az ae
theorem UO (hk:GK k) (hf:GP f) (hp:GP p) (hq:GP q):Ok Tryz.prog 172 [.a (aX k),.a (aj f),.a (aj p),.a (aj q)] [.c (.i .i64 (r9 k f p q))]:=by
 refine ca Tryz.func172 rfl<|cT 12 [] ?_
 refine aK rfl (Pw hk hp hf) ?_
 refine aK rfl (Pw hk hq hf) ?_
 refine ar (gV rfl rfl gO rfl) ?_
 refine dD rfl (fun hc1=>?_) (fun hc1=>?_)
 ·refine dD rfl (fun hc2=>?_) (fun hc2=>?_)
  ·refine ah ?_
   rw[aaC (k:=k) (f:=f) (p:=p) (q:=q) hc1 hc2]
   exact az ae
  ·refine ah ?_
   rw[Ya (k:=k) (f:=f) (p:=p) (q:=q) hc1 hc2]
   exact az ae
 ·refine ac rfl (Pw hk hp hq)<|ah ?_
  rw[aaW (k:=k) (f:=f) (p:=p) (q:=q) hc1]
  exact az ae
theorem EC (hp:GP p):Ok Tryz.prog 174 [.a (aj p)] [.a (aj p.flip)]:=by
 refine ca Tryz.func174 rfl<|cT 7 [] ?_
 refine aK rfl (lX (hp.a1.m_)) ?_
 refine aK rfl (lX (hp.b1.m_)) ?_
 refine re (bd (us:=(cR (-p.a1)++cR p.b1++cR p.a2++cR p.b2++cR p.c)) bF rfl rfl rfl rfl (fP rfl) rfl rfl) ?_
 refine re (bd (us:=(cR (-p.a1)++cR (-p.b1)++cR p.a2++cR p.b2++cR p.c)) bF rfl rfl rfl rfl (fP rfl) rfl rfl) ?_
 exact ah (aV bv rfl ae)
theorem aaP (hk:GK k) (hf:GP f) (ht:GP t):Ok Tryz.prog 173 [.a (([.b true]++np++aX k++[.b w]++aj f++aj t))] [.a (([.b true]++np++aX k.mir++[.b (!w)]++aj f.flip++aj t.flip))]:=by
 refine eH Tryz.func173 22 [.cell 2 49] rfl<|aa<|ag<|aa<|ag ?_
 refine ar (dg (cR k.x) bF rfl (by kernel_rfl)) ?_
 refine ac rfl (lX (hk.x.m_)) ?_
 refine re (bd (us:=([.b true]++np++(cR k.mir.x++cR k.y++cR k.q)++[.b w]++aj f++aj t)) bF rfl rfl rfl rfl (fP (by kernel_rfl)) (by kernel_rfl) rfl) ?_
 refine aa<|pJ 13 [1,999999] dM (by kernel_rfl) rfl rfl<|dt 1<|CZ (by kernel_rfl) (dg (aj f) bv rfl (by kernel_rfl))<|bD (cj rfl (EC hf))<|dt 1<|CZ (by kernel_rfl) (dg (aj t) bv rfl (by kernel_rfl))<|bD (cj rfl (EC ht))<|dt 1<|CZ (by kernel_rfl) (gI kP rfl)<|dt 2<|jb (bd (us:=([.b true]++np++(cR k.mir.x++cR k.y++cR k.q)++[.b w]++aj f.flip++aj t)) bv rfl rfl rfl rfl (fP (by kernel_rfl)) (by kernel_rfl) rfl) rfl rfl rfl rfl ?_
 refine dt 1<|LI (bd (us:=([.b true]++np++(cR k.mir.x++cR k.y++cR k.q)++[.b w]++aj f.flip++aj t.flip)) bv rfl rfl rfl rfl (fP (by kernel_rfl)) (by kernel_rfl) rfl) rfl rfl (by kernel_rfl) rfl ?_
 refine jY<|zq<|bK 1<|f8 (bd (us:=([.b true]++np++(cR k.mir.x++cR k.y++cR k.q)++[.b (!w)]++aj f.flip++aj t.flip)) kP rfl rfl rfl rfl (fP (by kernel_rfl)) (by kernel_rfl) rfl) ?_
 refine ba<|aa<|ag ?_
 refine ar (gT bW rfl) ?_
 refine re (fg bW rfl)<|aZ ?_
 exact ah (kV (us:=([.b true]++np++(cR k.mir.x++cR k.y++cR k.q)++[.b (!w)]++aj f.flip++aj t.flip)) bW rfl rfl (by kernel_rfl) (by kernel_rfl) ae)
theorem IP (_hl:GL l) (hf:GP f) (ht:GP t) (hp:GP p) (hq:GP q):Ok Tryz.prog 78 [.a (([.b false]++gK l++qR++[.b false]++aj f++aj t)),.a (aj p),.a (aj q)] [.c (.i .i64 ((Cv.seg l f t).ord p q))]:=by
 refine ca Tryz.func78 rfl ?_
 refine ar (gI kP rfl) ?_
 refine tg rfl ?_
 refine ac rfl (Ax hp hq) ?_
 refine ar (dg (aj f) bv rfl (by kernel_rfl)) ?_
 refine ar (dg (aj t) bv rfl (by kernel_rfl)) ?_
 refine ac rfl (Ax hf ht) ?_
 refine dD rfl (fun hc1=>?_) (fun hc1=>?_)
 ·refine ar (gl (r:= -cP p q) rfl (DB (aaI p q)) rfl) ?_
  refine ah ?_
  rw[Xa (l:=l) (f:=f) (t:=t) (p:=p) (q:=q) hc1]
  exact az ae
 ·refine ah ?_
  rw[Wh (l:=l) (f:=f) (t:=t) (p:=p) (q:=q) hc1]
  exact az ae
theorem Ju (hk:GK k) (hf:GP f) (ht:GP t) (hp:GP p) (hq:GP q):Ok Tryz.prog 78 [.a (([.b true]++np++aX k++[.b w]++aj f++aj t)),.a (aj p),.a (aj q)] [.c (.i .i64 ((Cv.arc k w f t).ord p q))]:=by
 refine ca Tryz.func78 rfl ?_
 refine ar (gI kP rfl) ?_
 refine qQ rfl ?_
 refine ar (gI kP rfl) ?_
 refine dD rfl (fun hc1=>?_) (fun hc1=>?_)
 ·refine ar (dg (aX k) qV rfl (by kernel_rfl)) ?_
  refine ar (dg (aj f) bv rfl (by kernel_rfl)) ?_
  refine ac rfl (UO hk hf hp hq)<|ah ?_
  rw[WS (k:=k) (w:=w) (f:=f) (t:=t) (p:=p) (q:=q) hc1]
  exact az ae
 ·refine ar (gT bW rfl)<|ac rfl (aaP hk hf ht)<|re (fg bW rfl)<|cT 10 [] ?_
  refine aq (dg (aX k.mir) qV rfl (by kernel_rfl)) ?_
  refine aq (dg (aj f.flip) bv rfl (by kernel_rfl)) ?_
  refine aK rfl (EC hp) ?_
  refine aK rfl (EC hq) ?_
  refine aK rfl (UO (GK.mir hk) (GP.flip hf) (GP.flip hp) (GP.flip hq))<|ah ?_
  rw[Xh (k:=k) (w:=w) (f:=f) (t:=t) (p:=p) (q:=q) hc1]
  exact az ae
theorem Jo (hl:GL l) (_hf:GP f) (_ht:GP t) (hp:GP p):Ok Tryz.prog 61 [.a (([.b false]++gK l++qR++[.b false]++aj f++aj t)),.a (aj p)] [.c (.b ((Cv.seg l f t).supp p))]:=by
 refine ca Tryz.func61 rfl ?_
 refine ar (gI kP rfl) ?_
 refine qQ rfl ?_
 refine ar (dg (gK l) Nd rfl (by kernel_rfl)) ?_
 refine ac rfl (WJ hl hp) ?_
 exact ah (az ae)
theorem Jc (hk:GK k) (_hf:GP f) (_ht:GP t) (hp:GP p):Ok Tryz.prog 61 [.a (([.b true]++np++aX k++[.b w]++aj f++aj t)),.a (aj p)] [.c (.b ((Cv.arc k w f t).supp p))]:=by
 refine ca Tryz.func61 rfl ?_
 refine ar (gI kP rfl) ?_
 refine tg rfl ?_
 refine ar (dg (aX k) qV rfl (by kernel_rfl)) ?_
 refine ac rfl (abj hk hp) ?_
 exact ah (az ae)
theorem aap (hl:GL l) (hf:GP f) (ht:GP t) (hp:GP p):Ok Tryz.prog 25 [.a (([.b false]++gK l++qR++[.b false]++aj f++aj t)),.a (aj p)] [.c (.b ((Cv.seg l f t).on p))]:=by
 refine ca Tryz.func25 rfl ?_
 refine ar (gT bW rfl) ?_
 refine ac rfl (Jo hl hf ht hp) ?_
 refine jT (bz rfl) (fun c1 hb1=>?_)
 cases c1
 ·refine ar (bz rfl)<|ah ?_
  rw[Ys (c:=(Cv.seg l f t)) (p:=p) hb1]
  exact az ae
 ·refine ar (gT bW rfl) ?_
  refine ar (dg (aj f) bv rfl (by kernel_rfl)) ?_
  refine ac rfl (IP hl hf ht hf hp) ?_
  refine jT (bz rfl) (fun c2 hb2=>?_)
  cases c2
  ·refine ah ?_
   rw[Vo (c:=(Cv.seg l f t)) (p:=p) hb1 hb2]
   exact az ae
  ·refine ar (gT bW rfl) ?_
   refine ar (dg (aj t) bv rfl (by kernel_rfl)) ?_
   refine ac rfl (IP hl hf ht hp ht)<|ah ?_
   rw[Vc (c:=(Cv.seg l f t)) (p:=p) hb1 hb2]
   exact az ae
theorem Zv (hk:GK k) (hf:GP f) (ht:GP t) (hp:GP p):Ok Tryz.prog 25 [.a (([.b true]++np++aX k++[.b w]++aj f++aj t)),.a (aj p)] [.c (.b ((Cv.arc k w f t).on p))]:=by
 refine ca Tryz.func25 rfl ?_
 refine ar (gT bW rfl) ?_
 refine ac rfl (Jc hk hf ht hp) ?_
 refine jT (bz rfl) (fun c1 hb1=>?_)
 cases c1
 ·refine ar (bz rfl)<|ah ?_
  rw[Ys (c:=(Cv.arc k w f t)) (p:=p) hb1]
  exact az ae
 ·refine ar (gT bW rfl) ?_
  refine ar (dg (aj f) bv rfl (by kernel_rfl)) ?_
  refine ac rfl (Ju hk hf ht hf hp) ?_
  refine jT (bz rfl) (fun c2 hb2=>?_)
  cases c2
  ·refine ah ?_
   rw[Vo (c:=(Cv.arc k w f t)) (p:=p) hb1 hb2]
   exact az ae
  ·refine ar (gT bW rfl) ?_
   refine ar (dg (aj t) bv rfl (by kernel_rfl)) ?_
   refine ac rfl (Ju hk hf ht hp ht)<|ah ?_
   rw[Vc (c:=(Cv.arc k w f t)) (p:=p) hb1 hb2]
   exact az ae
theorem X8 (_hl:GL l) (_hf:GP f) (_ht:GP t):Ok Tryz.prog 147 [.a (([.b false]++gK l++qR++[.b false]++aj f++aj t))] [.a (([.b false]++gK l++qR++[.b false]++aj t++aj f))]:=by
 refine ca Tryz.func147 rfl<|ar (dg (aj t) bv rfl (by kernel_rfl)) ?_
 refine ar (dg (aj f) bv rfl (by kernel_rfl)) ?_
 refine re (bd (us:=([.b false]++gK l++qR++[.b false]++aj t++aj t)) bv rfl rfl rfl rfl (fP (by kernel_rfl)) (by kernel_rfl) rfl) ?_
 refine re (bd (us:=([.b false]++gK l++qR++[.b false]++aj t++aj f)) bv rfl rfl rfl rfl (fP (by kernel_rfl)) (by kernel_rfl) rfl) ?_
 refine ar (gI kP rfl)<|ar (bz rfl) ?_
 refine re (bd (us:=([.b false]++gK l++qR++[.b false]++aj t++aj f)) kP rfl rfl rfl rfl (fP (by kernel_rfl)) (by kernel_rfl) rfl) ?_
 refine ar (gT bW rfl) ?_
 refine re (fg bW rfl) ?_
 exact ah (kV (us:=([.b false]++gK l++qR++[.b false]++aj t++aj f)) bW rfl rfl (by kernel_rfl) (by kernel_rfl) ae)
theorem YB (_hk:GK k) (_hf:GP f) (_ht:GP t):Ok Tryz.prog 147 [.a (([.b true]++np++aX k++[.b w]++aj f++aj t))] [.a (([.b true]++np++aX k++[.b (!w)]++aj t++aj f))]:=by
 refine ca Tryz.func147 rfl<|ar (dg (aj t) bv rfl (by kernel_rfl)) ?_
 refine ar (dg (aj f) bv rfl (by kernel_rfl)) ?_
 refine re (bd (us:=([.b true]++np++aX k++[.b w]++aj t++aj t)) bv rfl rfl rfl rfl (fP (by kernel_rfl)) (by kernel_rfl) rfl) ?_
 refine re (bd (us:=([.b true]++np++aX k++[.b w]++aj t++aj f)) bv rfl rfl rfl rfl (fP (by kernel_rfl)) (by kernel_rfl) rfl) ?_
 refine ar (gI kP rfl)<|ar (bz rfl) ?_
 refine ar (gI kP rfl) ?_
 refine re (bd (us:=([.b true]++np++aX k++[.b (!w)]++aj t++aj f)) kP rfl rfl rfl rfl (fP (by kernel_rfl)) (by kernel_rfl) rfl) ?_
 refine ar (gT bW rfl) ?_
 refine re (fg bW rfl) ?_
 exact ah (kV (us:=([.b true]++np++aX k++[.b (!w)]++aj t++aj f)) bW rfl rfl (by kernel_rfl) (by kernel_rfl) ae)
end Go.Proofs.YtegpmhlfjkhjmaaGreat
