/-Data:a slice of nothing,slices from a place on,chains of two and three appends. -/
import Derived.Test.YtkfgimjmgfoneaaGreatDoorVfJ
namespace Go.Proofs.YtkfgimjmgfoneaaGreatDoor
open Go Go.RowKit
variable {f1 f2 f3:Array Edge}{ops:Array Oper}{B:BF}{k:Ci}{c:Cv}{us us' xs ys ys1 ys2 zs zs':List CellD}{l:List Pt}{Ik N' by_ i1 i2 m n n' q1 q2 r sz t1 t2 ty1:Nat}{o:Oper}{h x x0 y y1 y2:Operand}{P:Program}{p q:Pt}{a b d:Rat}{p1 p2:String}{T:TF}{U e:TypeId}
variable {ty:TypeId}{pos:String}{af:Array Edge}{g:Option (Nat×Bool)}{dst:Option Nat}
section
variable {P:Program}{ops:Array Oper}{T:TF}{B:BF}
theorem gU 
 (hU:mx P U=some (e,m,by_,zs)) (hg:gd ops ⟨dst,.buildSlice U 0 #[],ty,pos,af,g⟩ T=some true):Sem P ops ⟨dst,.buildSlice U 0 #[],ty,pos,af,g⟩ T B (.r (.f 0 [])):=by
 refine⟨oD rfl,fun V β a w hs=>⟨dK hs hg,?_⟩⟩
 obtain⟨hu,i,z,hi,hz,hsz,hby,hzl,hzr⟩:=fD hU
 have hexec:(execOp a.eval ⟨dst,.buildSlice U 0 #[],ty,pos,af,g⟩).run P w=.ok (.value (.slice (some ⟨w.heap.size,0,none⟩) 0 0)) (w.alloc (.cells #[] e)):=by
  have hso: ∀w,(sizeOf e).run P w=.ok i.size w:=fun w=>by unfold sizeOf typeInfo;simp[program,Sem.run,hi]
  simp[execOp,Instr.buildSlice,run_underlying hu,hso,Instr.fill,newRow]
  grind
 unfold Gives
 rw[hexec]
 exact⟨⟨⟨_,rfl⟩,.s0 _ _ (by decide)⟩,(bP _ w).alloc (aX _) _⟩
theorem jP 
 (hU:mx P U=some (e,m,by_,zs)) (hx:bH T x=some (.f 0 us)) (hy:bH T y=some (.v (.c (.s 0 ys))))
 (hg:gd ops ⟨dst,.call ⟨.builtin .append,#[x,y],#[U,U]⟩,ty,pos,af,g⟩ T=some true):
 Sem P ops ⟨dst,.call ⟨.builtin .append,#[x,y],#[U,U]⟩,ty,pos,af,g⟩ T B (.r (.f 0 us)):=by
 refine⟨oD rfl,fun V β a w hs=>⟨dK hs hg,?_⟩⟩
 obtain⟨⟨A,e1⟩,hxr⟩:(∃A,a.eval x=.slice A 0 0)∧RdV V w (a.eval x) (.c (.s 0 us)):=aw hs (x:=x) (by simp[Op.operands,Call.operands]) hx
 have h2:RdC V w (a.eval y) (.s 0 ys):=aw hs (x:=y) (by simp[Op.operands,Call.operands]) hy
 have hys:ys=[]:=by
  generalize a.eval y=vy at h2
  cases h2 with
  |s0=>rfl
  |s b off c sz n' xs' cv h0=>omega
 subst hys
 obtain⟨news,hsrc,_⟩:=lW hU h2 (by simp)
 obtain⟨hu,i,z,hi,hz,hsz,hby,_,hzr⟩:=fD hU
 subst hsz
 have hn1:news=[]:=ic.1 (by rw[hsrc.newsLen,tK])
 subst hn1
 rw[e1] at hxr
 have hrun:(Builtin.append_ #[U,U] ty #[.slice A 0 0,a.eval y]).run P w=.ok (.slice A 0 0) w:=by
  cases A with
  |none=>rcases hsrc.kind with⟨e',hk⟩|hk<;>simp[Builtin.append_,run_underlying hu,sizeOf,typeInfo,hi,hsrc.len,hsrc.cells]<;>rfl
  |some A=>
   rcases hsrc.kind with⟨e',hk⟩|hk<;>simp[Builtin.append_,run_underlying hu,sizeOf,typeInfo,hi,hsrc.len,hsrc.cells]<;>rfl
 have hexec:(execOp a.eval ⟨dst,.call ⟨.builtin .append,#[x,y],#[U,U]⟩,ty,pos,af,g⟩).run P w=.ok (.value (.slice A 0 0)) w:=by
  simp only[execOp,resolve,invoke,builtin,ed,fq,eb,p9,mR,p8,e1]
  rw[hrun]
  rfl
 unfold Gives
 rw[hexec]
 exact⟨⟨⟨A,rfl⟩,hxr⟩,bP _ w⟩
theorem zn {q:Nat}
 (hU:mx P U=some (e,m,by_,zs)) (hx:bH T x=some (.f n us)) (hy:bH T y=some (.v (.c (.s q ys)))) (hus:us.length=n*m) (hyl:ys.length=q*m) (hm:0<m) (hn0:0<n) (hbytes:(n+q)*by_≤140737488355328) (h63:n+q≤maxLen)
 (hg:gd ops ⟨dst,.call ⟨.builtin .append,#[x,y],#[U,U]⟩,ty,pos,af,g⟩ T=some true):
 Sem P ops ⟨dst,.call ⟨.builtin .append,#[x,y],#[U,U]⟩,ty,pos,af,g⟩ T B (.r (.v (.c (.s (n+q) (us++ys))))):=
 nP hU hx (fun V β a w hs=>lW hU (aw hs (x:=y) (by simp[Op.operands,Call.operands]) hy) hyl) hus hyl hm hn0 hbytes h63 hg
theorem ms {ki:IntKind}{j:Int}
 (hU:nu P U=some m) (hx:bH T x=some (.v (.c (.s n xs)))) (hh:bH T h=some (.v (.c (.i ki j)))) (hj:0≤j∧j≤n) (hl:xs.length=n*m) (hn':n-j.toNat=n') (hu:xs.drop (j.toNat*m)=us) (hg:gd ops ⟨dst,.slice U x (some h) none none,ty,pos,af,g⟩ T=some true):
 Sem P ops ⟨dst,.slice U x (some h) none none,ty,pos,af,g⟩ T B (.r (.v (.c (.s n' us)))):=
 bp hg (oD rfl) (fun V β a w hs=>by
  subst hn'
  have h1:=aw hs (x:=x) (by simp[Op.operands]) hx
  have h2:=iM (aw hs (x:=h) (by simp[Op.operands]) hh)
  generalize hv:a.eval x=v at h1
  have h1:RdC V w v (.s n xs):=h1
  unfold nu at hU
  split at hU
  case h_2=>cases hU
  rename_i el hul
  cases hinf:P.info? el with
  |none=>rw[hinf] at hU;cases hU
  |some inf=>
   rw[hinf] at hU
   simp at hU
   have hso: ∀w,(sizeOf el).run P w=.ok m w:=fun w=>by unfold sizeOf typeInfo;simp[program,Sem.run,hinf,hU]
   have hgen: ∀(A:Option Addr) (c:Nat),a.eval x=.slice A n c→n≤c→(execOp a.eval ⟨dst,.slice U x (some h) none none,ty,pos,af,g⟩).run P w=.ok (.value (.slice (if c=j.toNat then A else A.map (·.add (j.toNat*m))) (n-j.toNat) (c-j.toNat))) w:=by
    intro A c e hnc
    have hjc:j≤c:=by omega
    have hjn:=hj.2
    simp[execOp,Instr.sliceAt,Instr.slice,run_underlying hul,e,h2,Instr.sliceBounds,Instr.sliceBound,asIntOf,hj.1,hjn,hso]
   cases h1 with
   |s0 A c hc=>
    have hj0:j.toNat=0:=by omega
    refine⟨_,hgen A c hv (by omega),?_⟩
    rw[←hu,hj0]
    simp
    exact .s0 _ c hc
   |s b off c sz _ _ cv h0 hnc hcm hlen hb hav hc hr=>
    have hsz:sz=m:=by
     rw[hl] at hlen
     exact(y7 h0 hlen).symm
    subst hsz
    refine⟨_,hgen _ c hv hnc,?_⟩
    rcases jb j.toNat n with hjn|hjn
    ·rw[if_neg (by omega),show((some ⟨b,off,none⟩:Option Addr).map (·.add (j.toNat*sz)))=some ⟨b,off+j.toNat*sz,none⟩ from by simp[Addr.add]]
     have hmul:j.toNat*sz+(n-j.toNat)*sz=n*sz:=by rw[←gP];congr 1;omega
     refine .s b (off+j.toNat*sz) (c-j.toNat) sz (n-j.toNat) us (fun q=>cv (j.toNat*sz+q)) (by omega) (by omega) (by omega) ?_ hb hav (fun q hq=>?_) (fun q u hq=>?_)
     ·grind
     ·grind
     grind
    ·have e9:n-j.toNat=0:=by omega
     rw[e9,←hu,mE (by rw[hlen];exact nf _ hjn)]
     exact .s0 _ _ (by omega))
end
theorem qE (h:Sem P ops o T B (.r (.v (.c (.s n us))))) (e1:n=n') (e2:us=us'):Sem P ops o T B (.r (.v (.c (.s n' us')))):=by subst e1 e2;exact h
def Qw (ops:Array Oper) (i j:Nat):Bool:=match ops[j]? with
 |none=>false
 |some o=>(bD o).any (Nat.beq i)
theorem Dh {i j:Nat}(h:Qw ops i j=true) (ho:ops[j]? =some o):i∈bD o:=by
 unfold Qw at h;rw[ho] at h;exact iD.1 h
section
variable {P:Program}{ops:Array Oper}{tail:List Oper}{K:St→Prop}{m n:Nat}{tm0 tm:List (Nat×DV)}{bx:List (Nat×TypeId×List CellD)}
theorem AD {i3 t3 q3 EI:Nat}{p3:String}{ys3:List CellD}{y3:Operand}
 (hU:mx P U=some (e,sz,by_,zs)) (hm:0<sz) (hb:bH (fun s=>an s tm) x0=some (.f 0 us))
 (o1:ops[i1]? =some ⟨some t1,.call ⟨.builtin .append,#[x0,y1],#[U,U]⟩,ty1,p1,f1,none⟩) (o2:ops[i2]? =some ⟨some t2,.call ⟨.builtin .append,#[.tmp t1,y2],#[U,U]⟩,Ik,p2,f2,none⟩) (o3:ops[i3]? =some ⟨some t3,.call ⟨.builtin .append,#[.tmp t2,y3],#[U,U]⟩,EI,p3,f3,none⟩)
 (lt:(Nat.blt i1 m&&Nat.blt i2 m&&Nat.blt i3 m)=true) (d1:bH (fun s=>an s tm) y1=some (.v (.c (.s q1 ys1)))) (d2:bH (fun s=>an s tm) y2=some (.v (.c (.s q2 ys2)))) (d3:bH (fun s=>an s tm) y3=some (.v (.c (.s q3 ys3))))
 (l1:ys1.length=q1*sz) (l2:ys2.length=q2*sz) (l3:ys3.length=q3*sz) (b0:(lh ops [i1,i2,i3] m i1 x0&&lh ops [i1,i2,i3] m i1 y1&&lh ops [i1,i2,i3] m i2 y2&&lh ops [i1,i2,i3] m i3 y3)=true)
 (nx:(Qw ops i1 i2&&Qw ops i2 i3)=true) (hq:0<q1) (w1:an t1 tm0=none) (w2:an t2 tm0=none) (w3:an t3 tm0=none) (v1:an t1 bx=none) (v2:an t2 bx=none) (v3:an t3 bx=none)
 (hN:q1+q2+q3=N') (hz:ys1++ys2++ys3=zs') (hbytes:N'*by_≤140737488355328) (h63:N'≤maxLen)
 (hk: ∀c rest,N'≤c→c≤maxLen→rest.length=(c-N')*sz→dl P ops tail ⟨n,(t3,.o t3 N' c)::tm,(t3,e,zs'++rest)::bx⟩ K):
 ∃(U e:TypeId) (sz by_:Nat) (zs:List CellD) (x0:Operand) (ch:List AppS),ChainA P ops [i1,i2,i3] m U e sz by_ zs x0 tm0 tm bx ch∧
  ∀c rest,nA ch≤c→c≤maxLen→rest.length=(c-nA ch)*sz→dl P ops tail ⟨n,tG c ch++tm,yG e rest ch++bx⟩ K:=by
 simp only[dU] at lt b0 nx
 have hN2:nA [⟨i1,t1,y1,q1,ys1⟩,⟨i2,t2,y2,q2,ys2⟩,⟨i3,t3,y3,q3,ys3⟩]=N':=by show q1+(q2+(q3+0))=N';omega
 have hz2:uA [⟨i1,t1,y1,q1,ys1⟩,⟨i2,t2,y2,q2,ys2⟩,⟨i3,t3,y3,q3,ys3⟩]=zs':=by show ys1++(ys2++(ys3++[]))=zs';rw[←hz];simp
 refine⟨U,e,sz,by_,zs,x0,[⟨i1,t1,y1,q1,ys1⟩,⟨i2,t2,y2,q2,ys2⟩,⟨i3,t3,y3,q3,ys3⟩],⟨hU,hm,⟨us,hb⟩,rfl,?_,?_,?_,?_,?_,?_,by rw[hN2];exact⟨hbytes,h63⟩⟩,fun c rest g1 g2 g3=>?_⟩
 ·intro l a r h
  match l,h with
  |[],h=>injection h with h _;subst h;exact⟨_,_,_,o1⟩
  |[x],h=>injection h with h h';injection h' with h' _;subst h h';exact⟨_,_,_,o2⟩
  |[x,y],h=>injection h with h h';injection h' with h' h'';injection h'' with h'' _;subst h h' h'';exact⟨_,_,_,o3⟩
  |x::y::z'::l,h=>have:=congrArg List.length h;simp at this<;>omega
 ·simp_all
 ·grind
 ·grind
 ·intro l a b r h o ho
  match l,h with
  |[],h=>injection h with h h';injection h' with h' _;subst h h';exact Dh nx.1 ho
  |[x],h=>injection h with h h';injection h' with h' h'';injection h'' with h'' _;subst h h' h'';exact Dh nx.2 ho
  |x::y::l,h=>have:=congrArg List.length h;simp at this<;>omega
 ·grind
 ·rw[hN2] at g1 g3
  show dl P ops tail ⟨n,[(t3,.o t3 (nA _) c)]++tm,[(t3,e,uA _++rest)]++bx⟩ K
  grind
theorem Bc 
 (hU:mx P U=some (e,sz,by_,zs)) (hm:0<sz) (hb:bH (fun s=>an s tm) x0=some (.f 0 us))
 (o1:ops[i1]? =some ⟨some t1,.call ⟨.builtin .append,#[x0,y1],#[U,U]⟩,ty1,p1,f1,none⟩) (o2:ops[i2]? =some ⟨some t2,.call ⟨.builtin .append,#[.tmp t1,y2],#[U,U]⟩,Ik,p2,f2,none⟩)
 (lt:(Nat.blt i1 m&&Nat.blt i2 m)=true) (d1:bH (fun s=>an s tm) y1=some (.v (.c (.s q1 ys1)))) (d2:bH (fun s=>an s tm) y2=some (.v (.c (.s q2 ys2))))
 (l1:ys1.length=q1*sz) (l2:ys2.length=q2*sz) (b0:(lh ops [i1,i2] m i1 x0&&lh ops [i1,i2] m i1 y1&&lh ops [i1,i2] m i2 y2)=true)
 (nx:Qw ops i1 i2=true) (hq:0<q1) (w1:an t1 tm0=none) (w2:an t2 tm0=none) (v1:an t1 bx=none) (v2:an t2 bx=none)
 (hN:q1+q2=N') (hz:ys1++ys2=zs') (hbytes:N'*by_≤140737488355328) (h63:N'≤maxLen)
 (hk: ∀c rest,N'≤c→c≤maxLen→rest.length=(c-N')*sz→dl P ops tail ⟨n,(t2,.o t2 N' c)::tm,(t2,e,zs'++rest)::bx⟩ K):
 ∃(U e:TypeId) (sz by_:Nat) (zs:List CellD) (x0:Operand) (ch:List AppS),ChainA P ops [i1,i2] m U e sz by_ zs x0 tm0 tm bx ch∧
  ∀c rest,nA ch≤c→c≤maxLen→rest.length=(c-nA ch)*sz→dl P ops tail ⟨n,tG c ch++tm,yG e rest ch++bx⟩ K:=by
 have hN2:nA [⟨i1,t1,y1,q1,ys1⟩,⟨i2,t2,y2,q2,ys2⟩]=N':=by show q1+(q2+0)=N';omega
 have hz2:uA [⟨i1,t1,y1,q1,ys1⟩,⟨i2,t2,y2,q2,ys2⟩]=zs':=by show ys1++(ys2++[])=zs';rw[←hz];simp
 refine⟨U,e,sz,by_,zs,x0,[⟨i1,t1,y1,q1,ys1⟩,⟨i2,t2,y2,q2,ys2⟩],⟨hU,hm,⟨us,hb⟩,rfl,?_,?_,?_,?_,?_,?_,by rw[hN2];exact⟨hbytes,h63⟩⟩,fun c rest g1 g2 g3=>?_⟩
 ·intro l a r h
  match l,h with
  |[],h=>injection h with h _;subst h;exact⟨_,_,_,o1⟩
  |[x],h=>injection h with h h';injection h' with h' _;subst h h';exact⟨_,_,_,o2⟩
  |x::y::l,h=>have:=congrArg List.length h;simp at this<;>omega
 ·simp_all
 ·grind
 ·grind
 ·intro l a b r h o ho
  match l,h with
  |[],h=>injection h with h h';injection h' with h' _;subst h h';exact Dh nx ho
  |x::l,h=>have:=congrArg List.length h;simp at this<;>omega
 ·grind
 ·rw[hN2] at g1 g3
  show dl P ops tail ⟨n,[(t2,.o t2 (nA _) c)]++tm,[(t2,e,uA _++rest)]++bx⟩ K
  grind
end
theorem RE (a b c d:Pt):al a++al b++al c++al d=aj al [a,b,c,d]:=by simp[aj]
section
variable {c d:Cv}
theorem Hg (h:gJ c d=true):aN c d=[c.p,c.q,d.p,d.q]:=by unfold aN;rw[if_pos h]
theorem JJ (h:gJ c d=false):aN c d=kv c d:=by unfold aN;rw[if_neg (by rw[h];decide)]
theorem G1 {α:Type}{B:α→Bool}{M:List α}{x:α}(h:n<M.length) (hb:B (M.getD n x)=true):(M.take (n+1)).filter B=(M.take n).filter B++[M.getD n x]:=by
 rw[oR (d:=x) h,List.filter_append]
 grind
theorem zg {α:Type}{B:α→Bool}{M:List α}{x:α}(h:n<M.length) (hb:B (M.getD n x)=false):(M.take (n+1)).filter B=(M.take n).filter B:=by
 rw[oR (d:=x) h,List.filter_append,List.filter_cons,if_neg (by rw[hb];decide)]
 simp
theorem GA (h:c.on p=true) (g:d.on p=true):cB c d p=true:=by unfold cB;rw[h,g];rfl
theorem D8 (h:c.on p=false):cB c d p=false:=by unfold cB;rw[h];rfl
theorem Em (g:d.on p=false):cB c d p=false:=by unfold cB;rw[g,Bool.and_false]
theorem Q2 (h:FE d l r=true):FE d l (r+1)=true:=by show(FE d l r||_)=true;rw[h];rfl
theorem Rx (h:FE d l r=false):FE d l (r+1)=decide (d.ord (l.getD r dPt) (l.getD (r+1) dPt)<0):=by show(FE d l r||_)=_;rw[h];rfl
theorem L0 (h:gJ c d=false):vU c d=false:=by unfold vU;rw[if_neg (by rw[h];decide)]
theorem L3 (h:gJ c d=true) (hr:(br c d).length-1=r):vU c d=FE (fS c d) (br c d) r:=by unfold vU;rw[if_pos h,hr]
theorem CR (hd:d.good):(fS c d).good:=by
 unfold fS
 split
 ·exact wl hd
 ·exact hd
end
def qD (A u:Int):Rat:=Rat.divInt A u
theorem Nx {A u:Int}(h: -128≤A∧A≤127) (hu:1≤u∧u≤4):Rz 1 (qD A u):=Rz.of (ob (by omega) (by omega)) (ob (by omega) (by omega)) (by omega)
def O6 (a b c d:Rat):Ln:=⟨b-d,c-a,(b-d)*a+(c-a)*b⟩
def rP (a b:Rat):Pt:=⟨a,0,b,0,0⟩
theorem L4 {c:Rat}(ha:Rz 1 a) (hb:Rz 1 b) (hc:Rz 1 c) (hd:Rz 1 d) (h: ¬(b-d=0∧c-a=0)):GL (O6 a b c d):=
 ⟨(hb.sub hd).mono (by decide),(hc.sub ha).mono (by decide),(((hb.sub hd).mul ha).add ((hc.sub ha).mul hb)).mono (by decide),fun e=>h (Nc e)⟩
theorem NC (ha:Rz 1 a) (hb:Rz 1 b):GP (rP a b):=GP.rat (ha.mono (by decide)) (hb.mono (by decide))
theorem PA {c:Rat}(h:cP (rP a b) (rP c d)=0):a=c∧b=d:=by
 have h:ns a 0 b 0 0 c 0 d 0 0=0:=h
 unfold ns at h
 split at h
 ·grind
 ·rename_i g
  have h1:=gM.1 (oT g)
  have h2:=gM.1 h
  grind
def kQ (k:Ci):Pt:=jI k.x (-1) k.y 0 k.q
def kC (k:Ci):Pt:=jI k.x 1 k.y 0 k.q
theorem kP:Rz 1 (1:Rat):=⟨by rw[show(1:Rat).num=1 from rfl];exact ob (by decide) (by decide),by rw[show((1:Rat).den:Int)=1 from rfl];exact Sz.one (by decide)⟩
theorem pk (hk:GK k) (h0:0<k.q):GP (kQ k):=uH (hk.x.mono (by decide)) (kP.neg.mono (by decide)) (hk.y.mono (by decide)) (jV (by decide)) (hk.q.mono (by decide)) h0 (fun e=>absurd e.1 (by decide))
theorem pz (hk:GK k) (h0:0<k.q):GP (kC k):=uH (hk.x.mono (by decide)) (kP.mono (by decide)) (hk.y.mono (by decide)) (jV (by decide)) (hk.q.mono (by decide)) h0 (fun e=>absurd e.1 (by decide))
def PV:List CellD:=Ho++Ho++Ho++Ho++Ho
theorem E9 (c:Cv) (r:List CellD):(ao c++r).take 66=ao c:=by rw[←ae c];exact tL
theorem Qd {q:Rat}(h0:0<q) (hs:j9 q=true):rt q≠0:=by
 intro h
 have hs2:=hs
 unfold j9 Ca at hs2
 simp only[dU,beq_iff_eq] at hs2
 have hd:cn (q.den:Int)≠0:=by have:=sb (den_pos q);omega
 have hdq:((cn (q.den:Int):Int):Rat)≠0:=by simpa using hd
 have h1:((cn q.num:Int):Rat)=0:=by
  have h2:rt q*((cn (q.den:Int):Int):Rat)=((cn q.num:Int):Rat):=by unfold rt;rw[Rat.divInt_eq_div,Rat.div_mul_cancel hdq]
  grind
 have h3:cn q.num=0:=by simpa using h1
 have h4:=hs2.1
 rw[h3,qF] at h4
 have h5:q=0:=Rat.num_eq_zero.1 h4.symm
 grind
def uD (U:Int):Int:=U%4+1
def ju (k:Ci):List Cv:=[.arc k false (kQ k) (kC k),.arc k false (kC k) (kQ k)]
def kJ (a b c d:Rat):Cv:=.seg (O6 a b c d) (rP a b) (rP c d)
theorem Jv {U:Int}(_h:0≤U):1≤uD U∧uD U≤4:=by unfold uD;omega
theorem IB (h:cP p q≠0):(d8 c (d8 c [] p) q).length=2:=by
 unfold d8
 grind
theorem iK (h:cP p q≠0):2≤(bt c ([p,q]++l)).length:=by
 have h1:=(vR (c:=c) l (d8 c (d8 c [] p) q)).1
 rw[IB h] at h1
 exact h1
theorem mF {q:Nat}
 (hU:mx P U=some (e,m,by_,zs)) (hx:bH T x=some .z) (hy:bH T y=some (.v (.c (.s q ys)))) (hq:q=0)
 (hg:gd ops ⟨dst,.call ⟨.builtin .append,#[x,y],#[U,U]⟩,ty,pos,af,g⟩ T=some true):
 Sem P ops ⟨dst,.call ⟨.builtin .append,#[x,y],#[U,U]⟩,ty,pos,af,g⟩ T B (.r .z):=by
 subst hq
 refine⟨oD rfl,fun V β a w hs=>⟨dK hs hg,?_⟩⟩
 have e1:a.eval x=.slice none 0 0:=aw hs (x:=x) (by simp[Op.operands,Call.operands]) hx
 have h2:RdC V w (a.eval y) (.s 0 ys):=aw hs (x:=y) (by simp[Op.operands,Call.operands]) hy
 have hys:ys=[]:=by
  generalize a.eval y=vy at h2
  cases h2 with
  |s0=>rfl
  |s b off c sz n' xs' cv h0=>omega
 subst hys
 obtain⟨news,hsrc,_⟩:=lW hU h2 (by simp)
 obtain⟨hu,i,z,hi,hz,hsz,hby,_,hzr⟩:=fD hU
 subst hsz
 have hn1:news=[]:=ic.1 (by rw[hsrc.newsLen,tK])
 subst hn1
 have hrun:(Builtin.append_ #[U,U] ty #[.slice none 0 0,a.eval y]).run P w=.ok (.slice none 0 0) w:=by
  rcases hsrc.kind with⟨e',hk⟩|hk<;>simp[Builtin.append_,run_underlying hu,sizeOf,typeInfo,hi,hsrc.len,hsrc.cells]<;>rfl
 have hexec:(execOp a.eval ⟨dst,.call ⟨.builtin .append,#[x,y],#[U,U]⟩,ty,pos,af,g⟩).run P w=.ok (.value (.slice none 0 0)) w:=by
  simp only[execOp,resolve,invoke,builtin,ed,fq,eb,p9,mR,p8,e1]
  rw[hrun]
  rfl
 unfold Gives
 rw[hexec]
 exact⟨rfl,bP _ w⟩
end Go.Proofs.YtkfgimjmgfoneaaGreatDoor
namespace Go.Proofs.YtkfgimjmgfoneaaGreatDoor
def uK (k:Fin 4):Bool:=k==0||k==1
def uF (k:Fin 4):Bool:=k==2||k==1
def B6 (u v:Bool) (n:Int):Int:=if u !=v then(if v then-1 else 1) else if u then-n else n
def Kq (u v:Bool) (n:Int):Int:=if u !=v then(if u then-1 else 1) else if u then-n else n
def CL (a1 a2 a3:Int):Int:=if decide (a1<0) !=decide (a2<0) then(if decide (a2<0) then-1 else 1) else a3
def Sj (b:Int):Int:=if b=0 then 0 else if b>0 then 1 else 2
def S8 (n:Int):Int:=min 1 (max (-1) n)
def Ew (b1 b2 b3:Int):Int:=if Sj b1≠Sj b2 then S8 (Sj b1-Sj b2) else S8 b3
def i3 (i:Fin 3):Int:=(i.val:Int)-1
def Cc (n1 n2 n3:Int):Bool:=(n2 !=0||n3==n1)&&(n1 !=0||n3== -n2)&&(n1 != -n2||n3==n1)
def jx (k l:Fin 4) (n:Int):Bool:=
 if k=0 then n==(if l=0 then 0 else 1) else if k=2 then n==(if l=2 then 0 else-1)
 else if l=0 then n== -1 else if l=2 then n==1 else true
def Tc (kf kp kt:Fin 4) (n1 n2 n3:Int):Bool:=
 decide (CL (B6 (uF kf) (uF kf) 0) (B6 (uF kp) (uF kf) (-n1)) (B6 (uF kf) (uF kp) n1)≤0)&&
 decide (CL (B6 (uF kp) (uF kf) (-n1)) (B6 (uF kt) (uF kf) (-n2)) (B6 (uF kp) (uF kt) (-n3))≤0)
def S6 (kf kp kt:Fin 4) (n1 n2 n3:Int):Bool:=
 decide (Ew (Kq (uK kp) (uK kt) n3) (Kq (uK kf) (uK kt) (-n2)) (Kq (uK kp) (uK kf) n1)≤0)
set_option maxRecDepth 100000 in
theorem Mp: ∀(kf kp kt:Fin 4) (i j l:Fin 3),Cc (i3 i) (i3 j) (i3 l)=true→jx kp kf (i3 i)=true→jx kt kf (i3 j)=true→jx kp kt (i3 l)=true→
 Tc kf kp kt (i3 i) (i3 j) (i3 l)=S6 kf kp kt (i3 i) (i3 j) (i3 l):=by decide+kernel
def Sk (uf up ut:Bool) (n1 n2 n3:Int):Bool:=
 decide (CL (B6 uf uf 0) (B6 up uf n1) (B6 uf up (-n1))≤0)&&decide (CL (B6 up uf n1) (B6 ut uf n2) (B6 up ut n3)≤0)
def SJ (uf up ut:Bool) (n1 n2 n3:Int):Bool:=decide (Ew (Kq up uf n1) (Kq ut uf n2) (Kq up ut n3)≤0)
set_option maxRecDepth 100000 in
theorem J8: ∀(uf up ut:Bool) (i j l:Fin 3),Cc (i3 i) (i3 j) (i3 l)=true→Sk uf up ut (i3 i) (i3 j) (i3 l)=SJ uf up ut (i3 i) (i3 j) (i3 l):=by decide+kernel
end Go.Proofs.YtkfgimjmgfoneaaGreatDoor
namespace Go.Proofs.YtkfgimjmgfoneaaGreatDoor
open Go Go.RowKit
variable {w:Bool}{k:Ci}{c:Cv}{L l:List Pt}{f o p q t x y:Pt}{a b:Rat}
def pX (p:Pt):Re:=u9 p.a1 p.b1 p.c
def pY (p:Pt):Re:=u9 p.a2 p.b2 p.c
theorem eI (h:GP p):0≤p.c:=Aj h.v
theorem nU (hp:0≤p.c) (hq:0≤q.c):cx p q=bJ (pX p-pX q):=o6 hp hq
theorem Gm (hp:0≤p.c) (hq:0≤q.c):cy p q=bJ (pY p-pY q):=o6 hp hq
theorem vq (hp:0≤p.c) (v:Rat):uJ p v=bJ (pX p-Re.of v):=by
 unfold uJ
 rw[jC (tW hp)]
 exact congrArg bJ (gY fun n=>by unfold pX u9 gC;simp only[bX,cE,cz,eE];grind)
theorem vE (hp:0≤p.c) (v:Rat):lZ p v=bJ (pY p-Re.of v):=by
 unfold lZ
 rw[jC (tW hp)]
 exact congrArg bJ (gY fun n=>by unfold pY u9 gC;simp only[bX,cE,cz,eE];grind)
theorem fw (hp:0≤p.c) (hq:0≤q.c):cx q p= -cx p q:=by rw[nU hp hq,nU hq hp,ze]
theorem uo (hp:0≤p.c):cx p p=0:=by rw[nU hp hp,vj]
theorem KE {A B c:Rat}(hc:0≤c) (b1 b2 x y:Rat) (hA:A=Ge x y b1 b2 c) (hB:B=FO x y b1 b2):
 bJ (gC A B (zc B c)-(u9 x b1 c*u9 x b1 c+u9 y b2 c*u9 y b2 c))=0:=by
 subst hA hB
 rw[show gC (Ge x y b1 b2 c) (FO x y b1 b2) (zc (FO x y b1 b2) c)=u9 (Ge x y b1 b2 c) (FO x y b1 b2) c from rfl,wc,wc,wc]
 have h:=Ak hc
 have e:Re.of (Ge x y b1 b2 c)+Re.of (FO x y b1 b2)*Re.rt c-((Re.of x+Re.of b1*Re.rt c)*(Re.of x+Re.of b1*Re.rt c)+(Re.of y+Re.of b2*Re.rt c)*(Re.of y+Re.of b2*Re.rt c))=Re.of (-(b1*b1+b2*b2))*(Re.rt c*Re.rt c-Re.of c):=gY fun n=>by
  unfold Ge FO
  simp only[bX,cE,cz,eE];grind
 rw[e,ee,h,qF]
def t8 (k:Ci) (p:Pt):Re:=(pX p-Re.of k.x)*(pX p-Re.of k.x)+(pY p-Re.of k.y)*(pY p-Re.of k.y)-Re.of k.q
theorem xV (a b c v:Rat):u9 (a-v) b c=u9 a b c-Re.of v:=gY fun n=>by unfold u9 gC;simp only[bX,cE,cz,eE];grind
theorem R5 (hp:0≤p.c):bJ (gC (PX k p) (F6 k p) (zc (F6 k p) p.c))=bJ (t8 k p):=by
 refine pA ?_
 have h:=KE (A:=Ge (p.a1-k.x) (p.a2-k.y) p.b1 p.b2 p.c) (B:=F6 k p) hp p.b1 p.b2 (p.a1-k.x) (p.a2-k.y) rfl rfl
 rw[←h]
 refine congrArg bJ (gY fun n=>?_)
 unfold t8 pX pY
 rw[xV,xV]
 unfold PX gC
 simp only[bX,cE,cz,eE];grind
theorem Mm (hv:tq p.b1 p.b2 p.c=true):sP k p= -bJ (t8 k p):=by
 unfold sP
 rw[←R5 (Aj hv),DH (tW (Aj hv))]
 intro hb
 have h:=JO hv (x:=p.a1-k.x) (y:=p.a2-k.y) hb
 rw[show zc (F6 k p) p.c=p.c from by unfold zc;rw[if_neg hb]]
 grind
theorem yN (hp:GP p):sP k p= -bJ (t8 k p):=Mm hp.v
def OnK (k:Ci) (p:Pt):Prop:=GP p∧sP k p=0
theorem db:(Cv.arc k w f t).supp p=true↔sP k p=0:=by
 show(sP k p==0)=true↔_
 simp
def kd (k:Ci) (p:Pt):Fin 4:=if lZ p k.y>0 then 1 else if lZ p k.y=0 then(if uJ p k.x>0 then 0 else 2) else 3
theorem lK (k:Ci) (p:Pt):jn k p=uK (kd k p):=by
 unfold jn kd uK
 by_cases h:lZ p k.y>0
 ·grind
 grind
section
variable {k:Ci}{p:Pt}(hq:0<k.q) (hp:OnK k p)
include hp
theorem bq:0≤p.c:=eI hp.1
theorem sw:bJ (t8 k p)=0:=by have h1:=yN (k:=k) hp.1;rw[hp.2] at h1;omega
include hq
theorem Gv (h:lZ p k.y=0):uJ p k.x≠0:=by
 intro h2
 rw[vE (bq hp)] at h
 rw[vq (bq hp)] at h2
 have e:Re.of k.q=((pX p-Re.of k.x)*(pX p-Re.of k.x)+(pY p-Re.of k.y)*(pY p-Re.of k.y))+ -t8 k p:=gY fun n=>by unfold t8;simp only[bX,cE,cz,eE,cJ];grind
 have h3:bJ (Re.of k.q)=0:=by
  rw[e,dw _ (by rw[fh,sw hp];rfl),dw _ (by rw[ee,h,k9]),ee,h2,k9]
 rw[jh] at h3
 have:=gM.1 h3
 grind
end
theorem uk (p:Pt):pX p.flip= -pX p:=gY fun n=>by
 show(u9 (-p.a1) (-p.b1) p.c).s n=_
 unfold pX u9 gC
 have:zc (-p.b1) p.c=zc p.b1 p.c:=by
  by_cases h:p.b1=0
  ·grind
  ·rw[ij h,ij (by grind)]
 simp only[bX,cz,eE,cJ];grind
theorem Li (p:Pt):pY p.flip=pY p:=rfl
theorem vL (hp:0≤p.c):uJ p.flip k.mir.x= -uJ p k.x:=by
 rw[vq (show 0≤p.flip.c from hp),vq hp,uk,←fh]
 exact congrArg bJ (gY fun n=>by show _+ -(-k.x)=_;simp only[cE,eE,cJ];grind)
theorem v8 (k:Ci) (p:Pt):lZ p.flip k.mir.y=lZ p k.y:=rfl
theorem jm (hp:0≤p.c) (hq:0≤q.c):cx p.flip q.flip= -cx p q:=by
 rw[nU (show 0≤p.flip.c from hp) (show 0≤q.flip.c from hq),nU hp hq,uk,uk,←fh]
 exact congrArg bJ (gY fun n=>by simp only[cE,cJ];grind)
theorem nt (hq:0<k.q) (hp:OnK k p):jn k.mir p.flip=uF (kd k p):=by
 have h1:=vL (k:=k) (bq hp)
 have h2:=Gv hq hp
 unfold jn kd uF
 rw[h1,v8]
 by_cases h:lZ p k.y>0
 ·grind
 grind
theorem ew (k:Ci) (p q:Pt):eh k p q=B6 (jn k p) (jn k q) (cx p q):=rfl
def JD (k:Ci) (p q:Pt):Int:=Kq (jn k p) (jn k q) (cx p q)
def Nn (k:Ci) (f p q:Pt):Int:=Ew (JD k p f) (JD k q f) (JD k p q)
theorem oE (k:Ci) (f p q:Pt):oO k f p q=CL (eh k p f) (eh k q f) (eh k p q):=rfl
theorem dW {n:Int}(h: -1≤n∧n≤1): ∃i:Fin 3,n=i3 i:=by
 rcases(by omega:n= -1∨n=0∨n=1) with h|h|h
 ·exact⟨0,h⟩
 ·exact⟨1,h⟩
 ·exact⟨2,h⟩
theorem jl (hf:0≤f.c) (hp:0≤p.c) (ht:0≤t.c):Cc (cx p f) (cx t f) (cx p t)=true:=by
 rw[nU hp hf,nU ht hf,nU hp ht]
 have e2:pX p-pX t=(pX p-pX f)+ -(pX t-pX f):=gY fun n=>by simp only[bX,cE,cJ];grind
 unfold Cc
 simp only[dU,qr,bne_iff_ne,beq_iff_eq]
 refine⟨⟨?_,?_⟩,?_⟩
 ·by_cases h:bJ (pX t-pX f)=0
  ·right;rw[e2];exact dw _ (by rw[fh,h];rfl)
  grind
 ·by_cases h:bJ (pX p-pX f)=0
  ·right;rw[e2,ni h,fh]
  grind
 ·by_cases h:bJ (pX p-pX f)= -bJ (pX t-pX f)
  ·right;rw[e2,ln (by rw[fh];exact h)]
  grind
theorem OI (X:Re):bJ (X+X)=bJ X:=ln rfl
theorem uY {l:Pt}(hp:OnK k p) (hl:OnK k l) (h0:lZ p k.y=0) (h1:uJ p k.x>0):
 (lZ l k.y=0∧uJ l k.x>0∧cx p l=0)∨(¬(lZ l k.y=0∧uJ l k.x>0)∧cx p l=1):=by
 have cp:=bq hp
 have cl:=bq hl
 rw[vE cp] at h0
 rw[vq cp] at h1
 rw[vE cl,vq cl,nU cp cl]
 generalize hP:pX p-Re.of k.x=P at*
 generalize hL:pX l-Re.of k.x=L at*
 generalize hY:pY p-Re.of k.y=Y at*
 generalize hZ:pY l-Re.of k.y=Z at*
 have d:pX p-pX l=P-L:=by rw[←hP,←hL];exact gY fun n=>by simp only[cE];grind
 rw[d]
 have w1:t8 k p=P*P+Y*Y-Re.of k.q:=by rw[←hP,←hY];rfl
 have w2:t8 k l=L*L+Z*Z-Re.of k.q:=by rw[←hL,←hZ];rfl
 have e:(P-L)*(P+L)=(Z*Z+(P*P+Y*Y-Re.of k.q))+(-(L*L+Z*Z-Re.of k.q)+ -(Y*Y)):=gY fun n=>by simp only[bX,cE,cz,eE,cJ];grind
 have z1:bJ (-(L*L+Z*Z-Re.of k.q)+ -(Y*Y))=0:=by
  rw[dw _ (by rw[fh,ee,h0];rfl),fh,←w2,sw hl];rfl
 have hprod:bJ (P-L)*bJ (P+L)=bJ Z*bJ Z:=by
  rw[←ee,e,dw _ z1,dw _ (by rw[←w1];exact sw hp),ee]
 have s2:(P-L)+(P+L)=P+P:=gY fun n=>by simp only[bX,cE];grind
 have hP1:bJ (P+P)=1:=by rw[OI];have:=ep P;omega
 have hPL:L=P+ -(P-L):=gY fun n=>by simp only[bX,cE,cJ];grind
 have hPL2:L= -P+(P+L):=gY fun n=>by simp only[bX,cJ];grind
 rcases ep Z with c|c|c
 ·right
  refine⟨fun h=>by omega,?_⟩
  rcases ep (P-L) with a|a|a
  ·exact a
  ·grind
  ·exfalso
   have:bJ (P+L)= -1:=by grind
   have:=ln (x:=P-L) (y:=P+L) (by omega)
   grind
 ·rw[c] at hprod
  rcases ep (P-L) with a|a|a
  ·right
   have h5:bJ (P+L)=0:=by grind
   have:bJ L= -bJ P:=by rw[hPL2,dw _ h5,fh]
   omega
  ·left
   have:bJ L=bJ P:=by rw[hPL,dw _ (by rw[fh,a];rfl)]
   grind
  ·exfalso
   have h5:bJ (P+L)=0:=by grind
   have:=dw (P-L) h5
   grind
 ·right
  refine⟨fun h=>by omega,?_⟩
  rcases ep (P-L) with a|a|a
  ·exact a
  ·grind
  ·exfalso
   have:bJ (P+L)= -1:=by grind
   have:=ln (x:=P-L) (y:=P+L) (by omega)
   grind
theorem Kf (_hp:0≤p.c):bJ (t8 k.mir p.flip)=bJ (t8 k p):=by
 refine congrArg bJ (gY fun n=>?_)
 unfold t8
 rw[uk,Li]
 simp only[Ci.mir,bX,cE,cz,eE,cJ];grind
theorem OnK.flip (hp:OnK k p):OnK k.mir p.flip:=by
 refine⟨hp.1.flip,?_⟩
 rw[yN hp.1.flip,Kf (bq hp),sw hp];rfl
theorem zu {l:Pt}(hp:OnK k p) (hl:OnK k l) (h0:lZ p k.y=0) (h1:uJ p k.x<0):
 (lZ l k.y=0∧uJ l k.x<0∧cx p l=0)∨(¬(lZ l k.y=0∧uJ l k.x<0)∧cx p l= -1):=by
 have h:=uY hp.flip hl.flip (by rw[v8];exact h0) (by rw[vL (bq hp)];omega)
 rw[v8,vL (bq hl),jm (bq hp) (bq hl)] at h
 grind
theorem qX (hq:0<k.q) (hp:OnK k p):(kd k p=0∧lZ p k.y=0∧uJ p k.x>0)∨(kd k p=1∧lZ p k.y>0)∨(kd k p=2∧lZ p k.y=0∧uJ p k.x<0)∨(kd k p=3∧lZ p k.y<0):=by
 have h2:=Gv hq hp
 unfold kd
 grind
theorem fF {l:Pt}(hq:0<k.q) (hp:OnK k p) (hl:OnK k l):jx (kd k p) (kd k l) (cx p l)=true:=by
 have R:=uY hp hl
 have L:=zu hp hl
 have R':=uY hl hp
 have L':=zu hl hp
 rw[fw (bq hp) (bq hl)] at R' L'
 rcases qX hq hp with⟨e1,a1,a2⟩|⟨e1,a1⟩|⟨e1,a1,a2⟩|⟨e1,a1⟩<;>rcases qX hq hl with⟨e2,b1,b2⟩|⟨e2,b1⟩|⟨e2,b1,b2⟩|⟨e2,b1⟩<;>rw[e1,e2]<;>simp[jx]
 all_goals first
  |(have h:=R a1 a2;omega)
  |(have h:=L a1 a2;omega)
  |(have h:=R' b1 b2;omega)
  |(have h:=L' b1 b2;omega)
theorem yI (hf:GP f) (ht:GP t) (hp:GP p):(decide ((Cv.arc k false f t).ord f p≤0)&&decide ((Cv.arc k false f t).ord p t≤0))=decide (Nn k f p t≤0):=by
 have cf:=eI hf
 have ct:=eI ht
 have cp:=eI hp
 show(decide (oO k f f p≤0)&&decide (oO k f p t≤0))=_
 have ht:=jl cf cp ct
 obtain⟨i,hi⟩:=dW (dN p f)
 obtain⟨j,hj⟩:=dW (dN t f)
 obtain⟨l,hl⟩:=dW (dN p t)
 have h:=J8 (jn k f) (jn k p) (jn k t) i j l (by rw[←hi,←hj,←hl];exact ht)
 rw[←hi,←hj,←hl] at h
 rw[oE,oE,ew,ew,ew,ew,ew,uo cf,fw cp cf]
 exact h
theorem Eo (hq:0<k.q) (hf:OnK k f) (ht:OnK k t) (hp:OnK k p):(decide ((Cv.arc k true f t).ord f p≤0)&&decide ((Cv.arc k true f t).ord p t≤0))=decide (Nn k t p f≤0):=by
 have cf:=bq hf
 have ct:=bq ht
 have cp:=bq hp
 show(decide (oO k.mir f.flip f.flip p.flip≤0)&&decide (oO k.mir f.flip p.flip t.flip≤0))=_
 have h3:=jl cf cp ct
 have m1:=fF hq hp hf
 have m2:=fF hq ht hf
 have m3:=fF hq hp ht
 obtain⟨i,hi⟩:=dW (dN p f)
 obtain⟨j,hj⟩:=dW (dN t f)
 obtain⟨l,hl⟩:=dW (dN p t)
 rw[hi] at m1
 rw[hj] at m2
 rw[hl] at m3
 have h:=Mp (kd k f) (kd k p) (kd k t) i j l (by rw[←hi,←hj,←hl];exact h3) m1 m2 m3
 rw[←hi,←hj,←hl] at h
 unfold Tc S6 at h
 rw[oE,oE,ew,ew,ew,ew,ew,jm cf cf,jm cp cf,jm cf cp,jm ct cf,jm cp ct,uo cf,fw cp cf,Int.neg_zero,Int.neg_neg,nt hq hf,nt hq hp,nt hq ht,h]
 unfold Nn JD
 rw[fw ct cf,lK,lK,lK]
section
variable {k:Ci}{p:Pt}
theorem Td {c:Rat}:gC a b (zc b c)=gC a b c:=gY fun n=>by
 unfold gC zc
 by_cases h:b=0
 ·subst h;simp only[bX,cz,eE];grind
 ·rw[if_neg h]
end
def yQ (l:Ln) (p:Pt):Re:=Re.of l.a*pX p+Re.of l.b*pY p-Re.of l.c
theorem Ni {l:Ln}:gC (vA l p) (vB l p) p.c=yQ l p:=gY fun n=>by
 unfold yQ pX pY u9
 rw[Td,Td]
 unfold gC vA vB
 simp only[bX,cE,cz,eE];grind
theorem vn {l:Ln}(hp:GP p):ph l p=bJ (yQ l p):=by
 have hv:=hp.v
 have hc:=eI hp
 unfold ph
 by_cases hb:vB l p=0
 ·rw[CC (.inl hb),CE (.inl hb),DH (by decide) (fun h=>absurd rfl h),←Ni]
  refine congrArg bJ (gY fun n=>?_)
  unfold gC
  simp only[bX,cz,eE];grind
 ·have hcc:0<p.c∧j9 p.c=false:=by
   unfold tq at hv
   split at hv
   ·rename_i e
    exact absurd (by unfold vB;rw[e.1,e.2];grind) hb
   grind
  have hc0:p.c≠0:=by have:=hcc.1;grind
  have e1:rB (vB l p) p.c=vB l p:=by unfold rB;rw[if_neg (by rintro(h|h);exact hb h;exact hc0 h)]
  have e2:rC (vB l p) p.c=p.c:=by unfold rC;rw[if_neg (by rintro(h|h);exact hb h;exact hc0 h)]
  rw[e1,e2,DH hc (fun _=>hcc),Ni]
def Cv.pos:Cv→Prop
 | .seg ..=>True
 | .arc k _ _ _=>0<k.q
structure CvV (c:Cv):Prop where
 g:c.good
 pos:c.pos
 sp:c.supp c.p=true
 sq:c.supp c.q=true
 ne:cP c.p c.q≠0
theorem gH:cP p q=0↔cx p q=0∧cy p q=0:=by
 show(if cx p q≠0 then cx p q else cy p q)=0↔_
 grind
theorem gI (hp:0≤p.c) (hq:0≤q.c):cP q p= -cP p q:=Cf hp hq
theorem Eq (hp:0≤p.c):cP p p=0:=CU hp
theorem CvV.rev (h:CvV c):CvV c.rev:=by
 have hp:=eI (dD h.g)
 have hq:=eI (eA h.g)
 cases c with
 |seg l p q=>exact⟨wl h.g,trivial,h.sq,h.sp,fun e=>h.ne (by have:=gI hp hq;have e2:cP q p=0:=e;show cP p q=0;have h3:cP q p= -cP p q:=this;omega)⟩
 |arc k w p q=>exact⟨wl h.g,h.pos,h.sq,h.sp,fun e=>h.ne (by have:=gI hp hq;have e2:cP q p=0:=e;show cP p q=0;have h3:cP q p= -cP p q:=this;omega)⟩
theorem y4 {x y:Re}(h:bJ (x-y)=0) (v:Re):bJ (x-v)=bJ (y-v):=pA (by rw[←h];exact congrArg bJ (gY fun n=>by simp only[cE];grind))
section
variable {p q:Pt}(hp:0≤p.c) (hq:0≤q.c) (h:cP p q=0)
include hp hq h
theorem KY (hf:0≤f.c):cx p f=cx q f:=by
 have h1:=(gH.1 h).1
 rw[nU hp hq] at h1
 rw[nU hp hf,nU hq hf];exact y4 h1 _
theorem IW (v:Rat):uJ p v=uJ q v:=by
 have h1:=(gH.1 h).1
 rw[nU hp hq] at h1
 rw[vq hp,vq hq];exact y4 h1 _
theorem Km (v:Rat):lZ p v=lZ q v:=by
 have h1:=(gH.1 h).2
 rw[Gm hp hq] at h1
 rw[vE hp,vE hq];exact y4 h1 _
theorem JW (k:Ci):jn k p=jn k q:=by unfold jn;rw[IW hp hq h,Km hp hq h]
theorem Bz (hf:0≤f.c):oO k f p q=0:=by
 rw[oE,ew,ew,ew,KY hp hq h hf,JW hp hq h,(gH.1 h).1]
 unfold CL
 unfold B6
 simp
theorem ry (hc:c.good):c.ord p q=0:=by
 have hf:=eI (dD hc)
 cases c with
 |seg l f t=>
  show(if decide (cP f t>0)=true then-cP p q else cP p q)=0
  grind
 |arc k w f t=>
  show(if (!w)=true then oO k f p q else oO k.mir f.flip p.flip q.flip)=0
  split
  ·exact Bz hp hq h hf
  ·refine Bz (p:=p.flip) (q:=q.flip) hp hq (gH.2 ⟨?_,?_⟩) (f:=f.flip) hf
   ·rw[jm hp hq,(gH.1 h).1];rfl
   ·exact(gH.1 h).2
end
theorem yM (hc:c.good) (hp:GP p) (hq:GP q) (h:c.ord p q<0):cP p q≠0:=fun e=>by
 have:=ry (eI hp) (eI hq) e hc
 omega
theorem wg:d8 c [] x=[x]:=rfl
theorem qY (h:c.ord o x<0):d8 c (o::l) x=o::d8 c l x:=by
 have e:kr c x (o::l)=kr c x l+1:=by show(if c.ord o x<0 then kr c x l+1 else 0)=_;rw[if_pos h]
 unfold d8
 grind
theorem rM (h: ¬c.ord o x<0):d8 c (o::l) x=if cP o x=0 then o::l else x::o::l:=by
 have e:kr c x (o::l)=0:=by show(if c.ord o x<0 then kr c x l+1 else 0)=_;rw[if_neg h]
 unfold d8
 grind
def rF:List Pt→Prop
 |p::q::l=>cP p q≠0∧rF (q::l)
 |_=>True
theorem Kh (h:rF (o::l)):rF l:=by
 cases l with
 |nil=>trivial
 |cons p l=>exact h.2
theorem BQ {c:Cv}(hc:c.good) {x:Pt}(hx:GP x): ∀ {l:List Pt},(∀p∈l,GP p)→rF l→rF (d8 c l x)
 |[],_,_=>trivial
 |o::l,hl,h=>by
  by_cases g:c.ord o x<0
  ·rw[qY g]
   have ih:=BQ hc hx (l:=l) (fun p hp=>hl p (gi _ hp)) (Kh h)
   have ho:=yM hc (hl o fW) hx g
   cases l with
   |nil=>exact⟨ho,trivial⟩
   |cons p l=>
    by_cases g2:c.ord p x<0
    ·rw[qY g2] at ih⊢;exact⟨h.1,ih⟩
    ·rw[rM g2] at ih⊢
     by_cases e:cP p x=0
     ·rw[if_pos e];exact h
     ·rw[if_neg e] at ih⊢;exact⟨ho,ih⟩
  ·rw[rM g]
   by_cases e:cP o x=0
   ·rw[if_pos e];exact h
   ·rw[if_neg e]
    refine⟨fun e2=>e ?_,h⟩
    rw[gI (eI hx) (eI (hl o fW)),e2];rfl
theorem Am {c:Cv}(hc:c.good): ∀ {l out:List Pt},(∀p∈l,GP p)→(∀p∈out,GP p)→rF out→rF (l.foldl (d8 c) out)
 |[],_,_,_,h=>h
 |x::l,out,hl,ho,h=>by
  refine Am hc (l:=l) (out:=d8 c out x) (fun p hp=>hl p (gi _ hp)) (fun p hp=>?_) (BQ hc (hl x fW) ho h)
  rcases mV hp with e|e
  ·exact ho p e
  ·rw[e];exact hl x fW
theorem FZ (hc:c.good) (hl: ∀p∈l,GP p):rF (bt c l):=Am hc hl (fun p hp=>by cases hp) trivial
theorem xj {c:Cv}: ∀ {l:List Pt}{d:Cv},rF l→d∈iQ c l→ ∃p q,p∈l∧q∈l∧cP p q≠0∧d=c.ends p q
 |p::q::l,d,ha,h=>by
  rcases ek.1 (show d∈c.ends p q::iQ c (q::l) from h) with h|h
  ·exact⟨p,q,fW,gi _ fW,ha.1,h⟩
  ·obtain⟨p',q',h1,h2,h3,h4⟩:=xj ha.2 h
   exact⟨p',q',gi _ h1,gi _ h2,h3,h4⟩
 |[_],d,_,h=>by cases h
 |[],d,_,h=>by cases h
theorem vW (c:Cv) (p q:Pt):(c.ends p q).p=p:=by cases c<;>rfl
theorem wD (c:Cv) (p q:Pt):(c.ends p q).q=q:=by cases c<;>rfl
theorem pM (c:Cv) (p q x:Pt):(c.ends p q).supp x=c.supp x:=by cases c<;>rfl
theorem AT (h:c.pos) (p q:Pt):(c.ends p q).pos:=by cases c<;>exact h
theorem uC (h:c.on p=true):c.supp p=true:=by
 unfold Cv.on at h
 grind
theorem Dx (h:CvV c) (hL: ∀p∈L,GP p) (hs: ∀p∈L,c.supp p=true): ∀d∈dM c L,CvV d:=by
 intro d hd
 have hG: ∀p∈ [c.p,c.q]++L,GP p:=by
  intro p hp
  simp only[List.cons_append,List.nil_append,ek] at hp
  rcases hp with e|e|e
  ·rw[e];exact dD h.g
  ·rw[e];exact eA h.g
  grind
 have hS: ∀p∈ [c.p,c.q]++L,c.supp p=true:=by
  intro p hp
  simp only[List.cons_append,List.nil_append,ek] at hp
  rcases hp with e|e|e
  ·rw[e];exact h.sp
  ·rw[e];exact h.sq
  grind
 obtain⟨p,q,h1,h2,h3,rfl⟩:=xj (FZ h.g hG) hd
 have m1:=jG h1
 have m2:=jG h2
 exact⟨xB h.g (hG p m1) (hG q m2),AT h.pos p q,by rw[vW,pM];exact hS p m1,by rw[wD,pM];exact hS q m2,by rw[vW,wD];exact h3⟩
theorem ML (a b:Rat):pX (rP a b)=Re.of a:=gY fun n=>by unfold pX u9 gC;simp only[bX,cz,eE,rP];grind
theorem MJ (a b:Rat):pY (rP a b)=Re.of b:=gY fun n=>by unfold pY u9 gC;simp only[bX,cz,eE,rP];grind
theorem D5 {l:Ln}(hp:GP (rP a b)) (h:l.a*a+l.b*b=l.c):ph l (rP a b)=0:=by
 rw[vn hp]
 unfold yQ
 rw[ML,MJ,qL,qL,Ha,uU,jh,h]
 exact gM.2 (by grind)
theorem OQ (hp:GP (rP a b)) (h:(a-k.x)*(a-k.x)+(b-k.y)*(b-k.y)=k.q):sP k (rP a b)=0:=by
 rw[yN hp]
 unfold t8
 rw[ML,MJ,uU,uU,qL,qL,Ha,uU,jh,h,gM.2 (show k.q-k.q=0 by grind)];rfl
theorem Ox {q:Rat}(_h0:0<q) (hs:j9 q=true):rt q*rt q=q:=by
 have hs2:=hs
 unfold j9 Ca at hs2
 simp only[dU,beq_iff_eq] at hs2
 have hd:cn (q.den:Int)≠0:=by have:=sb (den_pos q);omega
 have hdq:((cn (q.den:Int):Int):Rat)≠0:=by simpa using hd
 have h2:rt q*((cn (q.den:Int):Int):Rat)=((cn q.num:Int):Rat):=by unfold rt;rw[Rat.divInt_eq_div,Rat.div_mul_cancel hdq]
 have h3:=Gs q
 have e1:((q.num:Int):Rat)=((cn q.num:Int):Rat)*((cn q.num:Int):Rat):=by rw[←Rat.intCast_mul,hs2.1]
 have e2:(((q.den:Int)):Rat)=((cn (q.den:Int):Int):Rat)*((cn (q.den:Int):Int):Rat):=by rw[←Rat.intCast_mul,hs2.2]
 grind
theorem ID (s:Rat) (hs:s*s=1) (h0:0<k.q) (hp:GP (jI k.x s k.y 0 k.q)):sP k (jI k.x s k.y 0 k.q)=0:=by
 cases hq:j9 k.q with
 |true=>
  have e:jI k.x s k.y 0 k.q=rP (k.x+s*rt k.q) (k.y+0*rt k.q):=by unfold jI;rw[hq];rfl
  rw[e] at hp⊢
  refine OQ hp ?_
  have:=Ox h0 hq
  grind
 |false=>
  have e:jI k.x s k.y 0 k.q=⟨k.x,s,k.y,0,k.q⟩:=by unfold jI;rw[hq];rfl
  rw[yN hp]
  have hc:(0:Rat)≤k.q:=by grind
  have h:=Ak hc
  have e2:t8 k ⟨k.x,s,k.y,0,k.q⟩=Re.rt k.q*Re.rt k.q-Re.of k.q:=gY fun n=>by
   unfold t8 pX pY
   rw[wc,wc]
   simp only[bX,cE,cz,eE];grind
  grind
theorem yD (hk:GK k) (h0:0<k.q):sP k (kQ k)=0:=ID (-1) (by decide+kernel) h0 (pk hk h0)
theorem yW (hk:GK k) (h0:0<k.q):sP k (kC k)=0:=ID 1 (by decide+kernel) h0 (pz hk h0)
theorem O2 (a b c d:Rat):(b-d)*c+(c-a)*d=(b-d)*a+(c-a)*b:=by grind
def Cv.inner (c:Cv) (p:Pt):Bool:=c.on p&&(!(cP c.p p==0)&& !(cP c.q p==0))
def Cv.mono:Cv→Bool
 | .seg _ p q=> !decide (cP p q≥0)
 | .arc k w p q=> !decide (cP p q≥0)&&(!(Cv.arc k w p q).inner (kQ k)&& !(Cv.arc k w p q).inner (kC k))
def Cv.vert:Cv→Bool
 | .seg _ p q=>cx p q==0
 | .arc ..=>false
theorem R1 (h:c.on p=false):c.inner p=false:=by unfold Cv.inner;rw[h];rfl
theorem N4 (h:c.on p=true) (g:(!(cP c.p p==0))=false):c.inner p=false:=by unfold Cv.inner;rw[h,g];rfl
theorem Od (h:c.on p=true) (g:(!(cP c.p p==0))=true):c.inner p= !(cP c.q p==0):=by unfold Cv.inner;rw[h,g];rfl
theorem AY (h:c.supp p=true):c.on p=(decide (c.ord c.p p≤0)&&decide (c.ord p c.q≤0)):=by unfold Cv.on;rw[h,du]
def Bn (a d b:Fin 4) (n1 n2 n3:Int):Int:=Ew (Kq (uK d) (uK a) n1) (Kq (uK b) (uK a) n2) (Kq (uK d) (uK b) n3)
def S7 (q a b:Fin 4) (s:Int) (m:Int):Bool:=decide (Bn a q b (if a=q then 0 else s) m (if b=q then 0 else s)≤0)&&(a !=q&&b !=q)
set_option maxRecDepth 100000 in
theorem BN: ∀(a b:Fin 4) (m:Fin 3),jx b a (i3 m)=true→(a==b&&i3 m==0)=false→S7 2 a b (-1) (i3 m)=false→S7 0 a b 1 (i3 m)=false→
 ((a=2∨a=3)∧(b=3∨b=0)∧i3 m=1)∨((a=0∨a=1)∧(b=1∨b=2)∧i3 m= -1):=by decide+kernel
set_option maxRecDepth 100000 in
theorem Lx: ∀(a b d:Fin 4) (i l:Fin 3),(a=2∨a=3)→(b=3∨b=0)→jx d a (i3 i)=true→jx d b (i3 l)=true→Cc (i3 i) 1 (i3 l)=true→
 (Bn a d b (i3 i) 1 (i3 l)≤0↔d≠1∧0≤i3 i∧i3 l≤0):=by decide+kernel
set_option maxRecDepth 100000 in
theorem Mq: ∀(a b d:Fin 4) (i l:Fin 3),(a=0∨a=1)→(b=1∨b=2)→jx d a (i3 i)=true→jx d b (i3 l)=true→Cc (i3 i) (-1) (i3 l)=true→
 (Bn a d b (i3 i) (-1) (i3 l)≤0↔d≠3∧i3 i≤0∧0≤i3 l):=by decide+kernel
theorem pD (k:Ci) (s p e:Pt):Nn k s p e=Bn (kd k s) (kd k p) (kd k e) (cx p s) (cx e s) (cx p e):=by
 unfold Nn JD Bn
 rw[lK,lK,lK]
theorem pO {c:Rat}:cT a 0 c=aM a 0:=by
 unfold cT nw
 rw[jF,k9,if_pos (.inl rfl)]
theorem Gd {c:Rat}(hc:0<c):cT 0 b c=aM b 0:=by
 have h1:aM c 0=1:=by unfold aM;rw[if_neg (by grind),if_pos hc]
 unfold cT nw
 rw[jF,h1,Int.mul_one]
 grind
theorem Nu (s:Rat) (h0:0<k.q):lZ (jI k.x s k.y 0 k.q) k.y=0∧uJ (jI k.x s k.y 0 k.q) k.x=aM (if j9 k.q then s*rt k.q else s) 0:=by
 cases hq:j9 k.q with
 |true=>
  have e:jI k.x s k.y 0 k.q=rP (k.x+s*rt k.q) (k.y+0*rt k.q):=by unfold jI;rw[hq];rfl
  rw[e,if_pos rfl]
  refine⟨?_,?_⟩
  ·show cT (k.y+0*rt k.q-k.y) 0 _=0
   rw[pO,show k.y+0*rt k.q-k.y=0 from by grind,jF]
  ·show cT (k.x+s*rt k.q-k.x) 0 _=_
   rw[pO,show k.x+s*rt k.q-k.x=s*rt k.q from by grind]
 |false=>
  have e:jI k.x s k.y 0 k.q=⟨k.x,s,k.y,0,k.q⟩:=by unfold jI;rw[hq];rfl
  rw[e,if_neg (by decide)]
  refine⟨?_,?_⟩
  ·show cT (k.y-k.y) 0 _=0
   rw[pO,show k.y-k.y=0 from by grind,jF]
  ·show cT (k.x-k.x) s (zc s k.q)=_
   rw[show k.x-k.x=0 from by grind]
   by_cases hs:s=0
   ·rw[hs,pO]
   ·rw[ij hs,Gd h0]
theorem Gc (c:Rat):0≤rt c:=by
 have n1:=fT c.num
 have n2:=fT (c.den:Int)
 exact Rat.divInt_nonneg n1 n2
theorem RH (h:cx p q≠0):cP p q=cx p q:=if_pos h
theorem DT {q:Rat}(h0:0<q) (hs:j9 q=true):0<rt q:=by
 have h1:=Gc q
 have h2:=Qd h0 hs
 grind
theorem H2 (h0:0<k.q):lZ (kQ k) k.y=0∧uJ (kQ k) k.x<0:=by
 obtain⟨a,b⟩:=Nu (k:=k) (-1) h0
 refine⟨a,?_⟩
 show uJ (jI k.x (-1) k.y 0 k.q) k.x<0
 rw[b]
 cases hq:j9 k.q with
 |true=>have:=DT h0 hq;rw[if_pos rfl];unfold aM;rw[if_pos (by grind)];decide
 |false=>rw[if_neg (by decide)];decide+kernel
theorem JB (h0:0<k.q):lZ (kC k) k.y=0∧0<uJ (kC k) k.x:=by
 obtain⟨a,b⟩:=Nu (k:=k) 1 h0
 refine⟨a,?_⟩
 show 0<uJ (jI k.x 1 k.y 0 k.q) k.x
 rw[b]
 cases hq:j9 k.q with
 |true=>have:=DT h0 hq;rw[if_pos rfl];unfold aM;rw[if_neg (by grind),if_pos (by grind)];decide
 |false=>rw[if_neg (by decide)];decide+kernel
section
variable {k:Ci}(hk:GK k) (h0:0<k.q)
include hk h0
theorem wm:OnK k (kQ k):=⟨pk hk h0,yD hk h0⟩
theorem vK:OnK k (kC k):=⟨pz hk h0,yW hk h0⟩
omit hk in
theorem Da:kd k (kQ k)=2:=by
 obtain⟨a,b⟩:=H2 h0
 unfold kd;rw[if_neg (by omega),if_pos a,if_neg (by omega)]
omit hk in
theorem CN:kd k (kC k)=0:=by
 obtain⟨a,b⟩:=JB h0
 unfold kd;rw[if_neg (by omega),if_pos a,if_pos (by omega)]
theorem wt (hp:OnK k p):cx (kQ k) p=if kd k p=2 then 0 else-1:=by
 have h:=fF h0 (wm hk h0) hp
 rw[Da h0] at h
 unfold jx at h
 grind
theorem wF (hp:OnK k p):cx (kC k) p=if kd k p=0 then 0 else 1:=by
 have h:=fF h0 (vK hk h0) hp
 rw[CN h0] at h
 unfold jx at h
 grind
omit hk in
theorem Ea (of:OnK k f) (ot:OnK k t) (ox:OnK k x) (q:Fin 4) (hq: ∀y,OnK k y→cP y x=0→kd k y=q) (hi:(Cv.arc k w f t).inner x=false):
 (decide (Nn k (if w then t else f) x (if w then f else t)≤0)&&(kd k f !=q&&kd k t !=q))=false:=by
 have hon:(Cv.arc k w f t).on x=decide (Nn k (if w then t else f) x (if w then f else t)≤0):=by
  rw[AY (db.2 ox.2)]
  cases w with
  |true=>exact Eo h0 of ot ox
  |false=>exact yI of.1 ot.1 ox.1
 unfold Cv.inner at hi
 rw[hon] at hi
 cases h:decide (Nn k (if w then t else f) x (if w then f else t)≤0) with
 |false=>rfl
 |true=>
  rw[h,du] at hi
  rw[du]
  rcases Bool.and_eq_false_iff.1 hi with g|g
  ·have:cP f x=0:=by simpa [Cv.p] using g
   rw[hq f of this,bne_self_eq_false,ib]
  ·have:cP t x=0:=by simpa [Cv.q] using g
   rw[hq t ot this,bne_self_eq_false,Bool.and_false]
theorem Lw (oy:OnK k y) (h:cP y (kQ k)=0):kd k y=2:=by
 have h1:=wt hk h0 oy
 have h2:=(gH.1 h).1
 have h3:=fw (eI (pk hk h0)) (bq oy)
 grind
theorem Lb (oy:OnK k y) (h:cP y (kC k)=0):kd k y=0:=by
 have h1:=wF hk h0 oy
 have h2:=(gH.1 h).1
 have h3:=fw (eI (pz hk h0)) (bq oy)
 grind
omit hk in
theorem zH (op:OnK k p) (oq:OnK k q) (hd:kd k p=kd k q) (hx:cx p q=0):cP p q=0:=by
 refine gH.2 ⟨hx,?_⟩
 have cp:=bq op
 have cq:=bq oq
 rw[nU cp cq] at hx
 rw[Gm cp cq]
 have hp:=sw op
 have hq:=sw oq
 have hY:bJ ((pY p-Re.of k.y)-(pY q-Re.of k.y))=bJ (pY p-pY q):=congrArg bJ (gY fun n=>by simp only[cE];grind)
 rw[←hY]
 have sp:=vE cp k.y
 have sq:=vE cq k.y
 generalize hP:pY p-Re.of k.y=P at*
 generalize hQ:pY q-Re.of k.y=Q at*
 have e:(P-Q)*(P+Q)=(t8 k p-t8 k q)+ -((pX p-pX q)*((pX p-Re.of k.x)+(pX q-Re.of k.x))):=by
  rw[←hP,←hQ]
  exact gY fun n=>by unfold t8;simp only[bX,cE,cz,eE,cJ];grind
 have h1:bJ ((P-Q)*(P+Q))=0:=by
  rw[e,dw _ (by rw[fh,ee,hx,k9];rfl),show t8 k p-t8 k q=t8 k p+ -t8 k q from gY fun n=>by simp only[bX,cE,cJ]<;>grind,dw _ (by rw[fh,hq];rfl),hp]
 rw[ee] at h1
 rcases sn.1 h1 with g|g
 ·exact g
 ·have hs:bJ P=bJ Q:=by
   rw[←sp,←sq]
   rcases qX h0 op with⟨a,b,_⟩|⟨a,b⟩|⟨a,b,_⟩|⟨a,b⟩<;>rcases qX h0 oq with⟨a',b',_⟩|⟨a',b'⟩|⟨a',b',_⟩|⟨a',b'⟩<;>rw[a,a'] at hd<;>first|exact absurd hd (by decide)|skip
   all_goals have b1:=iT (p.a2-k.y) p.b2 (zc p.b2 p.c);have b2:=iT (q.a2-k.y) q.b2 (zc q.b2 q.c);unfold lZ at b b'⊢;omega
  have e2:bJ P= -bJ Q:=by
   rw[show P=(P+Q)+ -Q from gY fun n=>by simp only[bX,cJ]<;>grind,ni g,fh]
  have e3:bJ P=0:=by omega
  have e4:bJ Q=0:=by omega
  rw[show P-Q=P+ -Q from gY fun n=>by simp only[bX,cE,cJ]<;>grind,dw _ (by rw[fh,e4];rfl),e3]
theorem xY (of:OnK k f) (ot:OnK k t) (hm:(Cv.arc k w f t).mono=true):
 if w then(kd k t=0∨kd k t=1)∧(kd k f=1∨kd k f=2)∧cx f t= -1 else(kd k f=2∨kd k f=3)∧(kd k t=3∨kd k t=0)∧cx t f=1:=by
 have hm:(!decide (cP f t≥0)&&(!(Cv.arc k w f t).inner (kQ k)&& !(Cv.arc k w f t).inner (kC k)))=true:=hm
 have hlt:cP f t<0:=by grind
 have hL:(Cv.arc k w f t).inner (kQ k)=false:=by grind
 have hR:(Cv.arc k w f t).inner (kC k)=false:=by grind
 have iL:=Ea h0 of ot (wm hk h0) 2 (fun y oy h=>Lw hk h0 oy h) hL
 have iR:=Ea h0 of ot (vK hk h0) 0 (fun y oy h=>Lb hk h0 oy h) hR
 have ha:=fw (bq of) (bq ot)
 have hx:cx f t≤0:=by
  by_cases h:cx f t≤0
  ·exact h
  ·have:cP f t=cx f t:=RH (by omega)
   omega
 cases w with
 |false=>
  simp only[Bool.false_eq_true,if_false] at iL iR⊢
  rw[pD,Da h0,wt hk h0 of,wt hk h0 ot] at iL
  rw[pD,CN h0,wF hk h0 of,wF hk h0 ot] at iR
  obtain⟨m,em⟩:=dW (dN t f)
  rw[em] at iL iR
  have hc:=fF h0 ot of
  rw[em] at hc
  have hn:(kd k f==kd k t&&i3 m==0)=false:=by
   rw[←em]
   cases h:(kd k f==kd k t&&cx t f==0) with
   |false=>rfl
   |true=>
    rw[dU] at h
    have:=zH h0 of ot (beq_iff_eq.1 h.1) (by have:=beq_iff_eq.1 h.2;omega)
    omega
  rcases BN (kd k f) (kd k t) m hc hn iL iR with⟨p,q,r⟩|⟨p,q,r⟩
  ·grind
  grind
 |true=>
  simp only[if_true] at iL iR⊢
  rw[pD,Da h0,wt hk h0 of,wt hk h0 ot] at iL
  rw[pD,CN h0,wF hk h0 of,wF hk h0 ot] at iR
  obtain⟨m,em⟩:=dW (dN f t)
  rw[em] at iL iR
  have hc:=fF h0 of ot
  rw[em] at hc
  have hn:(kd k t==kd k f&&i3 m==0)=false:=by
   rw[←em]
   cases h:(kd k t==kd k f&&cx f t==0) with
   |false=>rfl
   |true=>
    rw[dU] at h
    have:=zH h0 of ot (beq_iff_eq.1 h.1).symm (by have:=beq_iff_eq.1 h.2;omega)
    omega
  rw[Bool.and_comm (kd k f !=2)] at iL
  rw[Bool.and_comm (kd k f !=0)] at iR
  rcases BN (kd k t) (kd k f) m hc hn iL iR with⟨p,q,r⟩|⟨p,q,r⟩
  ·omega
  grind
end
def yw (a b c:Rat):Rat:=1/(a*a-b*b*c)
end Go.Proofs.YtkfgimjmgfoneaaGreatDoor
