/-Data:a slice of nothing,slices from a place on,chains of two and three appends. -/
import Derived.Test.YtkmdgigkbhmilaaGreatBeL
namespace Go.Proofs.YtkmdgigkbhmilaaGreat
open Go Go.RowKit
variable {f1 f2 f3:Array Edge}{ops:Array Oper}{B:BF}{k:Ci}{c:Cv}{A D j u:Int}{us us' xs ys ys1 ys2 zs zs':List CellD}{l:List Pt}{N' YW by_ i1 i2 m n n' q1 q2 r sz t1 t2 ty1:Nat}{o:Oper}{h x x0 y y1 y2:Operand}{P:Program}{p q:Pt}{a b d f:Rat}{p1 p2:String}{T:TF}{U e:TypeId}
variable {ty:TypeId}{af:Array Edge}{g:Option (Nat×Bool)}{dst:Option Nat}
theorem tH:type_of% @Rat.div_mul_cancel:=@Rat.div_mul_cancel
section
variable {P:Program}{ops:Array Oper}{T:TF}{B:BF}
theorem mm {pos:String}
 (hU:ua P U=some (e,m,by_,zs)) (hg:gd ops ⟨dst,.buildSlice U 0 #[],ty,pos,af,g⟩ T=some true):Sem P ops ⟨dst,.buildSlice U 0 #[],ty,pos,af,g⟩ T B (.r (.f 0 [])):=by
 refine⟨qi rfl,fun V β a w hs=>⟨fa hs hg,?_⟩⟩
 obtain⟨hu,i,z,hi,hz,hsz,hby,hzl,hzr⟩:=jh hU
 have hexec:(execOp a.eval ⟨dst,.buildSlice U 0 #[],ty,pos,af,g⟩).run P w=.ok (.value (.slice (some ⟨w.heap.size,0,none⟩) 0 0)) (w.alloc (.cells #[] e)):=by
  have hso: ∀w,(sizeOf e).run P w=.ok i.size w:=fun w=>by unfold sizeOf typeInfo;simp[program,Sem.run,hi]
  simp[execOp,Instr.buildSlice,run_underlying hu,hso,Instr.fill,newRow]
  grind
 unfold Gives
 rw[hexec]
 exact⟨⟨⟨_,rfl⟩,.s0 _ _ (by decide)⟩,(fu _ w).alloc (cK _) _⟩
theorem q8 {pos:String}
 (hU:ua P U=some (e,m,by_,zs)) (hx:dc T x=some (.f 0 us)) (hy:dc T y=some (.v (.c (.s 0 ys))))
 (hg:gd ops ⟨dst,.call ⟨.builtin .append,#[x,y],#[U,U]⟩,ty,pos,af,g⟩ T=some true):
 Sem P ops ⟨dst,.call ⟨.builtin .append,#[x,y],#[U,U]⟩,ty,pos,af,g⟩ T B (.r (.f 0 us)):=by
 refine⟨qi rfl,fun V β a w hs=>⟨fa hs hg,?_⟩⟩
 obtain⟨⟨A,e1⟩,hxr⟩:(∃A,a.eval x=.slice A 0 0)∧RdV V w (a.eval x) (.c (.s 0 us)):=aK hs (x:=x) (by simp[Op.operands,Call.operands]) hx
 have h2:RdC V w (a.eval y) (.s 0 ys):=aK hs (x:=y) (by simp[Op.operands,Call.operands]) hy
 have hys:ys=[]:=by
  generalize a.eval y=vy at h2
  cases h2 with
  |s0=>rfl
  |s b off c sz n' xs' cv h0=>omega
 subst hys
 obtain⟨news,hsrc,_⟩:=rf hU h2 (by simp)
 obtain⟨hu,i,z,hi,hz,hsz,hby,_,hzr⟩:=jh hU
 subst hsz
 have hn1:news=[]:=lJ.1 (by rw[hsrc.newsLen,Nat.zero_mul])
 subst hn1
 rw[e1] at hxr
 have hrun:(Builtin.append_ #[U,U] ty #[.slice A 0 0,a.eval y]).run P w=.ok (.slice A 0 0) w:=by
  cases A with
  |none=>rcases hsrc.kind with⟨e',hk⟩|hk<;>simp[Builtin.append_,run_underlying hu,sizeOf,typeInfo,hi,hsrc.len,hsrc.cells]<;>rfl
  |some A=>
   rcases hsrc.kind with⟨e',hk⟩|hk<;>simp[Builtin.append_,run_underlying hu,sizeOf,typeInfo,hi,hsrc.len,hsrc.cells]<;>rfl
 have hexec:(execOp a.eval ⟨dst,.call ⟨.builtin .append,#[x,y],#[U,U]⟩,ty,pos,af,g⟩).run P w=.ok (.value (.slice A 0 0)) w:=by
  simp only[execOp,resolve,invoke,builtin,fI,gG,fM,uh,pt,uR,e1]
  rw[hrun]
  rfl
 unfold Gives
 rw[hexec]
 exact⟨⟨⟨A,rfl⟩,hxr⟩,fu _ w⟩
theorem EM {pos:String}{q:Nat}
 (hU:ua P U=some (e,m,by_,zs)) (hx:dc T x=some (.f n us)) (hy:dc T y=some (.v (.c (.s q ys)))) (hus:us.length=n*m) (hyl:ys.length=q*m) (hm:0<m) (hn0:0<n) (hbytes:(n+q)*by_≤140737488355328) (h63:n+q≤maxLen)
 (hg:gd ops ⟨dst,.call ⟨.builtin .append,#[x,y],#[U,U]⟩,ty,pos,af,g⟩ T=some true):
 Sem P ops ⟨dst,.call ⟨.builtin .append,#[x,y],#[U,U]⟩,ty,pos,af,g⟩ T B (.r (.v (.c (.s (n+q) (us++ys))))):=
 sK hU hx (fun V β a w hs=>rf hU (aK hs (x:=y) (by simp[Op.operands,Call.operands]) hy) hyl) hus hyl hm hn0 hbytes h63 hg
theorem qW {pos:String}{ki:IntKind}
 (hU:wF P U=some m) (hx:dc T x=some (.v (.c (.s n xs)))) (hh:dc T h=some (.v (.c (.i ki j)))) (hj:0≤j∧j≤n) (hl:xs.length=n*m) (hn':n-j.toNat=n') (hu:xs.drop (j.toNat*m)=us) (hg:gd ops ⟨dst,.slice U x (some h) none none,ty,pos,af,g⟩ T=some true):
 Sem P ops ⟨dst,.slice U x (some h) none none,ty,pos,af,g⟩ T B (.r (.v (.c (.s n' us)))):=
 bQ hg (qi rfl) (fun V β a w hs=>by
  subst hn'
  have h1:=aK hs (x:=x) (by simp[Op.operands]) hx
  have h2:=jX (aK hs (x:=h) (by simp[Op.operands]) hh)
  generalize hv:a.eval x=v at h1
  have h1:RdC V w v (.s n xs):=h1
  unfold wF at hU
  split at hU
  case h_2=>cases hU
  rename_i el hul
  cases hinf:P.info? el with
  |none=>rw[hinf] at hU;cases hU
  |some inf=>
   rw[hinf] at hU
   simp at hU
   have hso: ∀w,(sizeOf el).run P w=.ok m w:=fun w=>by unfold sizeOf typeInfo;simp[program,Sem.run,hinf,hU]
   have hgen: ∀(A:Option Addr) (c:Nat),a.eval x=.slice A n c→n≤c→(execOp a.eval ⟨dst,.slice U x (some h) none none,ty,pos,af,g⟩).run P w=.ok (.value (.slice (if c=j.toNat then A else A.map (·.add (j.toNat*m))) (n-j.toNat) (c-j.toNat))) w:=by
    intro A c e hnc
    have hjc:j≤c:=by omega
    have hjn:=hj.2
    simp[execOp,Instr.sliceAt,Instr.slice,run_underlying hul,e,h2,Instr.sliceBounds,Instr.sliceBound,asIntOf,hj.1,hjn,hso]
   cases h1 with
   |s0 A c hc=>
    have hj0:j.toNat=0:=by omega
    refine⟨_,hgen A c hv (by omega),?_⟩
    rw[←hu,hj0]
    simp
    exact .s0 _ c hc
   |s b off c sz _ _ cv h0 hnc hcm hlen hb hav hc hr=>
    have hsz:sz=m:=by
     rw[hl] at hlen
     exact(Fk h0 hlen).symm
    subst hsz
    refine⟨_,hgen _ c hv hnc,?_⟩
    rcases qt j.toNat n with hjn|hjn
    ·rw[if_neg (by omega),show((some ⟨b,off,none⟩:Option Addr).map (·.add (j.toNat*sz)))=some ⟨b,off+j.toNat*sz,none⟩ from by simp[Addr.add]]
     have hmul:j.toNat*sz+(n-j.toNat)*sz=n*sz:=by rw[←tF];congr 1;omega
     refine .s b (off+j.toNat*sz) (c-j.toNat) sz (n-j.toNat) us (fun q=>cv (j.toNat*sz+q)) (by omega) (by omega) (by omega) ?_ hb hav (fun q hq=>?_) (fun q u hq=>?_)
     ·grind
     ·grind
     grind
    ·have e9:n-j.toNat=0:=by omega
     rw[e9,←hu,qz (by rw[hlen];exact tz _ hjn)]
     exact .s0 _ _ (by omega))
end
theorem sN (h:Sem P ops o T B (.r (.v (.c (.s n us))))) (e1:n=n') (e2:us=us'):Sem P ops o T B (.r (.v (.c (.s n' us')))):=by subst e1 e2;exact h
def ZH (ops:Array Oper) (i j:Nat):Bool:=match ops[j]? with
 |none=>false
 |some o=>(df o).any (Nat.beq i)
theorem I0 {i j:Nat}(h:ZH ops i j=true) (ho:ops[j]? =some o):i∈df o:=by
 unfold ZH at h;rw[ho] at h;exact kU.1 h
section
variable {P:Program}{ops:Array Oper}{tail:List Oper}{K:St→Prop}{m n:Nat}{tm0 tm:List (Nat×DV)}{bx:List (Nat×TypeId×List CellD)}
theorem GA {i3 t3 q3 II:Nat}{p3:String}{ys3:List CellD}{y3:Operand}
 (hU:ua P U=some (e,sz,by_,zs)) (hm:0<sz) (hb:dc (fun s=>aM s tm) x0=some (.f 0 us))
 (o1:ops[i1]? =some ⟨some t1,.call ⟨.builtin .append,#[x0,y1],#[U,U]⟩,ty1,p1,f1,none⟩) (o2:ops[i2]? =some ⟨some t2,.call ⟨.builtin .append,#[.tmp t1,y2],#[U,U]⟩,YW,p2,f2,none⟩) (o3:ops[i3]? =some ⟨some t3,.call ⟨.builtin .append,#[.tmp t2,y3],#[U,U]⟩,II,p3,f3,none⟩)
 (lt:(Nat.blt i1 m&&Nat.blt i2 m&&Nat.blt i3 m)=true) (d1:dc (fun s=>aM s tm) y1=some (.v (.c (.s q1 ys1)))) (d2:dc (fun s=>aM s tm) y2=some (.v (.c (.s q2 ys2)))) (d3:dc (fun s=>aM s tm) y3=some (.v (.c (.s q3 ys3))))
 (l1:ys1.length=q1*sz) (l2:ys2.length=q2*sz) (l3:ys3.length=q3*sz) (b0:(pV ops [i1,i2,i3] m i1 x0&&pV ops [i1,i2,i3] m i1 y1&&pV ops [i1,i2,i3] m i2 y2&&pV ops [i1,i2,i3] m i3 y3)=true)
 (nx:(ZH ops i1 i2&&ZH ops i2 i3)=true) (hq:0<q1) (w1:aM t1 tm0=none) (w2:aM t2 tm0=none) (w3:aM t3 tm0=none) (v1:aM t1 bx=none) (v2:aM t2 bx=none) (v3:aM t3 bx=none)
 (hN:q1+q2+q3=N') (hz:ys1++ys2++ys3=zs') (hbytes:N'*by_≤140737488355328) (h63:N'≤maxLen)
 (hk: ∀c rest,N'≤c→c≤maxLen→rest.length=(c-N')*sz→dl P ops tail ⟨n,(t3,.o t3 N' c)::tm,(t3,e,zs'++rest)::bx⟩ K):
 ∃(U e:TypeId) (sz by_:Nat) (zs:List CellD) (x0:Operand) (ch:List AppS),ChainA P ops [i1,i2,i3] m U e sz by_ zs x0 tm0 tm bx ch∧
  ∀c rest,nA ch≤c→c≤maxLen→rest.length=(c-nA ch)*sz→dl P ops tail ⟨n,Ai c ch++tm,Ex e rest ch++bx⟩ K:=by
 simp only[dT] at lt b0 nx
 have hN2:nA [⟨i1,t1,y1,q1,ys1⟩,⟨i2,t2,y2,q2,ys2⟩,⟨i3,t3,y3,q3,ys3⟩]=N':=by show q1+(q2+(q3+0))=N';omega
 have hz2:uA [⟨i1,t1,y1,q1,ys1⟩,⟨i2,t2,y2,q2,ys2⟩,⟨i3,t3,y3,q3,ys3⟩]=zs':=by show ys1++(ys2++(ys3++[]))=zs';rw[←hz];simp
 refine⟨U,e,sz,by_,zs,x0,[⟨i1,t1,y1,q1,ys1⟩,⟨i2,t2,y2,q2,ys2⟩,⟨i3,t3,y3,q3,ys3⟩],⟨hU,hm,⟨us,hb⟩,rfl,?_,?_,?_,?_,?_,?_,by rw[hN2];exact⟨hbytes,h63⟩⟩,fun c rest g1 g2 g3=>?_⟩
 ·intro l a r h
  match l,h with
  |[],h=>injection h with h _;subst h;exact⟨_,_,_,o1⟩
  |[x],h=>injection h with h h';injection h' with h' _;subst h h';exact⟨_,_,_,o2⟩
  |[x,y],h=>injection h with h h';injection h' with h' h'';injection h'' with h'' _;subst h h' h'';exact⟨_,_,_,o3⟩
  |x::y::z'::l,h=>have:=congrArg List.length h;simp at this<;>omega
 ·simp_all
 ·grind
 ·grind
 ·intro l a b r h o ho
  match l,h with
  |[],h=>injection h with h h';injection h' with h' _;subst h h';exact I0 nx.1 ho
  |[x],h=>injection h with h h';injection h' with h' h'';injection h'' with h'' _;subst h h' h'';exact I0 nx.2 ho
  |x::y::l,h=>have:=congrArg List.length h;simp at this<;>omega
 ·grind
 ·rw[hN2] at g1 g3
  show dl P ops tail ⟨n,[(t3,.o t3 (nA _) c)]++tm,[(t3,e,uA _++rest)]++bx⟩ K
  grind
theorem Hi 
 (hU:ua P U=some (e,sz,by_,zs)) (hm:0<sz) (hb:dc (fun s=>aM s tm) x0=some (.f 0 us))
 (o1:ops[i1]? =some ⟨some t1,.call ⟨.builtin .append,#[x0,y1],#[U,U]⟩,ty1,p1,f1,none⟩) (o2:ops[i2]? =some ⟨some t2,.call ⟨.builtin .append,#[.tmp t1,y2],#[U,U]⟩,YW,p2,f2,none⟩)
 (lt:(Nat.blt i1 m&&Nat.blt i2 m)=true) (d1:dc (fun s=>aM s tm) y1=some (.v (.c (.s q1 ys1)))) (d2:dc (fun s=>aM s tm) y2=some (.v (.c (.s q2 ys2))))
 (l1:ys1.length=q1*sz) (l2:ys2.length=q2*sz) (b0:(pV ops [i1,i2] m i1 x0&&pV ops [i1,i2] m i1 y1&&pV ops [i1,i2] m i2 y2)=true)
 (nx:ZH ops i1 i2=true) (hq:0<q1) (w1:aM t1 tm0=none) (w2:aM t2 tm0=none) (v1:aM t1 bx=none) (v2:aM t2 bx=none)
 (hN:q1+q2=N') (hz:ys1++ys2=zs') (hbytes:N'*by_≤140737488355328) (h63:N'≤maxLen)
 (hk: ∀c rest,N'≤c→c≤maxLen→rest.length=(c-N')*sz→dl P ops tail ⟨n,(t2,.o t2 N' c)::tm,(t2,e,zs'++rest)::bx⟩ K):
 ∃(U e:TypeId) (sz by_:Nat) (zs:List CellD) (x0:Operand) (ch:List AppS),ChainA P ops [i1,i2] m U e sz by_ zs x0 tm0 tm bx ch∧
  ∀c rest,nA ch≤c→c≤maxLen→rest.length=(c-nA ch)*sz→dl P ops tail ⟨n,Ai c ch++tm,Ex e rest ch++bx⟩ K:=by
 have hN2:nA [⟨i1,t1,y1,q1,ys1⟩,⟨i2,t2,y2,q2,ys2⟩]=N':=by show q1+(q2+0)=N';omega
 have hz2:uA [⟨i1,t1,y1,q1,ys1⟩,⟨i2,t2,y2,q2,ys2⟩]=zs':=by show ys1++(ys2++[])=zs';rw[←hz];simp
 refine⟨U,e,sz,by_,zs,x0,[⟨i1,t1,y1,q1,ys1⟩,⟨i2,t2,y2,q2,ys2⟩],⟨hU,hm,⟨us,hb⟩,rfl,?_,?_,?_,?_,?_,?_,by rw[hN2];exact⟨hbytes,h63⟩⟩,fun c rest g1 g2 g3=>?_⟩
 ·intro l a r h
  match l,h with
  |[],h=>injection h with h _;subst h;exact⟨_,_,_,o1⟩
  |[x],h=>injection h with h h';injection h' with h' _;subst h h';exact⟨_,_,_,o2⟩
  |x::y::l,h=>have:=congrArg List.length h;simp at this<;>omega
 ·simp_all
 ·grind
 ·grind
 ·intro l a b r h o ho
  match l,h with
  |[],h=>injection h with h h';injection h' with h' _;subst h h';exact I0 nx ho
  |x::l,h=>have:=congrArg List.length h;simp at this<;>omega
 ·grind
 ·rw[hN2] at g1 g3
  show dl P ops tail ⟨n,[(t2,.o t2 (nA _) c)]++tm,[(t2,e,uA _++rest)]++bx⟩ K
  grind
end
theorem abc (a b c d:Pt):aj a++aj b++aj c++aj d=aI aj [a,b,c,d]:=by simp[aI]
section
variable {c d:Cv}
theorem Rq (h:i7 c d=true):bh c d=[c.p,c.q,d.p,d.q]:=by unfold bh;rw[if_pos h]
theorem Ir (h:i7 c d=false):bh c d=j9 c d:=by unfold bh;rw[if_neg (by rw[h];decide)]
theorem Ru {α:Type}{B:α→Bool}{M:List α}{x:α}(h:n<M.length) (hb:B (M.getD n x)=true):(M.take (n+1)).filter B=(M.take n).filter B++[M.getD n x]:=by
 rw[oh (d:=x) h,List.filter_append]
 grind
theorem EN {α:Type}{B:α→Bool}{M:List α}{x:α}(h:n<M.length) (hb:B (M.getD n x)=false):(M.take (n+1)).filter B=(M.take n).filter B:=by
 rw[oh (d:=x) h,List.filter_append,List.filter_cons,if_neg (by rw[hb];decide)]
 simp
theorem Oj (h:c.on p=true) (g:d.on p=true):dM c d p=true:=by unfold dM;rw[h,g];rfl
theorem KN (h:c.on p=false):dM c d p=false:=by unfold dM;rw[h];rfl
theorem KQ (g:d.on p=false):dM c d p=false:=by unfold dM;rw[g,pB]
theorem Zj (h:KP d l r=true):KP d l (r+1)=true:=by show(KP d l r||_)=true;rw[h];rfl
theorem ZI (h:KP d l r=false):KP d l (r+1)=decide (d.ord (l.getD r dPt) (l.getD (r+1) dPt)<0):=by show(KP d l r||_)=_;rw[h];rfl
theorem UB (h:i7 c d=false):CF c d=false:=by unfold CF;rw[if_neg (by rw[h];decide)]
theorem UE (h:i7 c d=true) (hr:(cG c d).length-1=r):CF c d=KP (iN c d) (cG c d) r:=by unfold CF;rw[if_pos h,hr]
theorem Jk (hd:d.good):(iN c d).good:=by
 unfold iN
 split
 ·exact Cj hd
 ·exact hd
end
theorem lm {x y m n:Int}(h1: -m≤x∧x≤m) (h2: -n≤y∧y≤n): -(m*n)≤x*y∧x*y≤m*n:=by
 have hm:(x.natAbs:Int)≤m:=by omega
 have hn:(y.natAbs:Int)≤n:=by omega
 have h:(x*y).natAbs=x.natAbs*y.natAbs:=zl x y
 have h3:((x.natAbs*y.natAbs:Nat):Int)≤m*n:=by
  exact qo hm hn (by omega) (by omega)
 omega
def qD (A u:Int):Rat:=Rat.divInt A u
theorem ca (h: -128≤A∧A≤127) (hu:1≤u∧u≤4):Rz 1 (qD A u):=Rz.of (oW (by omega) (by omega)) (oW (by omega) (by omega)) (by omega)
def Sn (a b c d:Rat):Ln:=⟨b-d,c-a,(b-d)*a+(c-a)*b⟩
def rP (a b:Rat):Pt:=⟨a,0,b,0,0⟩
theorem SW {c:Rat}(ha:Rz 1 a) (hb:Rz 1 b) (hc:Rz 1 c) (hd:Rz 1 d) (h: ¬(b-d=0∧c-a=0)):GL (Sn a b c d):=
 ⟨(hb.sub hd).mono (by decide),(hc.sub ha).mono (by decide),(((hb.sub hd).mul ha).add ((hc.sub ha).mul hb)).mono (by decide),fun e=>h (Kx e)⟩
theorem D4 (ha:Rz 1 a) (hb:Rz 1 b):GP (rP a b):=GP.rat (ha.mono (by decide)) (hb.mono (by decide))
theorem FN {c:Rat}(h:cP (rP a b) (rP c d)=0):a=c∧b=d:=by
 have h:nT a 0 b 0 0 c 0 d 0 0=0:=h
 unfold nT at h
 split at h
 ·grind
 ·rename_i g
  have h1:=ij.1 (gT g)
  have h2:=ij.1 h
  grind
def p9 (a b c d e f:Rat):Rat:=(c-a)*(f-b)-(d-b)*(e-a)
def CI (a b c d e f:Rat):Rat:=(((c-a)*(c-a)+(d-b)*(d-b))*(f-b)-((e-a)*(e-a)+(f-b)*(f-b))*(d-b))/(p9 a b c d e f+p9 a b c d e f)
def BR (a b c d e f:Rat):Rat:=(((e-a)*(e-a)+(f-b)*(f-b))*(c-a)-((c-a)*(c-a)+(d-b)*(d-b))*(e-a))/(p9 a b c d e f+p9 a b c d e f)
def X4 (a b c d e f:Rat):Ci:=⟨a+CI a b c d e f,b+BR a b c d e f,CI a b c d e f*CI a b c d e f+BR a b c d e f*BR a b c d e f⟩
theorem JF {N:Int}{x:Rat}(hD:D≠0) (h:x*(D:Rat)=(N:Rat)):x=Rat.divInt N D:=by
 have hd:(D:Rat)≠0:=by simpa using hD
 rw[zp,←h,Rat.mul_div_cancel hd]
theorem Xn {B C E F:Int}(hA: -128≤A∧A≤127) (hB: -128≤B∧B≤127) (hC: -128≤C∧C≤127) (hD: -128≤D∧D≤127) (hE: -128≤E∧E≤127) (hF: -128≤F∧F≤127) (hu:1≤u∧u≤4)
 (hn:p9 (qD A u) (qD B u) (qD C u) (qD D u) (qD E u) (qD F u)≠0):GK (X4 (qD A u) (qD B u) (qD C u) (qD D u) (qD E u) (qD F u)):=by
 have hu0:(u:Rat)≠0:=by have:u≠0:=by omega
                        simpa using this
 have q: ∀X:Int,qD X u*(u:Rat)=(X:Rat):=fun X=>by unfold qD;rw[zp,tH hu0]
 obtain⟨px,hpx⟩: ∃px,px=C-A:=⟨_,rfl⟩
 obtain⟨py,hpy⟩: ∃py,py=D-B:=⟨_,rfl⟩
 obtain⟨qx,hqx⟩: ∃qx,qx=E-A:=⟨_,rfl⟩
 obtain⟨qy,hqy⟩: ∃qy,qy=F-B:=⟨_,rfl⟩
 obtain⟨I,hI⟩: ∃I,I=px*qy-py*qx:=⟨_,rfl⟩
 obtain⟨NX,hNX⟩: ∃NX,NX=(px*px+py*py)*qy-(qx*qx+qy*qy)*py:=⟨_,rfl⟩
 obtain⟨NY,hNY⟩: ∃NY,NY=(qx*qx+qy*qy)*px-(px*px+py*py)*qx:=⟨_,rfl⟩
 have b1: -255≤px∧px≤255:=by omega
 have b2: -255≤py∧py≤255:=by omega
 have b3: -255≤qx∧qx≤255:=by omega
 have b4: -255≤qy∧qy≤255:=by omega
 have m1:=lm b1 b4
 have m2:=lm b2 b3
 have m3:=lm b1 b1
 have m4:=lm b2 b2
 have m5:=lm b3 b3
 have m6:=lm b4 b4
 have bI: -130050≤I∧I≤130050:=by omega
 have n1:=lm (x:=px*px+py*py) (m:=130050) (by omega) b4
 have n2:=lm (x:=qx*qx+qy*qy) (m:=130050) (by omega) b2
 have n3:=lm (x:=qx*qx+qy*qy) (m:=130050) (by omega) b1
 have n4:=lm (x:=px*px+py*py) (m:=130050) (by omega) b3
 have bX: -66325500≤NX∧NX≤66325500:=by omega
 have bY: -66325500≤NY∧NY≤66325500:=by omega
 have bA:=lm (x:=A) (m:=128) (by omega) bI
 have bB:=lm (x:=B) (m:=128) (by omega) bI
 have bu:=lm (x:=u) (m:=4) (by omega) bI
 have sX:=lm bX bX
 have sY:=lm bY bY
 have r1:=q A;have r2:=q B;have r3:=q C;have r4:=q D;have r5:=q E;have r6:=q F
 generalize qD A u=a at*
 generalize qD B u=b at*
 generalize qD C u=c at*
 generalize qD D u=d at*
 generalize qD E u=e at*
 generalize qD F u=f at*
 have cpx:(c-a)*(u:Rat)=(px:Rat):=by rw[hpx,n6,←r3,←r1];grind
 have cpy:(d-b)*(u:Rat)=(py:Rat):=by rw[hpy,n6,←r4,←r2];grind
 have cqx:(e-a)*(u:Rat)=(qx:Rat):=by rw[hqx,n6,←r5,←r1];grind
 have cqy:(f-b)*(u:Rat)=(qy:Rat):=by rw[hqy,n6,←r6,←r2];grind
 have cI:p9 a b c d e f*((u:Rat)*(u:Rat))=(I:Rat):=by
  rw[hI,n6,eg,eg,←cpx,←cpy,←cqx,←cqy];unfold p9;grind
 have hI0:I≠0:=by
  intro e0
  rw[e0] at cI
  have h1:p9 a b c d e f*((u:Rat)*(u:Rat))=0:=by rw[cI];rfl
  rcases Rat.mul_eq_zero.1 h1 with h2|h2
  ·exact hn h2
  ·rcases Rat.mul_eq_zero.1 h2 with h3|h3<;>exact hu0 h3
 have h2D:p9 a b c d e f+p9 a b c d e f≠0:=fun h=>hn (by grind)
 have cX:CI a b c d e f*((2*u*I:Int):Rat)=(NX:Rat):=by
  have h1:CI a b c d e f*(p9 a b c d e f+p9 a b c d e f)=((c-a)*(c-a)+(d-b)*(d-b))*(f-b)-((e-a)*(e-a)+(f-b)*(f-b))*(d-b):=by unfold CI;exact tH h2D
  have h2:((2*u*I:Int):Rat)=(p9 a b c d e f+p9 a b c d e f)*((u:Rat)*(u:Rat)*(u:Rat)):=by
   rw[eg,eg,←cI]
   show(2:Rat)*_*_=_
   grind
  rw[h2,←Rat.mul_assoc,h1,hNX]
  simp only[n6,eg,i5]
  rw[←cpx,←cpy,←cqx,←cqy]
  grind
 have cY:BR a b c d e f*((2*u*I:Int):Rat)=(NY:Rat):=by
  have h1:BR a b c d e f*(p9 a b c d e f+p9 a b c d e f)=((e-a)*(e-a)+(f-b)*(f-b))*(c-a)-((c-a)*(c-a)+(d-b)*(d-b))*(e-a):=by unfold BR;exact tH h2D
  have h2:((2*u*I:Int):Rat)=(p9 a b c d e f+p9 a b c d e f)*((u:Rat)*(u:Rat)*(u:Rat)):=by
   rw[eg,eg,←cI]
   show(2:Rat)*_*_=_
   grind
  rw[h2,←Rat.mul_assoc,h1,hNY]
  simp only[n6,eg,i5]
  rw[←cpx,←cpy,←cqx,←cqy]
  grind
 have hM0:2*u*I≠0:=by
  rw[Int.mul_assoc]
  intro h
  rcases tS.1 h with h|h
  ·omega
  ·rcases tS.1 h with h|h
   ·omega
   ·exact hI0 h
 have eM:2*u*I=2*(u*I):=by rw[Int.mul_assoc]
 have bM: -1040400≤2*u*I∧2*u*I≤1040400:=by rw[eM];omega
 obtain⟨M,hM⟩: ∃M,M=2*u*I:=⟨_,rfl⟩
 rw[←hM] at cX cY hM0 bM
 have cA:a*(M:Rat)=((2*(A*I):Int):Rat):=by
  rw[hM,eg,eg,eg,eg,←r1]
  show a*((2:Rat)*_*_)=(2:Rat)*_
  grind
 have cB:b*(M:Rat)=((2*(B*I):Int):Rat):=by
  rw[hM,eg,eg,eg,eg,←r2]
  show b*((2:Rat)*_*_)=(2:Rat)*_
  grind
 have e1:a+CI a b c d e f=Rat.divInt (2*(A*I)+NX) M:=JF hM0 (by rw[i5,←cA,←cX];grind)
 have e2:b+BR a b c d e f=Rat.divInt (2*(B*I)+NY) M:=JF hM0 (by rw[i5,←cB,←cY];grind)
 have e3:CI a b c d e f*CI a b c d e f+BR a b c d e f*BR a b c d e f=Rat.divInt (NX*NX+NY*NY) (M*M):=
  JF (fun h=>by rcases tS.1 h with h|h<;>exact hM0 h) (by rw[i5,eg,eg,eg,←cX,←cY];grind)
 have bMM:=lm bM bM
 have p2:pw 2=1000000000000000000:=by decide+kernel
 have s2: ∀x:Int,-1000000000000000000<x→x<1000000000000000000→Sz 2 x:=fun x h h'=>⟨by omega,by omega⟩
 refine⟨?_,?_,?_⟩
 ·show Rz 1 (a+CI a b c d e f)
  rw[e1]
  exact Rz.of (oW (by omega) (by omega)) (oW (by omega) (by omega)) hM0
 ·show Rz 1 (b+BR a b c d e f)
  rw[e2]
  exact Rz.of (oW (by omega) (by omega)) (oW (by omega) (by omega)) hM0
 ·show Rz 2 (CI a b c d e f*CI a b c d e f+BR a b c d e f*BR a b c d e f)
  rw[e3]
  exact Rz.of (s2 _ (by omega) (by omega)) (s2 _ (by omega) (by omega)) (fun h=>by rcases tS.1 h with h|h<;>exact hM0 h)
def mh (k:Ci):Pt:=fW k.x (-1) k.y 0 k.q
def ln (k:Ci):Pt:=fW k.x 1 k.y 0 k.q
theorem jY:Rz 1 (1:Rat):=⟨by rw[show(1:Rat).num=1 from rfl];exact oW (by decide) (by decide),by rw[show((1:Rat).den:Int)=1 from rfl];exact Sz.one (by decide)⟩
theorem xf (hk:GK k) (h0:0<k.q):GP (mh k):=AM (hk.x.mono (by decide)) (jY.neg.mono (by decide)) (hk.y.mono (by decide)) (dL (by decide)) (hk.q.mono (by decide)) h0 (fun e=>absurd e.1 (by decide))
theorem xq (hk:GK k) (h0:0<k.q):GP (ln k):=AM (hk.x.mono (by decide)) (jY.mono (by decide)) (hk.y.mono (by decide)) (dL (by decide)) (hk.q.mono (by decide)) h0 (fun e=>absurd e.1 (by decide))
def r8:List CellD:=F8++F8++F8++F8++F8
theorem NC (c:Cv) (r:List CellD):(ap c++r).take 66=ap c:=by rw[←ag c];exact List.take_left
theorem UV {q:Rat}(h0:0<q) (hs:jp q=true):rt q≠0:=by
 intro h
 have hs2:=hs
 unfold jp CV at hs2
 simp only[dT,beq_iff_eq] at hs2
 have hd:bK (q.den:Int)≠0:=by have:=xQ (den_pos q);omega
 have hdq:((bK (q.den:Int):Int):Rat)≠0:=by simpa using hd
 have h1:((bK q.num:Int):Rat)=0:=by
  have h2:rt q*((bK (q.den:Int):Int):Rat)=((bK q.num:Int):Rat):=by unfold rt;rw[zp,tH hdq]
  grind
 have h3:bK q.num=0:=by simpa using h1
 have h4:=hs2.1
 rw[h3,mH] at h4
 have h5:q=0:=Rat.num_eq_zero.1 h4.symm
 grind
theorem Ul (h0:0<k.q):cP (mh k) (ln k)≠0∧cP (ln k) (mh k)≠0:=by
 have hq:0≤k.q:=by grind
 cases hs:jp k.q with
 |true=>
  have e1:mh k=rP (k.x+ -1*rt k.q) (k.y+0*rt k.q):=by unfold mh fW;rw[hs];rfl
  have e2:ln k=rP (k.x+1*rt k.q) (k.y+0*rt k.q):=by unfold ln fW;rw[hs];rfl
  have hr:=UV h0 hs
  rw[e1,e2]
  exact⟨fun h=>hr (by have:=(FN h).1;grind),fun h=>hr (by have:=(FN h).1;grind)⟩
 |false=>
  have e1:mh k=⟨k.x,-1,k.y,0,k.q⟩:=by unfold mh fW;rw[hs];rfl
  have e2:ln k=⟨k.x,1,k.y,0,k.q⟩:=by unfold ln fW;rw[hs];rfl
  have z1:zc (-1:Rat) k.q=k.q:=by unfold zc;rw[if_neg (by decide)]
  have z2:zc (1:Rat) k.q=k.q:=by unfold zc;rw[if_neg (by decide)]
  have hrr:aw (Re.rt k.q)≠0:=by
   intro h
   have h1:=dJ (ng hq)
   rw[aQ,h,cj] at h1
   exact absurd (ij.1 h1.symm) (by grind)
  have key: ∀s:Rat,s≠0→zc s k.q=k.q→zc (-s) k.q=k.q→AC k.x (-s) k.q k.x s k.q≠0:=by
   intro s hs0 hz1 hz2
   rw[po hq hq]
   unfold um aA
   rw[hz1,hz2]
   have e:(Re.of k.x+Re.of (-s)*Re.rt k.q)-(Re.of k.x+Re.of s*Re.rt k.q)=Re.of (-2*s)*Re.rt k.q:=aS fun n=>by simp only[ao,ak,am,aE];grind
   rw[e,aQ,cj]
   intro h
   rcases tS.1 h with h|h
   ·have:=ij.1 h;grind
   grind
  have key2: ∀ {p q:Pt},cx p q≠0→cP p q≠0:=by
   intro p q h
   show nT _ _ _ _ _ _ _ _ _ _≠0
   unfold nT
   rw[if_pos (show AC p.a1 p.b1 p.c q.a1 q.b1 q.c≠0 from h)];exact h
  rw[e1,e2]
  exact⟨key2 (key 1 (by decide) z2 z1),key2 (by have:=key (-1) (by decide) z1 (by rw[Rat.neg_neg];exact z2);rw[Rat.neg_neg] at this;exact this)⟩
def uD (U:Int):Int:=U%4+1
def DR (k:Ci):List Cv:=[.arc k false (mh k) (ln k),.arc k false (ln k) (mh k)]
def I7 (a b c d e f:Rat):Cv:=.arc (X4 a b c d e f) (decide (aR ((c-a)*(f-b)) ((d-b)*(e-a))<0)) (rP a b) (rP e f)
def Ol (a b c d:Rat):Cv:=.seg (Sn a b c d) (rP a b) (rP c d)
def vG (K U A B C D E F:Int):List Cv:=
 if K%3=2 then(if 0<qD C (uD U) then DR ⟨qD A (uD U),qD B (uD U),qD C (uD U)⟩ else[])
 else if K%3=1 then(if p9 (qD A (uD U)) (qD B (uD U)) (qD C (uD U)) (qD D (uD U)) (qD E (uD U)) (qD F (uD U))=0 then[] else[I7 (qD A (uD U)) (qD B (uD U)) (qD C (uD U)) (qD D (uD U)) (qD E (uD U)) (qD F (uD U))])
 else(if qD B (uD U)-qD D (uD U)=0∧qD C (uD U)-qD A (uD U)=0 then[] else[Ol (qD A (uD U)) (qD B (uD U)) (qD C (uD U)) (qD D (uD U))])
structure CvG (c:Cv):Prop where
 g:c.good
 ne:cP c.p c.q≠0
theorem Qr {c e:Rat}:aR ((c-a)*(f-b)) ((d-b)*(e-a))=0↔p9 a b c d e f=0:=by
 rw[show aR ((c-a)*(f-b)) ((d-b)*(e-a))=aR (p9 a b c d e f) 0 from(lI _ _).symm,ij]
theorem SB {c e:Rat}(h:p9 a b c d e f≠0):cP (rP a b) (rP e f)≠0:=by
 intro h1
 obtain⟨rfl,rfl⟩:=FN h1
 exact h (by unfold p9;grind)
theorem Ho {U:Int}(_h:0≤U):1≤uD U∧uD U≤4:=by unfold uD;omega
section
variable {K U A B C D E F:Int}(hU:0≤U) (hA: -128≤A∧A≤127) (hB: -128≤B∧B≤127) (hC: -128≤C∧C≤127) (hD: -128≤D∧D≤127) (hE: -128≤E∧E≤127) (hF: -128≤F∧F≤127)
include hU hA hB hC hD hE hF
theorem Bm: ∀c∈vG K U A B C D E F,CvG c:=by
 intro c hc
 have hu:=Ho hU
 unfold vG at hc
 split at hc
 ·split at hc
  ·rename_i h0
   have gk:GK ⟨qD A (uD U),qD B (uD U),qD C (uD U)⟩:=⟨ca hA hu,ca hB hu,(ca hC hu).mono (by decide)⟩
   have g1:=xf gk h0
   have g2:=xq gk h0
   have g3:=Ul (k:=⟨qD A (uD U),qD B (uD U),qD C (uD U)⟩) h0
   rcases gD.1 hc with e|e
   ·subst e;exact⟨⟨gk,g1,g2⟩,g3.1⟩
   ·rw[kw] at e;subst e;exact⟨⟨gk,g2,g1⟩,g3.2⟩
  grind
 ·split at hc
  ·split at hc
   ·grind
   ·rename_i h0
    rw[kw] at hc;subst hc
    exact⟨⟨Xn hA hB hC hD hE hF hu h0,D4 (ca hA hu) (ca hB hu),D4 (ca hE hu) (ca hF hu)⟩,SB h0⟩
  ·split at hc
   ·grind
   ·rename_i h0
    rw[kw] at hc;subst hc
    refine⟨⟨SW (ca hA hu) (ca hB hu) (ca hC hu) (ca hD hu) h0,D4 (ca hA hu) (ca hB hu),D4 (ca hC hu) (ca hD hu)⟩,fun h=>h0 ?_⟩
    obtain⟨e1,e2⟩:=FN h
    grind
omit hU hA hB hC hD hE hF in
theorem SX:(vG K U A B C D E F).length≤2:=by
 unfold vG DR
 repeat' split
 all_goals simp
end
def fO (c:Cv) (l:List Cv):List Pt:=l.flatMap (cG c)
theorem m7 {l:List Cv}(h:n<l.length):fO c (l.take (n+1))=fO c (l.take n)++cG c (l.getD n bV):=by
 unfold fO
 rw[oh (d:=bV) h,List.flatMap_append]
 grind
theorem AK (hc:c.good): ∀ {l:List Cv},(∀d∈l,d.good)→ ∀p∈fO c l,GP p∧c.on p=true
 |[],_,p,hp=>by cases hp
 |d::l,h,p,hp=>by
  unfold fO at hp
  rw[List.flatMap_cons] at hp
  rcases lj.1 hp with hp|hp
  ·refine⟨pv hc (h d j5) p hp,?_⟩
   have h1:=(zi.1 (my hp)).2
   unfold dM at h1
   exact(dT _ _▸h1).1
  ·exact AK hc (fun d hd=>h d (iY _ hd)) p hp
theorem CC {c:Cv}: ∀ {l:List Cv},(fO c l).length≤4*l.length
 |[]=>cK _
 |d::l=>by
  have h1:=CC (c:=c) (l:=l)
  have h2:=mv (a:=c) (c:=d)
  unfold fO at*
  rw[List.flatMap_cons,fp]
  show _≤4*(l.length+1)
  omega
theorem N5 (h:cP p q≠0):(gg c (gg c [] p) q).length=2:=by
 unfold gg
 grind
theorem jO (h:cP p q≠0):2≤(cE c ([p,q]++l)).length:=by
 have h1:=(CN (c:=c) l (gg c (gg c [] p) q)).1
 rw[N5 h] at h1
 exact h1
def Et (A0 Bl:List Cv):List Cv:=fk (A0.getD 0 bV) (fO (A0.getD 0 bV) Bl)
theorem GX {A0 Bl:List Cv}(h:cP (A0.getD 0 bV).p (A0.getD 0 bV).q≠0):0<(Et A0 Bl).length:=by
 unfold Et fk
 rw[iF]
 have:=jO (c:=A0.getD 0 bV) (l:=fO (A0.getD 0 bV) Bl) h
 omega
theorem Da {pos:String}{q:Nat}
 (hU:ua P U=some (e,m,by_,zs)) (hx:dc T x=some .z) (hy:dc T y=some (.v (.c (.s q ys)))) (hq:q=0)
 (hg:gd ops ⟨dst,.call ⟨.builtin .append,#[x,y],#[U,U]⟩,ty,pos,af,g⟩ T=some true):
 Sem P ops ⟨dst,.call ⟨.builtin .append,#[x,y],#[U,U]⟩,ty,pos,af,g⟩ T B (.r .z):=by
 subst hq
 refine⟨qi rfl,fun V β a w hs=>⟨fa hs hg,?_⟩⟩
 have e1:a.eval x=.slice none 0 0:=aK hs (x:=x) (by simp[Op.operands,Call.operands]) hx
 have h2:RdC V w (a.eval y) (.s 0 ys):=aK hs (x:=y) (by simp[Op.operands,Call.operands]) hy
 have hys:ys=[]:=by
  generalize a.eval y=vy at h2
  cases h2 with
  |s0=>rfl
  |s b off c sz n' xs' cv h0=>omega
 subst hys
 obtain⟨news,hsrc,_⟩:=rf hU h2 (by simp)
 obtain⟨hu,i,z,hi,hz,hsz,hby,_,hzr⟩:=jh hU
 subst hsz
 have hn1:news=[]:=lJ.1 (by rw[hsrc.newsLen,Nat.zero_mul])
 subst hn1
 have hrun:(Builtin.append_ #[U,U] ty #[.slice none 0 0,a.eval y]).run P w=.ok (.slice none 0 0) w:=by
  rcases hsrc.kind with⟨e',hk⟩|hk<;>simp[Builtin.append_,run_underlying hu,sizeOf,typeInfo,hi,hsrc.len,hsrc.cells]<;>rfl
 have hexec:(execOp a.eval ⟨dst,.call ⟨.builtin .append,#[x,y],#[U,U]⟩,ty,pos,af,g⟩).run P w=.ok (.value (.slice none 0 0)) w:=by
  simp only[execOp,resolve,invoke,builtin,fI,gG,fM,uh,pt,uR,e1]
  rw[hrun]
  rfl
 unfold Gives
 rw[hexec]
 exact⟨rfl,fu _ w⟩
end Go.Proofs.YtkmdgigkbhmilaaGreat
namespace Go.Proofs.YtkmdgigkbhmilaaGreat
def uK (k:Fin 4):Bool:=k==0||k==1
def uF (k:Fin 4):Bool:=k==2||k==1
def Hp (u v:Bool) (n:Int):Int:=if u !=v then(if v then-1 else 1) else if u then-n else n
def M9 (u v:Bool) (n:Int):Int:=if u !=v then(if u then-1 else 1) else if u then-n else n
def J2 (a1 a2 a3:Int):Int:=if decide (a1<0) !=decide (a2<0) then(if decide (a2<0) then-1 else 1) else a3
def MH (b:Int):Int:=if b=0 then 0 else if b>0 then 1 else 2
def Xr (n:Int):Int:=min 1 (max (-1) n)
def Ck (b1 b2 b3:Int):Int:=if MH b1≠MH b2 then Xr (MH b1-MH b2) else Xr b3
def i3 (i:Fin 3):Int:=(i.val:Int)-1
def IE (n1 n2 n3:Int):Bool:=(n2 !=0||n3==n1)&&(n1 !=0||n3== -n2)&&(n1 != -n2||n3==n1)
def tV (k l:Fin 4) (n:Int):Bool:=
 if k=0 then n==(if l=0 then 0 else 1) else if k=2 then n==(if l=2 then 0 else-1)
 else if l=0 then n== -1 else if l=2 then n==1 else true
def cwR (kf kp kt:Fin 4) (n1 n2 n3:Int):Bool:=
 decide (J2 (Hp (uF kf) (uF kf) 0) (Hp (uF kp) (uF kf) (-n1)) (Hp (uF kf) (uF kp) n1)≤0)&&
 decide (J2 (Hp (uF kp) (uF kf) (-n1)) (Hp (uF kt) (uF kf) (-n2)) (Hp (uF kp) (uF kt) (-n3))≤0)
def cwP (kf kp kt:Fin 4) (n1 n2 n3:Int):Bool:=
 decide (Ck (M9 (uK kp) (uK kt) n3) (M9 (uK kf) (uK kt) (-n2)) (M9 (uK kp) (uK kf) n1)≤0)
set_option maxRecDepth 100000 in
theorem UK: ∀(kf kp kt:Fin 4) (i j l:Fin 3),IE (i3 i) (i3 j) (i3 l)=true→tV kp kf (i3 i)=true→tV kt kf (i3 j)=true→tV kp kt (i3 l)=true→
 cwR kf kp kt (i3 i) (i3 j) (i3 l)=cwP kf kp kt (i3 i) (i3 j) (i3 l):=by decide+kernel
def abJ (uf up ut:Bool) (n1 n2 n3:Int):Bool:=
 decide (J2 (Hp uf uf 0) (Hp up uf n1) (Hp uf up (-n1))≤0)&&decide (J2 (Hp up uf n1) (Hp ut uf n2) (Hp up ut n3)≤0)
def ack (uf up ut:Bool) (n1 n2 n3:Int):Bool:=decide (Ck (M9 up uf n1) (M9 ut uf n2) (M9 up ut n3)≤0)
set_option maxRecDepth 100000 in
theorem OR: ∀(uf up ut:Bool) (i j l:Fin 3),IE (i3 i) (i3 j) (i3 l)=true→abJ uf up ut (i3 i) (i3 j) (i3 l)=ack uf up ut (i3 i) (i3 j) (i3 l):=by decide+kernel
end Go.Proofs.YtkmdgigkbhmilaaGreat
namespace Go.Proofs.YtkmdgigkbhmilaaGreat
open Go Go.RowKit
variable {k:Ci}{c:Cv}{l:Ln}{f o p q t:Pt}{a a1 a2 b b1 b2 d v w x y:Rat}
def pX (p:Pt):Re:=um p.a1 p.b1 p.c
def pY (p:Pt):Re:=um p.a2 p.b2 p.c
theorem bz (h:GP p):0≤p.c:=Rb h.v
theorem jP (hp:0≤p.c) (hq:0≤q.c):cx p q=aw (pX p-pX q):=po hp hq
theorem EX (hp:0≤p.c) (hq:0≤q.c):cy p q=aw (pY p-pY q):=po hp hq
theorem li (hp:0≤p.c) (v:Rat):lp p v=aw (pX p-Re.of v):=by
 unfold lp
 rw[fZ (ii hp)]
 exact congrArg aw (aS fun n=>by unfold pX um aA;simp only[ao,ak,am,aE];grind)
theorem AA (hp:0≤p.c) (v:Rat):jL p v=aw (pY p-Re.of v):=by
 unfold jL
 rw[fZ (ii hp)]
 exact congrArg aw (aS fun n=>by unfold pY um aA;simp only[ao,ak,am,aE];grind)
theorem iz (hp:0≤p.c) (hq:0≤q.c):cx q p= -cx p q:=by rw[jP hp hq,jP hq hp,jy]
theorem we (hp:0≤p.c):cx p p=0:=by rw[jP hp hp,lK]
theorem T4 {A B c:Rat}(hc:0≤c) (b1 b2 x y:Rat) (hA:A=L1 x y b1 b2 c) (hB:B=M4 x y b1 b2):
 aw (aA A B (zc B c)-(um x b1 c*um x b1 c+um y b2 c*um y b2 c))=0:=by
 subst hA hB
 rw[show aA (L1 x y b1 b2 c) (M4 x y b1 b2) (zc (M4 x y b1 b2) c)=um (L1 x y b1 b2 c) (M4 x y b1 b2) c from rfl,nB,nB,nB]
 have h:=ng hc
 have e:Re.of (L1 x y b1 b2 c)+Re.of (M4 x y b1 b2)*Re.rt c-((Re.of x+Re.of b1*Re.rt c)*(Re.of x+Re.of b1*Re.rt c)+(Re.of y+Re.of b2*Re.rt c)*(Re.of y+Re.of b2*Re.rt c))=Re.of (-(b1*b1+b2*b2))*(Re.rt c*Re.rt c-Re.of c):=aS fun n=>by
  unfold L1 M4
  simp only[ao,ak,am,aE];grind
 rw[e,aQ,h,mH]
def ri (k:Ci) (p:Pt):Re:=(pX p-Re.of k.x)*(pX p-Re.of k.x)+(pY p-Re.of k.y)*(pY p-Re.of k.y)-Re.of k.q
theorem D7 (a b c v:Rat):um (a-v) b c=um a b c-Re.of v:=aS fun n=>by unfold um aA;simp only[ao,ak,am,aE];grind
theorem US (hp:0≤p.c):aw (aA (Nh k p) (EP k p) (zc (EP k p) p.c))=aw (ri k p):=by
 refine dJ ?_
 have h:=T4 (A:=L1 (p.a1-k.x) (p.a2-k.y) p.b1 p.b2 p.c) (B:=EP k p) hp p.b1 p.b2 (p.a1-k.x) (p.a2-k.y) rfl rfl
 rw[←h]
 refine congrArg aw (aS fun n=>?_)
 unfold ri pX pY
 rw[D7,D7]
 unfold Nh aA
 simp only[ao,ak,am,aE];grind
theorem q7 (hp:GP p):qd k p= -aw (ri k p):=by
 have hv:=hp.v
 unfold qd
 rw[←US (bz hp),Kq (ii (bz hp))]
 intro hb
 have h:=Ph hv (x:=p.a1-k.x) (y:=p.a2-k.y) hb
 rw[show zc (EP k p) p.c=p.c from by unfold zc;rw[if_neg hb]]
 grind
theorem Kp (k:Ci) (p:Pt): -1≤qd k p∧qd k p≤1:=by have:=O7 (Nh k p) (EP k p) (zc (EP k p) p.c);unfold qd;omega
def OnK (k:Ci) (p:Pt):Prop:=GP p∧qd k p=0
theorem bD {w:Bool}:(Cv.arc k w f t).supp p=true↔qd k p=0:=by
 show(qd k p==0)=true↔_
 simp
def kd (k:Ci) (p:Pt):Fin 4:=if jL p k.y>0 then 1 else if jL p k.y=0 then(if lp p k.x>0 then 0 else 2) else 3
theorem vg (k:Ci) (p:Pt):nj k p=uK (kd k p):=by
 unfold nj kd uK
 by_cases h:jL p k.y>0
 ·grind
 grind
section
variable {k:Ci}{p:Pt}(hq:0<k.q) (hp:OnK k p)
include hp
theorem b8:0≤p.c:=bz hp.1
theorem ow:aw (ri k p)=0:=by have h1:=q7 (k:=k) hp.1;rw[hp.2] at h1;omega
include hq
theorem PA (h:jL p k.y=0):lp p k.x≠0:=by
 intro h2
 rw[AA (b8 hp)] at h
 rw[li (b8 hp)] at h2
 have e:Re.of k.q=((pX p-Re.of k.x)*(pX p-Re.of k.x)+(pY p-Re.of k.y)*(pY p-Re.of k.y))+ -ri k p:=aS fun n=>by unfold ri;simp only[ao,ak,am,aE,aD];grind
 have h3:aw (Re.of k.q)=0:=by
  rw[e,dP _ (by rw[br,ow hp];rfl),dP _ (by rw[aQ,h,nu]),aQ,h2,nu]
 rw[cj] at h3
 have:=ij.1 h3
 grind
end
theorem AX (p:Pt):pX p.flip= -pX p:=aS fun n=>by
 show(um (-p.a1) (-p.b1) p.c).s n=_
 unfold pX um aA
 have:zc (-p.b1) p.c=zc p.b1 p.c:=by
  by_cases h:p.b1=0
  ·grind
  ·rw[iD h,iD (by grind)]
 simp only[ao,am,aE,aD];grind
theorem SL (p:Pt):pY p.flip=pY p:=rfl
theorem Cg (hp:0≤p.c):lp p.flip k.mir.x= -lp p k.x:=by
 rw[li (show 0≤p.flip.c from hp),li hp,AX,←br]
 exact congrArg aw (aS fun n=>by show _+ -(-k.x)=_;simp only[ak,aE,aD];grind)
theorem CQ (k:Ci) (p:Pt):jL p.flip k.mir.y=jL p k.y:=rfl
theorem qQ (hp:0≤p.c) (hq:0≤q.c):cx p.flip q.flip= -cx p q:=by
 rw[jP (show 0≤p.flip.c from hp) (show 0≤q.flip.c from hq),jP hp hq,AX,AX,←br]
 exact congrArg aw (aS fun n=>by simp only[ak,aD];grind)
theorem Cf (hq:0<k.q) (hp:OnK k p):nj k.mir p.flip=uF (kd k p):=by
 have h1:=Cg (k:=k) (b8 hp)
 have h2:=PA hq hp
 unfold nj kd uF
 rw[h1,CQ]
 by_cases h:jL p k.y>0
 ·grind
 grind
theorem hJ (k:Ci) (p q:Pt):g9 k p q=Hp (nj k p) (nj k q) (cx p q):=rfl
def pF (k:Ci) (p q:Pt):Int:=M9 (nj k p) (nj k q) (cx p q)
def rx (k:Ci) (f p:Pt):Int:=MH (pF k p f)
def Cn (k:Ci) (f p q:Pt):Int:=Ck (pF k p f) (pF k q f) (pF k p q)
theorem uV (k:Ci) (f p q:Pt):wy k f p q=J2 (g9 k p f) (g9 k q f) (g9 k p q):=rfl
theorem il {n:Int}(h: -1≤n∧n≤1): ∃i:Fin 3,n=i3 i:=by
 rcases(by omega:n= -1∨n=0∨n=1) with h|h|h
 ·exact⟨0,h⟩
 ·exact⟨1,h⟩
 ·exact⟨2,h⟩
theorem m9 (hf:0≤f.c) (hp:0≤p.c) (ht:0≤t.c):IE (cx p f) (cx t f) (cx p t)=true:=by
 rw[jP hp hf,jP ht hf,jP hp ht]
 have e2:pX p-pX t=(pX p-pX f)+ -(pX t-pX f):=aS fun n=>by simp only[ao,ak,aD];grind
 unfold IE
 simp only[dT,sC,bne_iff_ne,beq_iff_eq]
 refine⟨⟨?_,?_⟩,?_⟩
 ·by_cases h:aw (pX t-pX f)=0
  ·right;rw[e2];exact dP _ (by rw[br,h];rfl)
  grind
 ·by_cases h:aw (pX p-pX f)=0
  ·right;rw[e2,jG h,br]
  grind
 ·by_cases h:aw (pX p-pX f)= -aw (pX t-pX f)
  ·right;rw[e2,iJ (by rw[br];exact h)]
  grind
theorem ui (X:Re):aw (X+X)=aw X:=iJ rfl
theorem Cb {l:Pt}(hp:OnK k p) (hl:OnK k l) (h0:jL p k.y=0) (h1:lp p k.x>0):
 (jL l k.y=0∧lp l k.x>0∧cx p l=0)∨(¬(jL l k.y=0∧lp l k.x>0)∧cx p l=1):=by
 have cp:=b8 hp
 have cl:=b8 hl
 rw[AA cp] at h0
 rw[li cp] at h1
 rw[AA cl,li cl,jP cp cl]
 generalize hP:pX p-Re.of k.x=P at*
 generalize hL:pX l-Re.of k.x=L at*
 generalize hY:pY p-Re.of k.y=Y at*
 generalize hZ:pY l-Re.of k.y=Z at*
 have d:pX p-pX l=P-L:=by rw[←hP,←hL];exact aS fun n=>by simp only[ak];grind
 rw[d]
 have w1:ri k p=P*P+Y*Y-Re.of k.q:=by rw[←hP,←hY];rfl
 have w2:ri k l=L*L+Z*Z-Re.of k.q:=by rw[←hL,←hZ];rfl
 have e:(P-L)*(P+L)=(Z*Z+(P*P+Y*Y-Re.of k.q))+(-(L*L+Z*Z-Re.of k.q)+ -(Y*Y)):=aS fun n=>by simp only[ao,ak,am,aE,aD];grind
 have z1:aw (-(L*L+Z*Z-Re.of k.q)+ -(Y*Y))=0:=by
  rw[dP _ (by rw[br,aQ,h0];rfl),br,←w2,ow hl];rfl
 have hprod:aw (P-L)*aw (P+L)=aw Z*aw Z:=by
  rw[←aQ,e,dP _ z1,dP _ (by rw[←w1];exact ow hp),aQ]
 have s2:(P-L)+(P+L)=P+P:=aS fun n=>by simp only[ao,ak];grind
 have hP1:aw (P+P)=1:=by rw[ui];have:=aU P;omega
 have hPL:L=P+ -(P-L):=aS fun n=>by simp only[ao,ak,aD];grind
 have hPL2:L= -P+(P+L):=aS fun n=>by simp only[ao,aD];grind
 rcases aU Z with c|c|c
 ·right
  refine⟨fun h=>by omega,?_⟩
  rcases aU (P-L) with a|a|a
  ·exact a
  ·grind
  ·exfalso
   have:aw (P+L)= -1:=by grind
   have:=iJ (x:=P-L) (y:=P+L) (by omega)
   grind
 ·rw[c] at hprod
  rcases aU (P-L) with a|a|a
  ·right
   have h5:aw (P+L)=0:=by grind
   have:aw L= -aw P:=by rw[hPL2,dP _ h5,br]
   omega
  ·left
   have:aw L=aw P:=by rw[hPL,dP _ (by rw[br,a];rfl)]
   grind
  ·exfalso
   have h5:aw (P+L)=0:=by grind
   have:=dP (P-L) h5
   grind
 ·right
  refine⟨fun h=>by omega,?_⟩
  rcases aU (P-L) with a|a|a
  ·exact a
  ·grind
  ·exfalso
   have:aw (P+L)= -1:=by grind
   have:=iJ (x:=P-L) (y:=P+L) (by omega)
   grind
theorem OH (_hp:0≤p.c):aw (ri k.mir p.flip)=aw (ri k p):=by
 refine congrArg aw (aS fun n=>?_)
 unfold ri
 rw[AX,SL]
 simp only[Ci.mir,ao,ak,am,aE,aD];grind
theorem OnK.flip (hp:OnK k p):OnK k.mir p.flip:=by
 refine⟨hp.1.flip,?_⟩
 rw[q7 hp.1.flip,OH (b8 hp),ow hp];rfl
theorem EG {l:Pt}(hp:OnK k p) (hl:OnK k l) (h0:jL p k.y=0) (h1:lp p k.x<0):
 (jL l k.y=0∧lp l k.x<0∧cx p l=0)∨(¬(jL l k.y=0∧lp l k.x<0)∧cx p l= -1):=by
 have h:=Cb hp.flip hl.flip (by rw[CQ];exact h0) (by rw[Cg (b8 hp)];omega)
 rw[CQ,Cg (b8 hl),qQ (b8 hp) (b8 hl)] at h
 grind
theorem uv (hq:0<k.q) (hp:OnK k p):(kd k p=0∧jL p k.y=0∧lp p k.x>0)∨(kd k p=1∧jL p k.y>0)∨(kd k p=2∧jL p k.y=0∧lp p k.x<0)∨(kd k p=3∧jL p k.y<0):=by
 have h2:=PA hq hp
 unfold kd
 grind
theorem lW {l:Pt}(hq:0<k.q) (hp:OnK k p) (hl:OnK k l):tV (kd k p) (kd k l) (cx p l)=true:=by
 have R:=Cb hp hl
 have L:=EG hp hl
 have R':=Cb hl hp
 have L':=EG hl hp
 rw[iz (b8 hp) (b8 hl)] at R' L'
 rcases uv hq hp with⟨e1,a1,a2⟩|⟨e1,a1⟩|⟨e1,a1,a2⟩|⟨e1,a1⟩<;>rcases uv hq hl with⟨e2,b1,b2⟩|⟨e2,b1⟩|⟨e2,b1,b2⟩|⟨e2,b1⟩<;>rw[e1,e2]<;>simp[tV]
 all_goals first
  |(have h:=R a1 a2;omega)
  |(have h:=L a1 a2;omega)
  |(have h:=R' b1 b2;omega)
  |(have h:=L' b1 b2;omega)
theorem BK (hf:GP f) (ht:GP t) (hp:GP p):(decide ((Cv.arc k false f t).ord f p≤0)&&decide ((Cv.arc k false f t).ord p t≤0))=decide (Cn k f p t≤0):=by
 have cf:=bz hf
 have ct:=bz ht
 have cp:=bz hp
 show(decide (wy k f f p≤0)&&decide (wy k f p t≤0))=_
 have ht:=m9 cf cp ct
 obtain⟨i,hi⟩:=il (gS p f)
 obtain⟨j,hj⟩:=il (gS t f)
 obtain⟨l,hl⟩:=il (gS p t)
 have h:=OR (nj k f) (nj k p) (nj k t) i j l (by rw[←hi,←hj,←hl];exact ht)
 rw[←hi,←hj,←hl] at h
 rw[uV,uV,hJ,hJ,hJ,hJ,hJ,we cf,iz cp cf]
 exact h
theorem HS (hq:0<k.q) (hf:OnK k f) (ht:OnK k t) (hp:OnK k p):(decide ((Cv.arc k true f t).ord f p≤0)&&decide ((Cv.arc k true f t).ord p t≤0))=decide (Cn k t p f≤0):=by
 have cf:=b8 hf
 have ct:=b8 ht
 have cp:=b8 hp
 show(decide (wy k.mir f.flip f.flip p.flip≤0)&&decide (wy k.mir f.flip p.flip t.flip≤0))=_
 have h3:=m9 cf cp ct
 have m1:=lW hq hp hf
 have m2:=lW hq ht hf
 have m3:=lW hq hp ht
 obtain⟨i,hi⟩:=il (gS p f)
 obtain⟨j,hj⟩:=il (gS t f)
 obtain⟨l,hl⟩:=il (gS p t)
 rw[hi] at m1
 rw[hj] at m2
 rw[hl] at m3
 have h:=UK (kd k f) (kd k p) (kd k t) i j l (by rw[←hi,←hj,←hl];exact h3) m1 m2 m3
 rw[←hi,←hj,←hl] at h
 unfold cwR cwP at h
 rw[uV,uV,hJ,hJ,hJ,hJ,hJ,qQ cf cf,qQ cp cf,qQ cf cp,qQ ct cf,qQ cp ct,we cf,iz cp cf,Int.neg_zero,Int.neg_neg,Cf hq hf,Cf hq hp,Cf hq ht,h]
 unfold Cn pF
 rw[iz ct cf,vg,vg,vg]
theorem Wy (k:Ci) (f p q:Pt): -1≤Cn k f p q∧Cn k f p q≤1:=by unfold Cn Ck Xr;split<;>omega
theorem P7 (a b c:Rat):ek a b c≤ei a b c:=by
 cases h:eK a b c with
 |true=>have hi:=HZ h;exact gm.1 (gK (fb hi.1 hi.2))
 |false=>rw[(qk h).1,(qk h).2];exact mV _
theorem PF (a b c:Rat):Bd (ek a b c)∧Bd (ei a b c):=by
 cases h:eK a b c with
 |false=>rw[(qk h).1,(qk h).2];exact⟨Bd.zero,Bd.zero⟩
 |true=>
  have hle:=P7 a b c
  have h2:=h
  unfold eK Uo at h2
  simp only[dT,sC] at h2
  unfold ek ei at*
  rw[if_pos h,if_pos h] at*
  have h3:=DJ h2.1
  split
  ·exact⟨⟨h3.1,h3.2.1⟩,h3.2.2⟩
  ·rename_i g
   rw[if_neg g,if_neg g] at hle
   have h4:=LA (h2.2.resolve_left g).2.2.2.2
   unfold Bd
   omega
theorem UX (a b c:Rat):Bd (ek a b c):=(PF a b c).1
theorem VZ (a b c:Rat):Bd (ei a b c):=(PF a b c).2
theorem Bd.neg {x:Int}(h:Bd x):Bd (-x):=by unfold Bd at*;omega
theorem IR {lo hi:Int}{X:Re}(h:tu lo hi X):tu (-hi) (-lo) (-X):=by
 refine⟨lh (fun k=>?_) h.2,lh (fun k=>?_) h.1⟩
 ·simp only[ak,am,aE,aD,tQ];grind
 ·simp only[ak,am,aE,aD,tQ];grind
theorem U6 {x y:Int}(h:x≤y): -y≤ -x:=by omega
def AG (a b c v:Rat):Bool:=eK a b c&&iV v
def Dv (a b c v:Rat):Int:=if AG a b c v then aL (ek a b c) (ei a b c) (-gH v) (-gL v) else 0
def Dp (a b c v:Rat):Int:=if AG a b c v then aH (ek a b c) (ei a b c) (-gH v) (-gL v) else 0
def IF (a b c v:Rat):Bool:=AG a b c v&&uH (ek a b c+ -gH v) (ei a b c+ -gL v)
section
variable {a b c v:Rat}
theorem Di (h:AG a b c v=false):Dv a b c v=0∧Dp a b c v=0∧IF a b c v=false:=by unfold Dv Dp IF;rw[h];exact⟨rfl,rfl,rfl⟩
theorem Ev (h:AG a b c v=true):Dv a b c v=aL (ek a b c) (ei a b c) (-gH v) (-gL v)∧Dp a b c v=aH (ek a b c) (ei a b c) (-gH v) (-gL v)∧IF a b c v=uH (ek a b c+ -gH v) (ei a b c+ -gL v):=by unfold Dv Dp IF;rw[h];exact⟨rfl,rfl,rfl⟩
theorem Fh (a b c v:Rat):Bd (Dv a b c v):=by
 unfold Dv;split
 ·exact Ht (P7 _ _ _) (U6 (C8 _))
 ·exact Bd.zero
theorem FQ (a b c v:Rat):Bd (Dp a b c v):=by
 unfold Dp;split
 ·exact Hg (P7 _ _ _) (U6 (C8 _))
 ·exact Bd.zero
theorem VA (h:IF a b c v=true):tu (Dv a b c v) (Dp a b c v) (aA a b c+ -Re.of v):=by
 have h0:=h
 unfold IF at h
 rw[dT] at h
 obtain⟨e1,e2,_⟩:=Ev h.1
 rw[e1,e2]
 have h2:=h.1
 unfold AG at h2
 rw[dT] at h2
 exact G5 (HZ h2.1) (IR (CZ h2.2)) h.2
end
section
variable (k:Ci) (p:Pt)
def NK:Int:=pL (Dv p.a1 p.b1 p.c k.x) (Dp p.a1 p.b1 p.c k.x) (Dv p.a1 p.b1 p.c k.x) (Dp p.a1 p.b1 p.c k.x)
def Po:Int:=pH (Dv p.a1 p.b1 p.c k.x) (Dp p.a1 p.b1 p.c k.x) (Dv p.a1 p.b1 p.c k.x) (Dp p.a1 p.b1 p.c k.x)
def Sy:Bool:=yC (Dv p.a1 p.b1 p.c k.x) (Dp p.a1 p.b1 p.c k.x) (Dv p.a1 p.b1 p.c k.x) (Dp p.a1 p.b1 p.c k.x) 4
def Om:Int:=pL (Dv p.a2 p.b2 p.c k.y) (Dp p.a2 p.b2 p.c k.y) (Dv p.a2 p.b2 p.c k.y) (Dp p.a2 p.b2 p.c k.y)
def PM:Int:=pH (Dv p.a2 p.b2 p.c k.y) (Dp p.a2 p.b2 p.c k.y) (Dv p.a2 p.b2 p.c k.y) (Dp p.a2 p.b2 p.c k.y)
def Wz:Bool:=yC (Dv p.a2 p.b2 p.c k.y) (Dp p.a2 p.b2 p.c k.y) (Dv p.a2 p.b2 p.c k.y) (Dp p.a2 p.b2 p.c k.y) 4
def smL:Int:=aL (NK k p) (Po k p) (Om k p) (PM k p)
def smH:Int:=aH (NK k p) (Po k p) (Om k p) (PM k p)
def smK:Bool:=uH (NK k p+Om k p) (Po k p+PM k p)
def rsL:Int:=aL (smL k p) (smH k p) (-gH k.q) (-gL k.q)
def rsH:Int:=aH (smL k p) (smH k p) (-gH k.q) (-gL k.q)
def rsK:Bool:=uH (smL k p+ -gH k.q) (smH k p+ -gL k.q)
def Sf:Bool:=IF p.a1 p.b1 p.c k.x&&(IF p.a2 p.b2 p.c k.y&&iV k.q)
def LI:Bool:=Sf k p&&(Sy k p&&Wz k p)
def IC:Bool:=LI k p&&smK k p
def C5:Bool:=IC k p&&rsK k p
def Vt:Bool:=C5 k p&&I3 (rsL k p) (rsH k p)
def VI:Int:=if C5 k p then J4 (rsL k p) (rsH k p) else 0
end
section
variable {k:Ci}{p:Pt}
theorem qw (h:C5 k p=false):VI k p=0∧Vt k p=false:=by unfold VI Vt;rw[h];exact⟨rfl,rfl⟩
theorem Jt (h:C5 k p=true):VI k p=J4 (rsL k p) (rsH k p)∧Vt k p=I3 (rsL k p) (rsH k p):=by unfold VI Vt;rw[h];exact⟨rfl,rfl⟩
theorem Xz {c:Rat}:aA a b (zc b c)=aA a b c:=aS fun n=>by
 unfold aA zc
 by_cases h:b=0
 ·subst h;simp only[ao,am,aE];grind
 ·rw[if_neg h]
theorem UC (h:Vt k p=true):VI k p=aw (ri k p):=by
 unfold Vt at h
 rw[dT] at h
 obtain⟨h4,hs⟩:=h
 rw[(Jt h4).1]
 unfold C5 IC LI Sf at h4
 simp only[dT] at h4
 obtain⟨⟨⟨⟨k1,k2,k3⟩,k4,k5⟩,k6⟩,k7⟩:=h4
 have i1:=VA k1
 have i2:=VA k2
 have j1:tu (NK k p) (Po k p) _:=Je i1 i1 k4
 have j2:tu (Om k p) (PM k p) _:=Je i2 i2 k5
 have j3:tu (smL k p) (smH k p) _:=G5 j1 j2 k6
 have j4:tu (rsL k p) (rsH k p) _:=G5 j3 (IR (CZ k3)) k7
 rw[Fa j4 hs]
 refine congrArg aw (aS fun n=>?_)
 unfold ri pX pY um
 rw[Xz,Xz]
 simp only[ao,ak,am,aE,aD]
theorem L4:Bd (NK k p)∧Bd (Po k p):=⟨Cz _ _ _ _,Cs _ _ _ _⟩
theorem K5:Bd (Om k p)∧Bd (PM k p):=⟨Cz _ _ _ _,Cs _ _ _ _⟩
theorem PX:Bd (smL k p)∧Bd (smH k p):=⟨Ht (zq _ _ _ _) (zq _ _ _ _),Hg (zq _ _ _ _) (zq _ _ _ _)⟩
theorem abu (hp:GP p) (h:Vt k p=true): -VI k p=qd k p:=by rw[UC h,q7 hp]
theorem abh (hp:GP p): -bi (Nh k p) (EP k p) p.c=qd k p:=by
 rw[fZ (bz hp),q7 hp,←US (bz hp),Xz]
end
def sj (l:Ln) (p:Pt):Re:=Re.of l.a*pX p+Re.of l.b*pY p-Re.of l.c
theorem NU:aA (vA l p) (vB l p) p.c=sj l p:=aS fun n=>by
 unfold sj pX pY um
 rw[Xz,Xz]
 unfold aA vA vB
 simp only[ao,ak,am,aE];grind
theorem vk (hp:GP p):j6 l p=aw (sj l p):=by
 have hv:=hp.v
 have hc:=bz hp
 unfold j6
 by_cases hb:vB l p=0
 ·rw[JV (.inl hb),Jd (.inl hb),Kq (by decide) (fun h=>absurd rfl h),←NU]
  refine congrArg aw (aS fun n=>?_)
  unfold aA
  simp only[ao,am,aE];grind
 ·have hcc:0<p.c∧jp p.c=false:=by
   unfold Ax at hv
   split at hv
   ·rename_i e
    exact absurd (by unfold vB;rw[e.1,e.2];grind) hb
   grind
  have hc0:p.c≠0:=by have:=hcc.1;grind
  have e1:rB (vB l p) p.c=vB l p:=by unfold rB;rw[if_neg (by rintro(h|h);exact hb h;exact hc0 h)]
  have e2:rC (vB l p) p.c=p.c:=by unfold rC;rw[if_neg (by rintro(h|h);exact hb h;exact hc0 h)]
  rw[e1,e2,Kq hc (fun _=>hcc),NU]
theorem Xe (hp:GP p):bi (vA l p) (vB l p) p.c=j6 l p:=by rw[fZ (bz hp),NU,vk hp]
theorem S7 (l:Ln) (p:Pt): -1≤j6 l p∧j6 l p≤1:=O7 _ _ _
def AF (n a b c:Rat):Bool:=eK a b c&&iV n
def IB (n a b c:Rat):Int:=if AF n a b c then pL (gL n) (gH n) (ek a b c) (ei a b c) else 0
def IG (n a b c:Rat):Int:=if AF n a b c then pH (gL n) (gH n) (ek a b c) (ei a b c) else 0
def IH (n a b c:Rat):Bool:=AF n a b c&&yC (gL n) (gH n) (ek a b c) (ei a b c) 4
section
variable {n a b c:Rat}
theorem Ed (h:AF n a b c=false):IB n a b c=0∧IG n a b c=0∧IH n a b c=false:=by unfold IB IG IH;rw[h];exact⟨rfl,rfl,rfl⟩
theorem ES (h:AF n a b c=true):IB n a b c=pL (gL n) (gH n) (ek a b c) (ei a b c)∧IG n a b c=pH (gL n) (gH n) (ek a b c) (ei a b c)∧IH n a b c=yC (gL n) (gH n) (ek a b c) (ei a b c) 4:=by unfold IB IG IH;rw[h];exact⟨rfl,rfl,rfl⟩
theorem OT (n a b c:Rat):Bd (IB n a b c):=by
 unfold IB;split
 ·exact Cz _ _ _ _
 ·exact Bd.zero
theorem Qm (n a b c:Rat):Bd (IG n a b c):=by
 unfold IG;split
 ·exact Cs _ _ _ _
 ·exact Bd.zero
theorem KI (n a b c:Rat):IB n a b c≤IG n a b c:=by
 unfold IB IG;split
 ·exact zq _ _ _ _
 ·exact mV _
theorem Vu (h:IH n a b c=true):tu (IB n a b c) (IG n a b c) (Re.of n*aA a b c):=by
 unfold IH at h
 rw[dT] at h
 obtain⟨e1,e2,_⟩:=ES h.1
 rw[e1,e2]
 have h2:=h.1
 unfold AF at h2
 rw[dT] at h2
 exact Je (CZ h2.2) (HZ h2.1) h.2
end
section
variable (l:Ln) (p:Pt)
def lsL:Int:=aL (IB l.a p.a1 p.b1 p.c) (IG l.a p.a1 p.b1 p.c) (IB l.b p.a2 p.b2 p.c) (IG l.b p.a2 p.b2 p.c)
def lsH:Int:=aH (IB l.a p.a1 p.b1 p.c) (IG l.a p.a1 p.b1 p.c) (IB l.b p.a2 p.b2 p.c) (IG l.b p.a2 p.b2 p.c)
def lsK:Bool:=uH (IB l.a p.a1 p.b1 p.c+IB l.b p.a2 p.b2 p.c) (IG l.a p.a1 p.b1 p.c+IG l.b p.a2 p.b2 p.c)
def lrL:Int:=aL (lsL l p) (lsH l p) (-gH l.c) (-gL l.c)
def lrH:Int:=aH (lsL l p) (lsH l p) (-gH l.c) (-gL l.c)
def lrK:Bool:=uH (lsL l p+ -gH l.c) (lsH l p+ -gL l.c)
def Sh:Bool:=IH l.a p.a1 p.b1 p.c&&(IH l.b p.a2 p.b2 p.c&&iV l.c)
def ND:Bool:=Sh l p&&lsK l p
def Ij:Bool:=ND l p&&lrK l p
def Xt:Bool:=Ij l p&&I3 (lrL l p) (lrH l p)
def YQ:Int:=if Ij l p then J4 (lrL l p) (lrH l p) else 0
end
section
variable {l:Ln}{p:Pt}
theorem wI (h:Ij l p=false):YQ l p=0∧Xt l p=false:=by unfold YQ Xt;rw[h];exact⟨rfl,rfl⟩
theorem Jh (h:Ij l p=true):YQ l p=J4 (lrL l p) (lrH l p)∧Xt l p=I3 (lrL l p) (lrH l p):=by unfold YQ Xt;rw[h];exact⟨rfl,rfl⟩
theorem Rx:Bd (lsL l p)∧Bd (lsH l p):=⟨Ht (KI _ _ _ _) (KI _ _ _ _),Hg (KI _ _ _ _) (KI _ _ _ _)⟩
theorem S3 (hp:GP p) (h:Xt l p=true):YQ l p=j6 l p:=by
 unfold Xt at h
 rw[dT] at h
 obtain⟨h4,hs⟩:=h
 rw[(Jh h4).1]
 unfold Ij ND Sh at h4
 simp only[dT] at h4
 obtain⟨⟨⟨k1,k2,k3⟩,k4⟩,k5⟩:=h4
 have j3:tu (lsL l p) (lsH l p) _:=G5 (Vu k1) (Vu k2) k4
 have j4:tu (lrL l p) (lrH l p) _:=G5 j3 (IR (CZ k3)) k5
 rw[Fa j4 hs,vk hp]
 refine congrArg aw (aS fun n=>?_)
 unfold sj pX pY um
 rw[Xz,Xz]
 simp only[ao,ak,am,aE,aD]
end
def Cv.pos:Cv→Prop
 | .seg ..=>True
 | .arc k _ _ _=>0<k.q
structure CvV (c:Cv):Prop where
 g:c.good
 pos:c.pos
 sp:c.supp c.p=true
 sq:c.supp c.q=true
 ne:cP c.p c.q≠0
theorem iM:cP p q=0↔cx p q=0∧cy p q=0:=by
 show(if cx p q≠0 then cx p q else cy p q)=0↔_
 grind
theorem eo (hp:0≤p.c) (hq:0≤q.c):cP q p= -cP p q:=Jl hp hq
theorem Ko (hp:0≤p.c):cP p p=0:=IP hp
theorem CvV.rev (h:CvV c):CvV c.rev:=by
 have hp:=bz (cn h.g)
 have hq:=bz (dy h.g)
 cases c with
 |seg l p q=>exact⟨Cj h.g,trivial,h.sq,h.sp,fun e=>h.ne (by have:=eo hp hq;have e2:cP q p=0:=e;show cP p q=0;have h3:cP q p= -cP p q:=this;omega)⟩
 |arc k w p q=>exact⟨Cj h.g,h.pos,h.sq,h.sp,fun e=>h.ne (by have:=eo hp hq;have e2:cP q p=0:=e;show cP p q=0;have h3:cP q p= -cP p q:=this;omega)⟩
theorem EY {x y:Re}(h:aw (x-y)=0) (v:Re):aw (x-v)=aw (y-v):=dJ (by rw[←h];exact congrArg aw (aS fun n=>by simp only[ak];grind))
section
variable {p q:Pt}(hp:0≤p.c) (hq:0≤q.c) (h:cP p q=0)
include hp hq h
theorem TS (hf:0≤f.c):cx p f=cx q f:=by
 have h1:=(iM.1 h).1
 rw[jP hp hq] at h1
 rw[jP hp hf,jP hq hf];exact EY h1 _
theorem uj (v:Rat):lp p v=lp q v:=by
 have h1:=(iM.1 h).1
 rw[jP hp hq] at h1
 rw[li hp,li hq];exact EY h1 _
theorem Bh (v:Rat):jL p v=jL q v:=by
 have h1:=(iM.1 h).2
 rw[EX hp hq] at h1
 rw[AA hp,AA hq];exact EY h1 _
theorem Ro (k:Ci):nj k p=nj k q:=by unfold nj;rw[uj hp hq h,Bh hp hq h]
theorem Ic (hf:0≤f.c):wy k f p q=0:=by
 rw[uV,hJ,hJ,hJ,TS hp hq h hf,Ro hp hq h,(iM.1 h).1]
 unfold J2
 unfold Hp
 simp
theorem yT (hc:c.good):c.ord p q=0:=by
 have hf:=bz (cn hc)
 cases c with
 |seg l f t=>
  show(if decide (cP f t>0)=true then-cP p q else cP p q)=0
  grind
 |arc k w f t=>
  show(if (!w)=true then wy k f p q else wy k.mir f.flip p.flip q.flip)=0
  split
  ·exact Ic hp hq h hf
  ·refine Ic (p:=p.flip) (q:=q.flip) hp hq (iM.2 ⟨?_,?_⟩) (f:=f.flip) hf
   ·rw[qQ hp hq,(iM.1 h).1];rfl
   ·exact(iM.1 h).2
end
theorem uM (hc:c.good) (hp:GP p) (hq:GP q) (h:c.ord p q<0):cP p q≠0:=fun e=>by
 have:=yT (bz hp) (bz hq) e hc
 omega
theorem Bp {x:Pt}:gg c [] x=[x]:=rfl
theorem yz {x:Pt}{l:List Pt}(h:c.ord o x<0):gg c (o::l) x=o::gg c l x:=by
 have e:np c x (o::l)=np c x l+1:=by show(if c.ord o x<0 then np c x l+1 else 0)=_;rw[if_pos h]
 unfold gg
 grind
theorem yl {x:Pt}{l:List Pt}(h: ¬c.ord o x<0):gg c (o::l) x=if cP o x=0 then o::l else x::o::l:=by
 have e:np c x (o::l)=0:=by show(if c.ord o x<0 then np c x l+1 else 0)=_;rw[if_neg h]
 unfold gg
 grind
def xD:List Pt→Prop
 |p::q::l=>cP p q≠0∧xD (q::l)
 |_=>True
theorem NQ {l:List Pt}(h:xD (o::l)):xD l:=by
 cases l with
 |nil=>trivial
 |cons p l=>exact h.2
theorem Gd (hc:c.good) {x:Pt}(hx:GP x): ∀ {l:List Pt},(∀p∈l,GP p)→xD l→xD (gg c l x)
 |[],_,_=>trivial
 |o::l,hl,h=>by
  by_cases g:c.ord o x<0
  ·rw[yz g]
   have ih:=Gd hc hx (l:=l) (fun p hp=>hl p (iY _ hp)) (NQ h)
   have ho:=uM hc (hl o j5) hx g
   cases l with
   |nil=>exact⟨ho,trivial⟩
   |cons p l=>
    by_cases g2:c.ord p x<0
    ·rw[yz g2] at ih⊢;exact⟨h.1,ih⟩
    ·rw[yl g2] at ih⊢
     by_cases e:cP p x=0
     ·rw[if_pos e];exact h
     ·rw[if_neg e] at ih⊢;exact⟨ho,ih⟩
  ·rw[yl g]
   by_cases e:cP o x=0
   ·rw[if_pos e];exact h
   ·rw[if_neg e]
    refine⟨fun e2=>e ?_,h⟩
    rw[eo (bz hx) (bz (hl o j5)),e2];rfl
theorem If (hc:c.good): ∀ {l out:List Pt},(∀p∈l,GP p)→(∀p∈out,GP p)→xD out→xD (l.foldl (gg c) out)
 |[],_,_,_,h=>h
 |x::l,out,hl,ho,h=>by
  refine If hc (l:=l) (out:=gg c out x) (fun p hp=>hl p (iY _ hp)) (fun p hp=>?_) (Gd hc (hl x j5) ho h)
  rcases rH hp with e|e
  ·exact ho p e
  ·rw[e];exact hl x j5
theorem MI (hc:c.good) {l:List Pt}(hl: ∀p∈l,GP p):xD (cE c l):=If hc hl (fun p hp=>by cases hp) trivial
theorem DU: ∀ {l:List Pt}{d:Cv},xD l→d∈i9 c l→ ∃p q,p∈l∧q∈l∧cP p q≠0∧d=c.ends p q
 |p::q::l,d,ha,h=>by
  rcases gD.1 (show d∈c.ends p q::i9 c (q::l) from h) with h|h
  ·exact⟨p,q,j5,iY _ j5,ha.1,h⟩
  ·obtain⟨p',q',h1,h2,h3,h4⟩:=DU ha.2 h
   exact⟨p',q',iY _ h1,iY _ h2,h3,h4⟩
 |[_],d,_,h=>by cases h
 |[],d,_,h=>by cases h
theorem QH (c:Cv) (p q:Pt):(c.ends p q).p=p:=by cases c<;>rfl
theorem OJ (c:Cv) (p q:Pt):(c.ends p q).q=q:=by cases c<;>rfl
theorem DG (c:Cv) (p q x:Pt):(c.ends p q).supp x=c.supp x:=by cases c<;>rfl
theorem OF (h:c.pos) (p q:Pt):(c.ends p q).pos:=by cases c<;>exact h
theorem o5 (h:c.on p=true):c.supp p=true:=by
 unfold Cv.on at h
 grind
theorem yK (h:CvV c) {L:List Pt}(hL: ∀p∈L,GP p) (hs: ∀p∈L,c.supp p=true): ∀d∈fk c L,CvV d:=by
 intro d hd
 have hG: ∀p∈ [c.p,c.q]++L,GP p:=by
  intro p hp
  simp only[List.cons_append,zI,gD] at hp
  rcases hp with e|e|e
  ·rw[e];exact cn h.g
  ·rw[e];exact dy h.g
  grind
 have hS: ∀p∈ [c.p,c.q]++L,c.supp p=true:=by
  intro p hp
  simp only[List.cons_append,zI,gD] at hp
  rcases hp with e|e|e
  ·rw[e];exact h.sp
  ·rw[e];exact h.sq
  grind
 obtain⟨p,q,h1,h2,h3,rfl⟩:=DU (MI h.g hG) hd
 have m1:=my h1
 have m2:=my h2
 exact⟨D9 h.g (hG p m1) (hG q m2),OF h.pos p q,by rw[QH,DG];exact hS p m1,by rw[OJ,DG];exact hS q m2,by rw[QH,OJ];exact h3⟩
theorem Ih (a b:Rat):pX (rP a b)=Re.of a:=aS fun n=>by unfold pX um aA;simp only[ao,am,aE,rP];grind
theorem Lk (a b:Rat):pY (rP a b)=Re.of b:=aS fun n=>by unfold pY um aA;simp only[ao,am,aE,rP];grind
theorem Li (hp:GP (rP a b)) (h:l.a*a+l.b*b=l.c):j6 l (rP a b)=0:=by
 rw[vk hp]
 unfold sj
 rw[Ih,Lk,fK,fK,Fg,uO,cj,h]
 exact ij.2 (by grind)
theorem JE (hp:GP (rP a b)) (h:(a-k.x)*(a-k.x)+(b-k.y)*(b-k.y)=k.q):qd k (rP a b)=0:=by
 rw[q7 hp]
 unfold ri
 rw[Ih,Lk,uO,uO,fK,fK,Fg,uO,cj,h,ij.2 (show k.q-k.q=0 by grind)];rfl
theorem IU {q:Rat}(_h0:0<q) (hs:jp q=true):rt q*rt q=q:=by
 have hs2:=hs
 unfold jp CV at hs2
 simp only[dT,beq_iff_eq] at hs2
 have hd:bK (q.den:Int)≠0:=by have:=xQ (den_pos q);omega
 have hdq:((bK (q.den:Int):Int):Rat)≠0:=by simpa using hd
 have h2:rt q*((bK (q.den:Int):Int):Rat)=((bK q.num:Int):Rat):=by unfold rt;rw[zp,tH hdq]
 have h3:=t5 q
 have e1:((q.num:Int):Rat)=((bK q.num:Int):Rat)*((bK q.num:Int):Rat):=by rw[←eg,hs2.1]
 have e2:(((q.den:Int)):Rat)=((bK (q.den:Int):Int):Rat)*((bK (q.den:Int):Int):Rat):=by rw[←eg,hs2.2]
 grind
theorem Pd (s:Rat) (hs:s*s=1) (h0:0<k.q) (hp:GP (fW k.x s k.y 0 k.q)):qd k (fW k.x s k.y 0 k.q)=0:=by
 cases hq:jp k.q with
 |true=>
  have e:fW k.x s k.y 0 k.q=rP (k.x+s*rt k.q) (k.y+0*rt k.q):=by unfold fW;rw[hq];rfl
  rw[e] at hp⊢
  refine JE hp ?_
  have:=IU h0 hq
  grind
 |false=>
  have e:fW k.x s k.y 0 k.q=⟨k.x,s,k.y,0,k.q⟩:=by unfold fW;rw[hq];rfl
  rw[q7 hp]
  have hc:(0:Rat)≤k.q:=by grind
  have h:=ng hc
  have e2:ri k ⟨k.x,s,k.y,0,k.q⟩=Re.rt k.q*Re.rt k.q-Re.of k.q:=aS fun n=>by
   unfold ri pX pY
   rw[nB,nB]
   simp only[ao,ak,am,aE];grind
  grind
theorem F3 (hk:GK k) (h0:0<k.q):qd k (mh k)=0:=Pd (-1) (by decide+kernel) h0 (xf hk h0)
theorem E1 (hk:GK k) (h0:0<k.q):qd k (ln k)=0:=Pd 1 (by decide+kernel) h0 (xq hk h0)
section
variable {a b c d e f:Rat}(hn:p9 a b c d e f≠0)
include hn
theorem Vz:CI a b c d e f*(p9 a b c d e f+p9 a b c d e f)=((c-a)*(c-a)+(d-b)*(d-b))*(f-b)-((e-a)*(e-a)+(f-b)*(f-b))*(d-b)∧
 BR a b c d e f*(p9 a b c d e f+p9 a b c d e f)=((e-a)*(e-a)+(f-b)*(f-b))*(c-a)-((c-a)*(c-a)+(d-b)*(d-b))*(e-a):=by
 have h2D:p9 a b c d e f+p9 a b c d e f≠0:=by grind
 exact⟨by unfold CI;exact tH h2D,by unfold BR;exact tH h2D⟩
theorem Wp:(e-(a+CI a b c d e f))*(e-(a+CI a b c d e f))+(f-(b+BR a b c d e f))*(f-(b+BR a b c d e f))=CI a b c d e f*CI a b c d e f+BR a b c d e f*BR a b c d e f:=by
 obtain⟨h1,h2⟩:=Vz hn
 generalize hD:p9 a b c d e f+p9 a b c d e f=D at*
 have eD:D=((c-a)*(f-b)-(d-b)*(e-a))+((c-a)*(f-b)-(d-b)*(e-a)):=by rw[←hD];rfl
 grind
theorem X0:0<CI a b c d e f*CI a b c d e f+BR a b c d e f*BR a b c d e f:=by
 obtain⟨h1,h2⟩:=Vz hn
 have q1:=TT (CI a b c d e f)
 have q2:=TT (BR a b c d e f)
 by_cases h:CI a b c d e f*CI a b c d e f+BR a b c d e f*BR a b c d e f=0
 ·exfalso
  obtain⟨hx,hy⟩:=Kx h
  have key:((c-a)*(c-a)+(d-b)*(d-b))*(p9 a b c d e f)=0:=by
   show _*((c-a)*(f-b)-(d-b)*(e-a))=0
   grind
  rcases Rat.mul_eq_zero.1 key with g|g
  ·obtain⟨g1,g2⟩:=Kx g
   exact hn (by unfold p9;rw[g1,g2];grind)
  grind
 grind
end
theorem WD (a b x y:Rat):(a-(a+x))*(a-(a+x))+(b-(b+y))*(b-(b+y))=x*x+y*y:=by grind
theorem Wf (a b c d:Rat):(b-d)*c+(c-a)*d=(b-d)*a+(c-a)*b:=by grind
section
variable {K U A B C D E F:Int}(hU:0≤U) (hA: -128≤A∧A≤127) (hB: -128≤B∧B≤127) (hC: -128≤C∧C≤127) (hD: -128≤D∧D≤127) (hE: -128≤E∧E≤127) (hF: -128≤F∧F≤127)
include hU hA hB hC hD hE hF
theorem Lz: ∀c∈vG K U A B C D E F,CvV c:=by
 intro c hc
 have hg:=Bm (K:=K) hU hA hB hC hD hE hF c hc
 unfold vG at hc
 split at hc
 ·split at hc
  ·rename_i h0
   rcases gD.1 hc with e|e
   ·subst e
    have gk:GK _:=hg.g.1
    exact⟨hg.g,h0,bD.2 (F3 gk h0),bD.2 (E1 gk h0),hg.ne⟩
   ·rw[kw] at e;subst e
    have gk:GK _:=hg.g.1
    exact⟨hg.g,h0,bD.2 (E1 gk h0),bD.2 (F3 gk h0),hg.ne⟩
  grind
 ·split at hc
  ·split at hc
   ·grind
   ·rename_i h0
    rw[kw] at hc;subst hc
    exact⟨hg.g,X0 h0,bD.2 (JE hg.g.2.1 (WD _ _ _ _)),bD.2 (JE hg.g.2.2 (Wp h0)),hg.ne⟩
  ·split at hc
   ·grind
   ·rw[kw] at hc;subst hc
    refine⟨hg.g,trivial,?_,?_,hg.ne⟩
    ·show(j6 _ (rP _ _)==0)=true
     rw[Li hg.g.2.1 rfl];rfl
    ·show(j6 _ (rP _ _)==0)=true
     rw[Li hg.g.2.2 (Wf _ _ _ _)];rfl
end
theorem YB {A0 Bl:List Cv}(hg:CvV (A0.getD 0 bV)) (hB: ∀d∈Bl,d.good): ∀c∈Et A0 Bl,CvV c:=
 yK hg (fun p hp=>(AK hg.g hB p hp).1) (fun p hp=>o5 (AK hg.g hB p hp).2)
def Cv.inner (c:Cv) (p:Pt):Bool:=c.on p&&(!(cP c.p p==0)&& !(cP c.q p==0))
def Cv.mono:Cv→Bool
 | .seg _ p q=> !decide (cP p q≥0)
 | .arc k w p q=> !decide (cP p q≥0)&&(!(Cv.arc k w p q).inner (mh k)&& !(Cv.arc k w p q).inner (ln k))
def Cv.vert:Cv→Bool
 | .seg _ p q=>cx p q==0
 | .arc ..=>false
def zJ (k:Ci) (p:Pt):Int:=if nj k p then 0 else 1
theorem WI (h:decide (jL p k.y>0)=false) (g:(jL p k.y==0)=false):zJ k p=1:=by unfold zJ;rw[Qs h g];rfl
theorem ZJ (h:decide (jL p k.y>0)=true):zJ k p=0:=by unfold zJ;rw[UW h];rfl
theorem abq (h:decide (jL p k.y>0)=false) (g:(jL p k.y==0)=true) (e:decide (lp p k.x>0)=true):zJ k p=0:=by unfold zJ;rw[Jo h g,e];rfl
theorem Zx (h:decide (jL p k.y>0)=false) (g:(jL p k.y==0)=true) (e:decide (lp p k.x>0)=false):zJ k p=1:=by unfold zJ;rw[Jo h g,e];rfl
theorem N4 (k:Ci) (p:Pt):0≤zJ k p∧zJ k p≤1:=by unfold zJ;split<;>omega
theorem Yv (h:(zJ k p==zJ k q)=false):pF k p q=zJ k p-zJ k q:=by
 unfold pF M9 zJ at*
 grind
theorem Ut (h:(zJ k p==zJ k q)=true) (g:(zJ k p==0)=true):pF k p q= -cx p q:=by
 unfold pF M9 zJ at*
 grind
theorem SH (h:(zJ k p==zJ k q)=true) (g:(zJ k p==0)=false):pF k p q=cx p q:=by
 unfold pF M9 zJ at*
 grind
theorem Qw (k:Ci) (f p:Pt):0≤rx k f p∧rx k f p≤2:=by unfold rx MH;repeat' split<;>omega
theorem Ye (h:(pF k p f==0)=true):rx k f p=0:=by unfold rx MH;rw[if_pos (by simpa using h)]
theorem Yn (h:(pF k p f==0)=false) (g:decide (pF k p f>0)=true):rx k f p=1:=by unfold rx MH;rw[if_neg (by simpa using h),if_pos (of_decide_eq_true g)]
theorem Yi (h:(pF k p f==0)=false) (g:decide (pF k p f>0)=false):rx k f p=2:=by unfold rx MH;rw[if_neg (by simpa using h),if_neg (of_decide_eq_false g)]
theorem Y0 (h:(rx k f p==rx k f q)=false):Cn k f p q=Xr (rx k f p-rx k f q):=by
 unfold Cn Ck;rw[if_pos (show MH (pF k p f)≠MH (pF k q f) from by simpa [rx] using h)];rfl
theorem Ze (h:(rx k f p==rx k f q)=true):Cn k f p q=Xr (pF k p q):=by
 unfold Cn Ck;rw[if_neg (show ¬MH (pF k p f)≠MH (pF k q f) from by simpa [rx] using h)]
theorem UT (h:c.on p=false):c.inner p=false:=by unfold Cv.inner;rw[h];rfl
theorem Ov (h:c.on p=true) (g:(!(cP c.p p==0))=false):c.inner p=false:=by unfold Cv.inner;rw[h,g];rfl
theorem NR (h:c.on p=true) (g:(!(cP c.p p==0))=true):c.inner p= !(cP c.q p==0):=by unfold Cv.inner;rw[h,g];rfl
theorem CH (h:c.supp p=true):c.on p=(decide (c.ord c.p p≤0)&&decide (c.ord p c.q≤0)):=by unfold Cv.on;rw[h,jH]
theorem Wb {u q:Rat}(hb: ¬(u=0∧v=0)):Sd u v (cc u (zc u q) (zc v q))=q:=by
 unfold Sd
 rw[if_neg hb]
 by_cases h:u=0
 ·rw[HJ h,iD (fun e=>hb ⟨h,e⟩)]
 ·rw[xn h,iD h]
theorem aaz {c:Rat}(ha:Rz 600 a) (hb:Rz 600 b) (hc:Rz 600 c) (hd:Rz 600 d):Ok Tryz.prog 173 [.a ((cR a++cR b++cR c)),dR d] [.c (.i .i64 (bi (a-d) b c))]:=by
 refine bU Tryz.func173 rfl ?_
 refine cU 10 [] ?_
 refine aO rfl (gN (aW ha) (aW hd)) ?_
 refine aO rfl (vn (aW (az ha hd)) (aW hb) (aW hc)) ?_
 exact ai (al ae)
theorem abX (hp:GP p) (hv:Rz 600 v):Ok Tryz.prog 173 [.a ((cR p.a1++cR p.b1++cR (zc p.b1 p.c))),dR v] [.c (.i .i64 (lp p v))]:=aaz (hp.a1.mono (by decide)) (hp.b1.mono (by decide)) (fi (hp.c.mono (by decide)) (by decide)) hv
theorem acv (hp:GP p) (hv:Rz 600 v):Ok Tryz.prog 173 [.a ((cR p.a2++cR p.b2++cR (zc p.b2 p.c))),dR v] [.c (.i .i64 (jL p v))]:=aaz (hp.a2.mono (by decide)) (hp.b2.mono (by decide)) (fi (hp.c.mono (by decide)) (by decide)) hv
theorem YU (hp:GP p) (hq:GP q):Ok Tryz.prog 72 [.a ((cR p.a1++cR p.b1++cR (zc p.b1 p.c))),.a ((cR q.a1++cR q.b1++cR (zc q.b1 q.c)))] [.c (.i .i64 (cx p q))]:=Cm (hp.a1.mono (by decide)) (hp.b1.mono (by decide)) (fi (hp.c.mono (by decide)) (by decide)) (hq.a1.mono (by decide)) (hq.b1.mono (by decide)) (fi (hq.c.mono (by decide)) (by decide))
theorem yCY (hp:GP p) (hq:GP q):Ok Tryz.prog 72 [.a ((cR p.a2++cR p.b2++cR (zc p.b2 p.c))),.a ((cR q.a2++cR q.b2++cR (zc q.b2 q.c)))] [.c (.i .i64 (cy p q))]:=Cm (hp.a2.mono (by decide)) (hp.b2.mono (by decide)) (fi (hp.c.mono (by decide)) (by decide)) (hq.a2.mono (by decide)) (hq.b2.mono (by decide)) (fi (hq.c.mono (by decide)) (by decide))
theorem oz (hp:GP p) (hq:GP q):Ok Tryz.prog 93 [.a (aj p),.a (aj q)] [.c (.i .i64 (cP p q))]:=by
 refine bU Tryz.func93 rfl ?_
 refine cU 6 [] ?_
 refine aO rfl (jt) ?_
 refine aO rfl (jt) ?_
 refine aO rfl (YU hp hq) ?_
 refine dr rfl (fun hc1=>?_) (fun hc1=>?_)
 ·refine ai ?_
  rw[abC (p:=p) (q:=q) hc1]
  exact al ae
 ·refine cU 6 [] ?_
  refine aO rfl (zY) ?_
  refine aO rfl (zY) ?_
  refine aO rfl (yCY hp hq)<|ai ?_
  rw[acr (p:=p) (q:=q) hc1]
  exact al ae
theorem LM (hp:GP p) (hq:GP q):Ok Tryz.prog 89 [.a (aj p),.a (aj q)] [.c (.b (cP p q==0))]:=by
 refine bU Tryz.func89 rfl ?_
 refine ac rfl (oz hp hq) ?_
 exact ai (al ae)
theorem jJ (hx:Rz 6000000 x) (hy:Rz 6000000 y):Ok Tryz.prog 193 [dR x,dR y] [dR (x+y)]:=by
 refine bU Tryz.func193 rfl<|ac rfl (ci (aW hx) (aW hy)) ?_
 exact ai (a8 bt rfl ae)
theorem fV (hx:Rz 6000000 x) (hy:Rz 6000000 y):Ok Tryz.prog 191 [dR x,dR y] [dR (x-y)]:=by
 refine bU Tryz.func191 rfl<|ac rfl (gN (aW hx) (aW hy)) ?_
 exact ai (a8 bt rfl ae)
theorem de (hx:Rz 6000000 x) (hy:Rz 6000000 y):Ok Tryz.prog 192 [dR x,dR y] [dR (x*y)]:=by
 refine bU Tryz.func192 rfl<|ac rfl (cb (aW hx) (aW hy)) ?_
 exact ai (a8 bt rfl ae)
theorem GU (hx:Rz 6000000 x) (hy:Rz 6000000 y) (h0:y≠0):Ok Tryz.prog 194 [dR x,dR y] [dR (x/y)]:=by
 refine bU Tryz.func194 rfl<|ac rfl (lv hx hy h0) ?_
 exact ai (a8 bt rfl ae)
theorem rJ (hx:Rz 6000000 x) (hy:Rz 6000000 y):Ok Tryz.prog 255 [dR x,dR y] [dR (x+y)]:=by
 refine bU Tryz.func255 rfl<|ac rfl (ci (aW hx) (aW hy)) ?_
 exact ai (a8 bt rfl ae)
theorem jE (hx:Rz 6000000 x) (hy:Rz 6000000 y):Ok Tryz.prog 264 [dR x,dR y] [dR (x-y)]:=by
 refine bU Tryz.func264 rfl<|ac rfl (gN (aW hx) (aW hy)) ?_
 exact ai (a8 bt rfl ae)
theorem eZ (hx:Rz 6000000 x) (hy:Rz 6000000 y):Ok Tryz.prog 256 [dR x,dR y] [dR (x*y)]:=by
 refine bU Tryz.func256 rfl<|ac rfl (cb (aW hx) (aW hy)) ?_
 exact ai (a8 bt rfl ae)
theorem vz (hx:Rz 6000000 x) (hy:Rz 6000000 y) (h0:y≠0):Ok Tryz.prog 262 [dR x,dR y] [dR (x/y)]:=by
 refine bU Tryz.func262 rfl<|ac rfl (lv hx hy h0) ?_
 exact ai (a8 bt rfl ae)
theorem xC (hx:Rz 6000000 x):Ok Tryz.prog 190 [dR x] [dR (-x)]:=by
 refine bU Tryz.func190 rfl<|ac rfl (fX (aW hx)) ?_
 exact ai (a8 bt rfl ae)
theorem SJ (hv:Rz 6000000 v) (hw:Rz 6000000 w):Ok Tryz.prog 286 [.a ((cR v++cR w))] [.a ((cR (-v)++cR (-w)))]:=by
 refine bU Tryz.func286 rfl ?_
 refine cU 7 [] ?_
 refine aO rfl (fX (aW hv)) ?_
 refine aO rfl (fX (aW hw)) ?_
 refine aq (aC (us:=(cR (-v)++cR (-w))) ro q9 rfl rfl rfl) ?_
 exact ai (a8 WP rfl ae)
theorem Pp {c:Rat}(hv:Rz 6000000 v) (hw:Rz 6000000 w) (ha1:Rz 6000000 a1) (ha2:Rz 6000000 a2):Ok Tryz.prog 285 [.a ((cR a1++cR b1++cR a2++cR b2++cR c)),.a ((cR v++cR w))] [.a ((cR (a1+v)++cR b1++cR (a2+w)++cR b2++cR c))]:=by
 refine fD Tryz.func285 22 [.cell 4 46] rfl<|aa<|ah<|aa<|lq 17 rfl rfl<|dU 1<|bH (ji (cR a1) bt rfl)<|dU 1<|bH (ji (cR v) bt rfl)<|bH (dt rfl (ci (aW ha1) (aW hv)))<|dU 1<|bH (ji (cR b1) bt rfl)<|dU 1<|bH (ji (cR a2) bt rfl) ?_
 refine dU 1<|bH (ji (cR w) bt rfl)<|bH (dt rfl (ci (aW ha2) (aW hw)))<|dU 1<|bH (ji (cR b2) bt rfl)<|dU 1<|bH (ji (cR c) bt rfl)<|bH (aC (us:=(cR (a1+v)++cR b1++cR (a2+w)++cR b2++cR c)) Mr FF rfl rfl rfl) ?_
 refine kj<|dz<|fN<|bb ?_
 exact ai (a8 bv rfl ae)
theorem FH {c:Rat}(ha1:Rz 60000 a1) (hb1:Rz 60000 b1) (ha2:Rz 60000 a2) (hb2:Rz 60000 b2) (hc:Rz 60000 c) (v1:Ax b1 b2 c=true) {e:Rat}(hd:Rz 60000 d) (he:Rz 60000 e):Ok Tryz.prog 235 [.a ((cR a1++cR b1++cR a2++cR b2++cR c)),.a ((cR d++cR e))] [.a ((cR (L1 (a1-d) (a2-e) b1 b2 c)++cR (M4 (a1-d) (a2-e) b1 b2)++cR (zc (M4 (a1-d) (a2-e) b1 b2) c)))]:=by
 have ka1:Rz 6000000 a1:=ha1.m_
 have kb1:Rz 6000000 b1:=hb1.m_
 have ka2:Rz 6000000 a2:=ha2.m_
 have kb2:Rz 6000000 b2:=hb2.m_
 have kc:Rz 6000000 c:=hc.m_
 have kd:Rz 6000000 d:=hd.m_
 have ke:Rz 6000000 e:=he.m_
 have u1:Rz 140000 (a1-d):=(ha1.sub hd).m_
 have u2:Rz 140000 (a2-e):=(ha2.sub he).m_
 have k3:Rz 6000000 (-d):=kd.neg
 have k4:Rz 6000000 (-e):=ke.neg
 have nz:=aa5 v1
 have x1:Rz 1000000 (a1-d):=u1.m_
 have x2:Rz 1000000 (a2-e):=u2.m_
 have y1:Rz 1000000 b1:=hb1.m_
 have y2:Rz 1000000 b2:=hb2.m_
 have hC:Rz 1000000 c:=hc.m_
 have z1:Rz 1000000 (zc b1 c):=fi hC (by decide)
 have z2:Rz 1000000 (zc b2 c):=fi hC (by decide)
 have A1:Rz 1000000 ((a1-d)*(a1-d)+b1*b1*c):=((u1.mul u1).add ((hb1.mul hb1).mul hc)).m_
 have A2:Rz 1000000 ((a2-e)*(a2-e)+b2*b2*c):=((u2.mul u2).add ((hb2.mul hb2).mul hc)).m_
 have B1:Rz 1000000 ((a1-d)*b1+(a1-d)*b1):=((u1.mul hb1).add (u1.mul hb1)).m_
 have B2:Rz 1000000 ((a2-e)*b2+(a2-e)*b2):=((u2.mul hb2).add (u2.mul hb2)).m_
 have C1:Rz 1000000 (zc ((a1-d)*b1+(a1-d)*b1) c):=fi hC (by decide)
 have C2:Rz 1000000 (zc ((a2-e)*b2+(a2-e)*b2) c):=fi hC (by decide)
 have nS:((a1-d)*b1+(a1-d)*b1)+((a2-e)*b2+(a2-e)*b2)≠0→c≠0:=fun h=>by rw[Px] at h;have:=(Ph v1 h).1;grind
 refine bU Tryz.func235 rfl ?_
 refine cU 5 [] ?_
 refine aO rfl (SJ (by assumption) (by assumption)) ?_
 refine aO rfl (Pp (by assumption) (by assumption) (by assumption) (by assumption)) ?_
 refine cU 13 [6,999999] ?_
 refine aO rfl (tj jt (wK _ _) rfl rfl) ?_
 refine aO rfl (tj (HD x1 y1 z1) Y5 (Z0 nz.1) (Zf nz.1)) ?_
 refine aO rfl (tj zY (wK _ _) rfl rfl) ?_
 refine aO rfl (tj (HD x2 y2 z2) Y5 (Z0 nz.2) (Zf nz.2)) ?_
 refine aO rfl (qI (Nc A1 B1 C1 A2 B2 C2 Ws) (aaR _ _ _ _ _) ((ab6 nS).trans (Px _ _ _ _)) ((acw nS).trans (by rw[Px]))) ?_
 refine DQ.mk<|jj (dZ ez rfl) rfl rfl rfl rfl<|dY ?_
 exact ai (a8 ez rfl ae)
theorem aaN (hk:GK k) (hp:GP p):Ok Tryz.prog 235 [.a (aj p),.a ((cR k.x++cR k.y))] [.a ((cR (L1 (p.a1-k.x) (p.a2-k.y) p.b1 p.b2 p.c)++cR (EP k p)++cR (zc (EP k p) p.c)))]:=FH (hp.a1.mono (by decide)) (hp.b1.mono (by decide)) (hp.a2.mono (by decide)) (hp.b2.mono (by decide)) (hp.c.mono (by decide)) hp.v (hk.x.mono (by decide)) (hk.y.mono (by decide))
theorem Y3 (hk:GK k) (hp:GP p):Ok Tryz.prog 160 [.a (cg k),.a (aj p)] [.a ((cR (Nh k p)++cR (EP k p)++cR (zc (EP k p) p.c)))]:=by
 have s1:Rz 6000000 (L1 (p.a1-k.x) (p.a2-k.y) p.b1 p.b2 p.c):=(QB hk hp).m_
 have s2:Rz 6000000 k.q:=hk.q.m_
 have s3:Rz 6000000 (-k.q):=s2.neg
 refine bU Tryz.func160 rfl ?_
 refine cU 11 [] ?_
 refine aq (aC (us:=(cR k.x++cR k.y)) ro q9 rfl rfl rfl) ?_
 refine aO rfl (aaN hk hp) ?_
 refine aO rfl (fX (zaR)) ?_
 refine aO rfl (ni (by assumption) (by assumption)) ?_
 exact ai (a8 ez rfl ae)
theorem ZO (hk:GK k) (hp:GP p):Ok Tryz.prog 85 [.a (cg k),.a (aj p)] [.c (.i .i64 (qd k p))]:=by
 refine bU Tryz.func85 rfl ?_
 refine ac rfl (Y3 hk hp) ?_
 refine ac rfl (o9 ((Sb hk hp).m_) ((NI hk hp).m_) (fi (hp.c.m_) (by decide))) ?_
 refine ar (fG (r:= -s3 (Nh k p) (EP k p) (zc (EP k p) p.c)) rfl (yR (O7 _ _ _)) rfl) ?_
 exact ai (al ae)
theorem NJ (hl:GL l) (hp:GP p) (hs:jp p.c=true):Ok Tryz.prog 158 [.a (fm l),.a (aj p)] [.a ((cR (vA l p+vB l p*rt p.c)++cR 0++cR 0))]:=by
 refine bU Tryz.func158 rfl ?_
 refine cU 15 [] ?_
 refine aO rfl (de (aW (hl.a)) (aW (hp.a1))) ?_
 refine aO rfl (de (aW (hl.b)) (aW (hp.a2))) ?_
 refine aO rfl (jJ (aW (aF (hl.a) (hp.a1))) (aW (aF (hl.b) (hp.a2)))) ?_
 refine aO rfl (fV (aW (eh (aF (hl.a) (hp.a1)) (aF (hl.b) (hp.a2)))) (aW (hl.c))) ?_
 refine cU 21 [6,999999] ?_
 refine aO rfl (de (aW (hl.a)) (aW (hp.b1))) ?_
 refine aO rfl (de (aW (hl.b)) (aW (hp.b2))) ?_
 refine aO rfl (jJ (aW (aF (hl.a) (hp.b1))) (aW (aF (hl.b) (hp.b2)))) ?_
 refine aO rfl (Jb ((LW hl hp).m_) ((KG hl hp).m_) (hp.c.m_) (fun h=>absurd h (Rat.not_lt.2 (Rb hp.v))) hs) ?_
 refine DQ.mk<|jj (dZ ez rfl) rfl rfl rfl rfl<|dY ?_
 exact ai (a8 ez rfl ae)
theorem Q6 (hl:GL l) (hp:GP p) (hs:jp p.c=false):Ok Tryz.prog 158 [.a (fm l),.a (aj p)] [.a ((cR (vA l p)++cR (rB (vB l p) p.c)++cR (rC (vB l p) p.c)))]:=by
 refine bU Tryz.func158 rfl ?_
 refine cU 15 [] ?_
 refine aO rfl (de (aW (hl.a)) (aW (hp.a1))) ?_
 refine aO rfl (de (aW (hl.b)) (aW (hp.a2))) ?_
 refine aO rfl (jJ (aW (aF (hl.a) (hp.a1))) (aW (aF (hl.b) (hp.a2)))) ?_
 refine aO rfl (fV (aW (eh (aF (hl.a) (hp.a1)) (aF (hl.b) (hp.a2)))) (aW (hl.c))) ?_
 refine cU 21 [6,999999] ?_
 refine aO rfl (de (aW (hl.a)) (aW (hp.b1))) ?_
 refine aO rfl (de (aW (hl.b)) (aW (hp.b2))) ?_
 refine aO rfl (jJ (aW (aF (hl.a) (hp.b1))) (aW (aF (hl.b) (hp.b2)))) ?_
 refine aO rfl (J1 ((LW hl hp).m_) ((KG hl hp).m_) (hp.c.m_) (fun h=>absurd h (Rat.not_lt.2 (Rb hp.v))) hs) ?_
 refine DQ.mk<|jj (dZ ez rfl) rfl rfl rfl rfl<|dY ?_
 exact ai (a8 ez rfl ae)
theorem Z4 (hl:GL l) (hp:GP p):Ok Tryz.prog 158 [.a (fm l),.a (aj p)] [.a ((cR (vA l p)++cR (rB (vB l p) p.c)++cR (rC (vB l p) p.c)))]:=by
 cases hs:jp p.c with
 |true=>obtain⟨e1,e2,e3⟩:=Yf (l:=l) hp.v hs;exact tj (NJ hl hp hs) e1 e2 e3
 |false=>exact Q6 hl hp hs
theorem Xy (hl:GL l) (hp:GP p):Ok Tryz.prog 83 [.a (fm l),.a (aj p)] [.c (.i .i64 (j6 l p))]:=by
 refine bU Tryz.func83 rfl ?_
 refine ac rfl (Z4 hl hp) ?_
 refine ac rfl (o9 ((LW hl hp).m_) (Z5 ((KG hl hp).m_) (by decide)) (aas (hp.c.m_) (by decide))) ?_
 exact ai (al ae)
end Go.Proofs.YtkmdgigkbhmilaaGreat
