/-Data:a chain of appends where the order is open:the slice that grows is no one else's;all else in the region is data. -/
import Derived.Test.YtegeknjkgadehaaGreatTwK
namespace Go.Proofs.YtegeknjkgadehaaGreat
open Go Go.RowKit
variable {f1 f2 f3:Array Edge}{ops:Array Oper}{B:BF}{k:Ci}{c:Cv}{tm tm0:List (Nat×DV)}{K:List (Nat×DV)->Prop}{bx:List (Nat×TypeId×List CellD)}{us us' xs ys ys1 ys2 zs zs':List CellD}{C:List Nat}{os pre tail:List Oper}{l:List Pt}{N N' by_ i i1 i2 id m n n' q q1 q2 r sz t t1 t2 ty1 ty2:Nat}{o:Oper}{h x x0 y y1 y2:Operand}{P:Program}{p:Pt}{a b d:Rat}{p1 p2:String}{T:TF}{U e:TypeId}
variable {ty:TypeId}{pos:String}{af:Array Edge}{g:Option (Nat×Bool)}{dst:Option Nat}
theorem p6:type_of% @Option.none_or:=@Option.none_or
def tc (L:Nat->Bool):List (Nat×Nat×DV)->List (Nat×DV)->List (Nat×DV)
 |[],tm=>tm
 |(i,d,x)::r,tm=>tc L r (bif L i then(d,x)::tm else tm)
def oF (L:Nat->Bool):List (Nat×Nat×DV)->Nat->Option DV
 |[],_=>none
 |(i,d,x)::r,t=>(oF L r t).or (if d=t/\L i=true then some x else none)
theorem fU (L:Nat->Bool) (t:Nat): ∀(l:List (Nat×Nat×DV)) (tm:List (Nat×DV)),look t (tc L l tm)=(oF L l t).or (look t tm)
 |[],tm=>by simp[tc,oF]
 |(i,d,x)::r,tm=>by
  show look t (tc L r _)=_;rw[fU L t r];show _=((oF L r t).or _).or _;rw[Option.or_assoc];congr 1;cases h:L i with
  |false=>simp
  |true=>
   show look t ((d,x)::tm)=_;rw[aO];by_cases e:d=t<;>simp[e]
theorem yi {L:Nat->Bool}{t:Nat}{x:DV}: ∀ {l:List (Nat×Nat×DV)},oF L l t=some x-> ∃i,(i,t,x)∈l/\L i=true
 |(i,d,y)::r,h=>by
  have h:(oF L r t).or (if d=t/\L i=true then some y else none)=some x:=h;cases u:oF L r t with
  |some E=>
   rw[u] at h;injection h with h;subst h;obtain⟨j,w,D⟩:=yi u;exact⟨j,gF _ w,D⟩
  |none=>
   rw[u,p6] at h;split at h;·next e=>injection h with h;subst h;exact⟨i,by rw[e.1];exact f7,e.2⟩
   ·cases h
theorem Ry {L:Nat->Bool}{t i:Nat}{x:DV}: ∀ {l:List (Nat×Nat×DV)},(∀i j y,(i,t,x)∈l->(j,t,y)∈l->y=x)->(i,t,x)∈l->L i=true->oF L l t=some x
 |(j,d,y)::r,hu,u,hi=>by
  show(oF L r t).or (if d=t/\L j=true then some y else none)=some x;cases w:oF L r t with
  |some H=>
   obtain⟨k,I,R⟩:=yi w;rw[hu i k H u (gF _ I)];rfl
  |none=>
   rw[p6];rcases dO.1 u with e|u
   ·injection e with J D;injection D with D E;subst J D E;rw[if_pos ⟨rfl,hi⟩]
   ·rw[Ry (fun i j y a b=>hu i j y (gF _ a) (gF _ b)) u hi] at w;cases w
theorem Gx {L:Nat->Bool}: ∀ {l:List (Nat×Nat×DV)},(∀i x,(i,t,x)∈l->L i=false)->oF L l t=none:=by
 intro l h;cases j:oF L l t with
 |none=>rfl
 |some x=>
  obtain⟨i,u,w⟩:=yi j;grind
theorem uZ {L M:Nat->Bool}{t:Nat}: ∀ {l:List (Nat×Nat×DV)},(∀i x,(i,t,x)∈l->L i=M i)->oF L l t=oF M l t
 |[],_=>rfl
 |(i,d,x)::r,h=>by
  show(oF L r t).or _=(oF M r t).or _;rw[uZ (l:=r) fun j y u=>h j y (gF _ u)];congr 1;by_cases e:d=t;·subst e;rw[h i x f7]
  ·simp[e]
section
variable {P:Program}{ops:Array Oper}
def da (P:Program) (ops:Array Oper) (C:List Nat) (bx:List (Nat×TypeId×List CellD)):Nat->List Oper->List (Nat×DV)->(List (Nat×DV)->Prop)->Prop
 |_,[],tm,K=>K tm
 |i,o::os,tm,K=>bif C.any (Nat.beq i) then da P ops C bx (i+1) os tm K else ∃x d,o.dst=some d/\Sem P ops o (fun s=>look s tm) (fun k=>look k bx) (.r x)/\jq x=none/\da P ops C bx (i+1) os ((d,x)::tm) K
theorem Dl (j:C.any (Nat.beq i)=true) (h:da P ops C bx (i+1) os tm K):da P ops C bx i (o::os) tm K:=by unfold da;rw[j];exact h
theorem fV {d:Nat}{j:Op}{x:DV}
 (w:C.any (Nat.beq i)=false) (hs:Sem P ops ⟨some d,j,ty,pos,af,g⟩ (fun s=>look s tm) (fun k=>look k bx) (.r x)) (u:jq x=none) (h:da P ops C bx (i+1) os ((d,x)::tm) K):da P ops C bx i (⟨some d,j,ty,pos,af,g⟩::os) tm K:=by
 unfold da;rw[w];exact⟨x,d,rfl,hs,u,h⟩
theorem A5 {C:List Nat}{bx:List (Nat×TypeId×List CellD)}{K:List (Nat×DV)->Prop}: ∀(os:List Oper) (u:Nat) (tm:List (Nat×DV)),da P ops C bx u os tm K-> ∃opn:List (Nat×Nat×DV),
 (∀i d x,(i,d,x)∈opn->u<=i/\C.any (Nat.beq i)=false/\jq x=none/\ ∃o,os[i-u]? =some o/\o.dst=some d/\Sem P ops o (fun s=>look s (tc (fun j=>decide (j<i)) opn tm)) (fun k=>look k bx) (.r x))/\
 (∀i o,os[i]? =some o->C.any (Nat.beq (u+i))=false-> ∃d x,(u+i,d,x)∈opn)/\(∀i d x E x',(i,d,x)∈opn->(i,E,x')∈opn->d=E/\x=x')/\K (tc (fun _=>true) opn tm)
 |[],u,tm,h=>⟨[],(fun _ _ _ h=>by cases h),(fun i o h=>by simp at h),(fun _ _ _ _ _ h=>by cases h),h⟩
 |o::os,u,tm,h=>by
  unfold da at h;cases W:C.any (Nat.beq u) with
  |true=>
   rw[W] at h;obtain⟨opn,J,h2,h4,h3⟩:=A5 os (u+1) tm h;refine⟨opn,fun i d x I=>?_,fun i w ho D=>?_,h4,h3⟩
   ·obtain⟨g1,H,g3,w,g4,g5⟩:=J i d x I;refine⟨by omega,H,g3,w,?_,g5⟩;rw[show i-u=i-(u+1)+1 by omega];simpa using g4
   ·cases i with
    |zero=>rw[um,W] at D;cases D
    |succ i=>rw[show u+(i+1)=u+1+i by omega] at D⊢;exact h2 i w (by simpa using ho) D
  |false=>
   rw[W] at h;obtain⟨x,d,hd,hs,hx,h⟩:=h;obtain⟨opn,J,h2,h4,h3⟩:=A5 os (u+1) ((d,x)::tm) h;refine⟨(u,d,x)::opn,fun i E x' I=>?_,fun i w ho D=>?_,fun i d1 x1 d2 x2 g1 H=>?_,h3⟩
   ·rcases dO.1 I with e|I
    ·injection e with R e2;injection e2 with e2 e3;subst R e2 e3;refine⟨Nat.le_refl _,W,hx,o,by rw[Nat.sub_self];rfl,hd,?_⟩;have e:(fun s=>look s (tc (fun j=>decide (j<i)) ((i,E,x')::opn) tm))=fun s=>look s tm:=by
      funext s;rw[fU,Gx,p6];intro j y hj;rcases dO.1 hj with e|hj;·injection e with R;subst R;simp
      ·have:=(J j s y hj).1;simp;omega
     rw[e];exact hs
    ·obtain⟨g1,H,g3,w,g4,g5,g6⟩:=J i E x' I;refine⟨by omega,H,g3,w,?_,g5,?_⟩;·grind
     ·show Sem P ops w (fun s=>look s (tc _ opn (bif decide (u<i) then(d,x)::tm else tm))) _ _;rw[show decide (u<i)=true from decide_eq_true (by omega)];exact g6
   ·cases i with
    |zero=>exact⟨d,x,f7⟩
    |succ i=>
     grind
   ·rcases dO.1 g1 with R|k1<;>rcases dO.1 H with e2|k2;·grind
    ·grind
    ·grind
    grind
theorem BJ 
 (hU:rl P U=some (e,m,by_,zs)) (hx:ck (fun s=>look s tm) x=some (.f 0 us)) (hy:ck (fun s=>look s tm) y=some (.v (.c (.s q ys)))) (b0:ys.length=q*m) (hq:0<q)
 (H:q*by_<=140737488355328) (b1:q<=maxLen) (hd:look t bx=none)
 (hg:gd ops ⟨some t,.call ⟨.builtin .append,#[x,y],#[U,U]⟩,ty,pos,af,g⟩ (fun s=>look s tm)=some true):
 Nr P ops ⟨some t,.call ⟨.builtin .append,#[x,y],#[U,U]⟩,ty,pos,af,g⟩ ⟨N,tm,bx⟩ (fun σ'=> ∃c' rest,q<=c'/\c'<=maxLen/\rest.length=(c'-q)*m/\σ'=⟨N,(t,.o t q c')::tm,(t,e,ys++rest)::bx⟩):=by
 intro av w0 β a w hrel a2
 have hs:=Sees.of hrel.sees (L:=d6 ops ⟨some t,.call ⟨.builtin .append,#[x,y],#[U,U]⟩,ty,pos,af,g⟩) (fun _ _=>trivial) (fun _ _ _ h=>h) (fun _ _ h=>h)
 refine⟨eL hs hg,?_⟩
 obtain⟨⟨A,e1⟩,_⟩:(∃A,a.eval x=.slice A 0 0)/\_:=ao hs (x:=x) (by simp[Op.operands,Call.operands]) hx
 have h2:=ao hs (x:=y) (by simp[Op.operands,Call.operands]) hy
 obtain⟨news,W,b6⟩:=qo hU h2 b0
 obtain⟨hu,i,z,hi,hz,b2,a3,a4,a9⟩:=iz hU
 subst b2
 have ht:t<N:=a2 t rfl
 unfold Gives
 have a1:(Builtin.firstCells i.size 0 (.slice A 0 0)).run P w.drew=.ok ([]:List Value).toArray w.drew:=by
  cases A with
  |none=>rfl
  |some b=>
   have h9:=run_loadCells_list (P:=P) w.drew b ([]:List Value) (fun j u h=>by simp at h);rw[show([]:List Value).length=0*i.size by simp] at h9;exact h9
 have D:0<0+q:=by omega
 have E:=run_append_grow_src (P:=P) (w:=w) U U ty e i z hu hi hz A 0 0 _ a1 (a.eval y) q news W D (by have:maxLen=9223372036854775807:=rfl;omega) (growslice_fits D (by rw[a3,dt];exact H))
 rw[dt] at E
 generalize J:grownCap w q 0 e=c' at E
 have b4:q<=c':=by rw[<-J];exact grownCap_ge _ _ _ _
 have a6:c'<=maxLen:=by rw[<-J];exact grownCap_le_maxLen _ _ _ _ b1
 have R:(execOp a.eval ⟨some t,.call ⟨.builtin .append,#[x,y],#[U,U]⟩,ty,pos,af,g⟩).run P w=.ok (.value (.slice (some ⟨w.heap.size,0,none⟩) q c'))
  (w.drew.alloc (.cells (([]++news).toArray++Builtin.zeroCells z.cells (c'-q)) e)):=by
  simp only[execOp,resolve,invoke,builtin,fq,dx,dd,qT,mm,qy,e1]
  rw[E]
  rfl
 rw[R]
 obtain⟨rest,b3,a5⟩:=P8 a4 a9 (c'-q)
 have b5:RdCs (fun b=>av b\/ ∃k,look k bx≠none/\β k=b) w.drew (([]++news).toArray++Builtin.zeroCells z.cells (c'-q)).toList (ys++rest):=by have h1:RdCs (fun b=>av b\/ ∃k,look k bx≠none/\β k=b) w.drew (news++(Builtin.zeroCells z.cells (c'-q)).toList) (ys++rest):=kG (RdCs.keep (Keep.below (ef _ w).drew) b6) (a5 (fun b=>av b\/ ∃k,look k bx≠none/\β k=b) w.drew);grind
 have a0:=hrel.drew.box (d:=t) ht hd (U:=e) (sl:=some c') b5
 refine⟨⟨N,(t,.o t q c')::tm,(t,e,ys++rest)::bx⟩,fun l=>if l=t then w.drew.heap.size else β l,⟨c',_,b4,a6,b3,rfl⟩,rfl,?_⟩
 have I:=a0.value (d:=some t) (x:=.o t q c') (v:=.slice (some ⟨w.heap.size,0,none⟩) q c') (by intro s hs;injection hs with hs;subst hs;exact ht) (ef _ _) (by show _=Value.slice (some ⟨if t=t then w.drew.heap.size else β t,0,none⟩) _ _;rw[if_pos rfl];rfl) (by intro l hl;injection hl with hl;subst hl;rw[if_pos rfl];simp)
 rw[Fo] at I
 refine I.congr (fun s=>?_) (fun l=>?_)
 ·show look s ((t,DV.o t q c')::tm)=(if some t=some s then _ else if some t=some s then _ else look s tm)
  rw[aO]
  grind
 ·show look l ((t,e,ys++rest)::bx)=(if some t=some l then _ else look l bx)
  rw[aO]
  grind
structure AppS where
 i:Nat
 t:Nat
 y:Operand
 q:Nat
 ys:List CellD
def nA:List AppS->Nat
 |[]=>0
 |a::r=>a.q+nA r
def uA:List AppS->List CellD
 |[]=>[]
 |a::r=>a.ys++uA r
theorem vj (a:AppS): ∀l:List AppS,nA (l++[a])=nA l+a.q
 |[]=>by simp[nA]
 |b::r=>by show b.q+nA (r++[a])=b.q+nA r+a.q;rw[vj a r];omega
theorem FH (a:AppS): ∀l:List AppS,uA (l++[a])=uA l++a.ys
 |[]=>by simp[uA]
 |b::r=>by show b.ys++uA (r++[a])=b.ys++uA r++a.ys;rw[FH a r,ro]
def pa (ops:Array Oper) (C:List Nat) (m i:Nat) (y:Operand):Bool:=match y with
 | .tmp u=>(match ops[i]? with
   |none=>false
   |some o=>(List.range m).all fun j=>match ops[j]? with
    |none=>false
    |some p=> !(match p.dst with|none=>false|some d=>Nat.beq d u)||(!C.any (Nat.beq j)&&(bL o).any (Nat.beq j)))
 |_=>true
def Ll (x0:Operand) (l:List AppS):Operand:=match l.getLast? with
 |none=>x0
 |some a=>.tmp a.t
structure ChainA (P:Program) (ops:Array Oper) (C:List Nat) (m:Nat) (U e:TypeId) (sz by_:Nat) (zs:List CellD) (x0:Operand) (tm0 tm:List (Nat×DV)) (bx:List (Nat×TypeId×List CellD)) (ch:List AppS):Prop where
 hU:rl P U=some (e,sz,by_,zs)
 hm:0<sz
 base: ∃us,ck (fun s=>look s tm) x0=some (.f 0 us)
 hC:ch.map (·.i)=C
 op: ∀l a r,ch=l++a::r-> ∃ty pos af,ops[a.i]? =some ⟨some a.t,.call ⟨.builtin .append,#[Ll x0 l,a.y],#[U,U]⟩,ty,pos,af,none⟩
 lt: ∀a∈ch,a.i<m
 y: ∀a∈ch,ck (fun s=>look s tm) a.y=some (.v (.c (.s a.q a.ys)))/\a.ys.length=a.q*sz/\pa ops C m a.i a.y=true
 bx0: ∀a r,ch=a::r->pa ops C m a.i x0=true/\0<a.q
 nx: ∀l a b r,ch=l++a::b::r-> ∀o,ops[b.i]? =some o->a.i∈bL o
 new: ∀a∈ch,look a.t tm0=none/\look a.t bx=none
 big:nA ch*by_<=140737488355328/\nA ch<=maxLen
def zK (c:Nat) (l:List AppS):List (Nat×DV):=match l.getLast? with
 |none=>[]
 |some a=>[(a.t,.o a.t (nA l) c)]
def Gz (e:TypeId) (rest:List CellD) (l:List AppS):List (Nat×TypeId×List CellD):=match l.getLast? with
 |none=>[]
 |some a=>[(a.t,e,uA l++rest)]
theorem wH (c:Nat) (l:List AppS) (a:AppS):zK c (l++[a])=[(a.t,.o a.t (nA l+a.q) c)]:=by unfold zK;rw[List.getLast?_concat];show[(a.t,DV.o a.t (nA (l++[a])) c)]=_;rw[vj]
theorem tJ (e:TypeId) (rest:List CellD) (l:List AppS) (a:AppS):Gz e rest (l++[a])=[(a.t,e,uA l++a.ys++rest)]:=by unfold Gz;rw[List.getLast?_concat];show[(a.t,e,uA (l++[a])++rest)]=_;rw[FH]
theorem ade {l r:List AppS}:nA l<=nA (l++r):=by
 induction l with
 |nil=>exact eo _
 |cons a l j=>show a.q+nA l<=a.q+nA (l++r);omega
end
theorem Px {sz:Nat}: ∀ {l:List AppS},(∀a∈l,a.ys.length=a.q*sz)->(uA l).length=nA l*sz
 |[],_=>by simp[uA,nA]
 |a::r,h=>by show(a.ys++uA r).length=(a.q+nA r)*sz;rw[dc,h a f7,Px fun b j=>h b (gF _ j),iP]
theorem yG {u:Type}{b:u}: ∀(a:u) (r:List u),b∈r-> ∃l p j,a::r=l++p::b::j
 |a,c::r,h=>by
  rcases dO.1 h with e|h;·subst e;exact⟨[],a,r,rfl⟩
  ·obtain⟨l,p,j,e⟩:=yG c r h;exact⟨a::l,p,j,by rw[e];rfl⟩
section
variable {P:Program}{ops:Array Oper}{Q:Exit->Act->World->Prop}{av:Nat->Prop}{w0:Ent}{m n:Nat}
set_option linter.unusedVariables false in
theorem XH (hc:Chk ops m n) {ch:List AppS}{opn:List (Nat×Nat×DV)}
 (a4: ∀i d x,(i,d,x)∈opn->C.any (Nat.beq i)=false/\jq x=none/\i<m/\ ∃o,ops[i]? =some o/\o.dst=some d/\Sem P ops o (fun s=>look s (tc (fun j=>decide (j<i)) opn tm0)) (fun k=>look k bx) (.r x))
 (o3: ∀i,i<m->C.any (Nat.beq i)=false-> ∃d x,(i,d,x)∈opn)
 (m1: ∀i d x d' x',(i,d,x)∈opn->(i,d',x')∈opn->d=d'/\x=x')
 (I:ChainA P ops C m U e sz by_ zs x0 tm0 (tc (fun _=>true) opn tm0) bx ch)
 (l8: ∀t x k,look t tm0=some x->jq x=some k->look k bx≠none)
 (hQ: ∀c rest β a w fuel,nA ch<=c->c<=maxLen->rest.length=(c-nA ch)*sz->ops.size-m<=fuel->
  Rel av w0 n (fun s=>look s (zK c ch++tc (fun _=>true) opn tm0)) (fun k=>look k (Gz e rest ch++bx)) β a w->wpAny P .any ops Q fuel (cA ops.size m) a w):
 ∀(fuel:Nat) (listed:Array Bool) (β:Nat->Nat) (a:Act) (w:World) (J td:List AppS) (c:Nat) (rest:List CellD),listed.size=ops.size->KR listed<=fuel->
  (∀i o j,listed.getD i false=true->ops[i]? =some o->j∈bL o->listed.getD j false=true)->(∀t,m<=t->listed.getD t false=false)->
  ch=J++td->(∀b∈J,listed.getD b.i false=true)->(∀b∈td,listed.getD b.i false=false)->nA J<=c/\c<=maxLen/\rest.length=(c-nA J)*sz->
  Rel av w0 n (fun s=>look s (zK c J++tc (fun j=>listed.getD j false) opn tm0)) (fun k=>look k (Gz e rest J++bx)) β a w->wpAny P .any ops Q fuel listed a w:=by
 have i6: ∀b∈ch,C.any (Nat.beq b.i)=true:=fun b H=>jt.2 (by rw[<-I.hC];exact List.mem_map_of_mem H)
 have e3: ∀b∈ch,∃o,ops[b.i]? =some o/\o.dst=some b.t:=fun b H=>by obtain⟨l,r,e1⟩:=List.append_of_mem H;obtain⟨ty,pos,af,h⟩:=I.op l b r e1;exact⟨_,h,rfl⟩
 have n2: ∀ {i j d x y},(i,d,x)∈opn->(j,d,y)∈opn->i=j/\y=x:=by intro i j d x y R h2;obtain⟨_,_,hi,oi,q1,q2,_⟩:=a4 i d x R;obtain⟨_,_,hj,oj,q3,q4,_⟩:=a4 j d y h2;have:=hc.dist i j oi oj d hi hj q1 q3 q2 q4;subst this;exact⟨rfl,(m1 i d y d x h2 R).2⟩
 have j4: ∀b∈ch,∀i x,(i,b.t,x)∉opn:=by intro b H i x hm;obtain⟨q0,_,hi,oi,q1,q2,_⟩:=a4 i b.t x hm;obtain⟨o,g1,g2⟩:=e3 b H;have:=hc.dist i b.i oi o b.t hi (I.lt b H) q1 g1 q2 g2;subst this;rw[i6 b H] at q0;cases q0
 have j1: ∀(L:Nat->Bool),∀b∈ch,look b.t (tc L opn tm0)=none:=by intro L b H;rw[fU,Gx fun i x hm=>absurd hm (j4 b H i x),(I.new b H).1];rfl
 have e8: ∀(c:Nat) (l r:List AppS) t,ch=l++r->(∀b∈ch,b.t≠t)->look t (zK c l)=none:=by
  intro c l r t e1 h;unfold zK;cases hg:l.getLast? with
  |none=>rfl
  |some b=>
   have H:b∈ch:=by rw[e1];exact yz _ (List.mem_of_getLast? hg)
   show look t [(b.t,_)]=none;rw[aO,if_neg (h b H)];rfl
 have k3: ∀(rest:List CellD) (l r:List AppS) k c,ch=l++r->look k bx=some c->look k (Gz e rest l)=none:=by
  intro rest l r k c e1 h;unfold Gz;cases hg:l.getLast? with
  |none=>rfl
  |some b=>
   have H:b∈ch:=by rw[e1];exact yz _ (List.mem_of_getLast? hg)
   show look k [(b.t,_)]=none;rw[aO,if_neg (fun h2=>by subst h2;rw[(I.new b H).2] at h;cases h)];rfl
 have l6: ∀ {L:Nat->Bool}{i:Nat}{o:Oper}{y:Operand}{v:DV}{c:Nat}{l r:List AppS},ch=l++r->ops[i]? =some o->(∀j,j∈bL o->L j=true)->pa ops C m i y=true->
  ck (fun s=>look s (tc (fun _=>true) opn tm0)) y=some v->ck (fun s=>look s (zK c l++tc L opn tm0)) y=some v:=by
  intro L i o y v c l r e1 ho H e4 hv
  cases y with
  |tmp u=>
   have hv:look u (tc (fun _=>true) opn tm0)=some v:=hv
   show look u (zK c l++tc L opn tm0)=some v
   unfold pa at e4
   rw[ho] at e4
   dsimp only at e4
   have g0: ∀j p,j<m->ops[j]? =some p->p.dst=some u->C.any (Nat.beq j)=false/\L j=true:=by intro j p hj hp hd;have R:=lj.1 e4 j (iC.2 hj);rw[hp] at R;dsimp only at R;rw[hd] at R;dsimp only at R;rw[vT] at R;simp only[Bool.not_true,Bool.false_or,de] at R;refine⟨by simpa using R.1,H j (jt.1 R.2)⟩
   rw[cd,e8 c l r u e1 (fun b a6 e2=>by obtain⟨o2,g1,g2⟩:=e3 b a6;have:=(g0 b.i o2 (I.lt b a6) g1 (by rw[g2,e2])).1;rw[i6 b a6] at this;cases this),p6,<-hv,fU,fU]
   congr 1
   refine uZ fun j x hm=>?_
   obtain⟨_,_,hj,oj,q1,q2,_⟩:=a4 j u x hm
   exact(g0 j oj hj q1 q2).2
  |const z9=>exact hv
  |func z9=>exact hv
  |global z9=>exact hv
 intro fuel
 have e9: ∀(fuel:Nat) (listed:Array Bool) (β:Nat->Nat) (a:Act) (w:World) (J td:List AppS) (c:Nat) (rest:List CellD),listed.size=ops.size->ops.size-m<=fuel->
  (∀t,m<=t->listed.getD t false=false)->ch=J++td->(∀b∈td,listed.getD b.i false=false)->nA J<=c/\c<=maxLen/\rest.length=(c-nA J)*sz->(∀i,i<m->listed.getD i false=true)->
  Rel av w0 n (fun s=>look s (zK c J++tc (fun j=>listed.getD j false) opn tm0)) (fun k=>look k (Gz e rest J++bx)) β a w->wpAny P .any ops Q fuel listed a w:=by
  intro fuel listed β a w J td c rest b3 m4 hp hs b1 H hl hr
  have k2:td=[]:=by
   cases td with
   |nil=>rfl
   |cons b r=>
    have R:=b1 b f7;rw[hl b.i (I.lt b (by rw[hs];simp))] at R;cases R
  subst k2
  rw[pI] at hs
  subst hs
  have e1:listed=cA ops.size m:=by
   apply Array.ext (by simp[cA,b3]);intro i R h2;by_cases a1:i<m
   ·have h3:=hl i a1;simp[Array.getD,R] at h3;rw[h3];simp[cA,a1]
   ·have h3:=hp i (by omega);simp[Array.getD,R] at h3;rw[h3];simp[cA];cases H:Nat.blt i m with
    |false=>rfl
    |true=>have:=cJ.1 H;omega
  have e2:(fun s=>look s (zK c ch++tc (fun j=>listed.getD j false) opn tm0))=fun s=>look s (zK c ch++tc (fun _=>true) opn tm0):=by funext t;rw[cd,cd,fU,fU];congr 2;refine uZ fun j x hm=>?_;obtain⟨_,_,hj,_⟩:=a4 j t x hm;exact hl j hj
  rw[e2] at hr
  rw[e1]
  exact hQ c rest β a w fuel H.1 H.2.1 H.2.2 m4 hr
 induction fuel with
 |zero=>
  intro listed β a w J td c rest b3 hu e5 hp hs c6 b1 H hr
  have hm:m=ops.size:=by
   rcases nR m ops.size with h|h;·have:=xE (listed:=listed) (i:=m) (by omega) (by rw[kP (by omega) true false];exact hp m (bd _));omega
   ·exact Nat.le_antisymm hc.le h
  exact e9 0 listed β a w J td c rest b3 (by omega) hp hs b1 H (fun i hi=>by
   cases h:listed.getD i false with
   |true=>rfl
   |false=>have:=xE (listed:=listed) (i:=i) (by omega) (by rw[kP (by omega) true false];exact h);omega) hr
 |succ fuel ih=>
  intro listed β a w J td c rest b3 hu e5 hp hs c6 b1 H hr
  by_cases hl: ∀i,i<m->listed.getD i false=true
  ·have t4:ops.size-m<=KR listed:=by
    have e1:listed=cA ops.size m:=by
     apply Array.ext (by simp[cA,b3]);intro i R h2;by_cases a1:i<m
     ·have h3:=hl i a1;simp[Array.getD,R] at h3;rw[h3];simp[cA,a1]
     ·have h3:=hp i (by omega);simp[Array.getD,R] at h3;rw[h3];simp[cA];cases H:Nat.blt i m with
      |false=>rfl
      |true=>have:=cJ.1 H;omega
    rw[e1];unfold KR cA;have:(List.map (fun i=>Nat.blt i m) (List.range ops.size))=List.replicate m true++List.replicate (ops.size-m) false:=by
     apply List.ext_getElem (by simp;have:=hc.le;omega);intro i R h2;simp at R;by_cases a1:i<m;·rw[List.getElem_append_left (by simpa using a1)];simp[a1]
     ·rw[List.getElem_append_right (by simpa using a1)];simp;cases H:Nat.blt i m with
      |false=>rfl
      |true=>have:=cJ.1 H;omega
    simp[this,List.countP_append,List.countP_replicate]
   exact e9 (fuel+1) listed β a w J td c rest b3 (by omega) hp hs b1 H hl hr
  ·refine⟨fun h0=>?_,fun i hi=>?_⟩
   ·exfalso
    have n1: ∃p,p<m/\listed.getD p false=false/\ ∀q,q<p->listed.getD q false=true:=by
     have i4: ∀d p,p<=d->p<m->listed.getD p false=false-> ∃p,p<m/\listed.getD p false=false/\ ∀q,q<p->listed.getD q false=true:=by
      intro d;induction d with
      |zero=>
       intro p hd a3 c9;exact⟨p,a3,c9,fun q hq=>by omega⟩
      |succ d i0=>
       intro p hd a3 c9;by_cases hq: ∀q,q<p->listed.getD q false=true;·exact⟨p,a3,c9,hq⟩
       ·obtain⟨q,hq⟩:=y6.1 hq;obtain⟨s6,hq⟩:=yB.1 hq;exact i0 q (by omega) (by omega) (by simpa using hq)
     obtain⟨p,c3⟩:=y6.1 hl;obtain⟨a3,c3⟩:=yB.1 c3;exact i4 p p (bd _) a3 (by simpa using c3)
    obtain⟨p,a3,c9,hq⟩:=n1
    have k6:p<ops.size:=by have:=hc.le;omega
    have l0:p∈Region.ready .any ops listed:=mem_ready.2 ⟨by rw[kP (by omega) true false];exact c9,ops[p],qS k6,fun e he H=>
     hq e.on (hc.low p _ e.on (qS k6) (uh he H))⟩
    rw[h0] at l0;cases l0
   ·obtain⟨m3,o,ho,j2⟩:=mem_ready.1 hi
    have p3:i<ops.size:=(ll.1 ho).1
    have c0:listed.getD i false=false:=by rw[kP (by omega) false true];exact m3
    have b4: ∀j,j∈bL o->listed.getD j false=true:=fun j hj=>by obtain⟨e',n3,a2,rfl⟩:=i7 hj;exact j2 e' n3 a2
    have a1:i<m:=by
     rcases nR i m with h|h;·exact h
     ·exfalso;rcases hc.tl i o h ho with⟨j,hj,r3⟩|l9
      ·have:=b4 j hj;rw[hp _ r3] at this;cases this
      ·apply hl;have i4: ∀d p,m-p<=d->p<m->listed.getD p false=true:=by
        intro d;induction d with
        |zero=>intro p hd a3;omega
        |succ d i0=>
         intro p hd a3;rcases l9 p a3 with H|⟨q,oq,s4,s2,n0,H⟩;·exact b4 p H
         ·exact e5 q oq p (i0 q (by omega) s2) n0 H
       exact fun p a3=>i4 (m-p) p (bd _) a3
    have b2: ∀j,(listed.setIfInBounds i true).getD j false=if j=i then true else listed.getD j false:=by
     intro j;by_cases b0:j=i;·subst b0;simp[Array.getD,b3,p3]
     ·rw[if_neg b0,getD_set_ne false (fun e=>b0 e.symm)]
    have g6: ∀i' o' j,(listed.setIfInBounds i true).getD i' false=true->ops[i']? =some o'->j∈bL o'->(listed.setIfInBounds i true).getD j false=true:=by
     intro i' o' j' R h2 h3;rw[b2] at R⊢;by_cases b0:j'=i;·rw[if_pos b0]
     ·rw[if_neg b0];by_cases l4:i'=i
      ·subst l4;rw[ho] at h2;injection h2 with h2;subst h2;exact b4 j' h3
      ·rw[if_neg l4] at R;exact e5 i' o' j' R h2 h3
    have c3: ∀t,m<=t->(listed.setIfInBounds i true).getD t false=false:=fun t ht=>by rw[b2,if_neg (by omega)];exact hp t ht
    have j0:KR (listed.setIfInBounds i true)<=fuel:=by have:=AO (listed:=listed) (i:=i) (by omega) m3;omega
    have f0:(listed.setIfInBounds i true).size=ops.size:=by simpa using b3
    unfold wpOp
    rw[ho]
    cases d4:C.any (Nat.beq i) with
    |false=>
     obtain⟨d,x,c1⟩:=o3 i a1 d4
     obtain⟨_,u1,_,o',d3,k1,k5⟩:=a4 i d x c1
     rw[ho] at d3
     injection d3 with d3
     subst d3
     have m0: ∀b∈ch,b.i≠i:=fun b H e1=>by have:=i6 b H;rw[e1,d4] at this;cases this
     refine hr.step k5 (fun t ht=>hc.dn i o t ho ht) ?_ ?_ (fun U cs sl hE=>by cases hE) (fun a5 a' w' b5=>?_)
     ·intro t x' s1 E
      have E:look t (tc (fun j=>decide (j<i)) opn tm0)=some x':=E
      show look t (zK c J++tc (fun j=>listed.getD j false) opn tm0)=some x'
      have n4: ∀b∈ch,b.t≠t:=fun b H e1=>by rw[<-e1,j1 _ b H] at E;cases E
      rw[cd,e8 c J td t hs n4,p6,<-E,fU,fU]
      congr 1
      refine uZ fun j y hm=>?_
      obtain⟨_,_,r4,oj,h4,r6,_⟩:=a4 j t y hm
      by_cases b0:j=i
      ·subst b0;rw[c0];simp
      ·rcases hc.dep i j o oj t a1 r4 (fun e=>b0 e.symm) ho h4 r6 s1 with a6|a6
       ·have g8:=hc.low i o j ho a6
        rw[b4 j a6];simpa using g8
       ·have g8:=hc.low j oj i h4 a6
        have R:listed.getD j false=false:=by
         cases r1:listed.getD j false with
         |false=>rfl
         |true=>have:=e5 j oj i r1 h4 a6;rw[c0] at this;cases this
        rw[R];simp;omega
     ·intro k cc W
      have W:look k bx=some cc:=W
      show look k (Gz e rest J++bx)=some cc
      rw[cd,k3 rest J td k cc hs W,p6];exact W
     ·refine ih _ a5 a' w' J td c rest f0 j0 g6 c3 hs (fun b H=>?_) (fun b H=>?_) H ?_
      ·rw[b2];split
       ·rfl
       ·exact c6 b H
      ·rw[b2,if_neg (m0 b (by rw[hs];exact List.mem_append_right _ H))];exact b1 b H
      ·refine b5.congr (fun t=>?_) (fun k=>rfl)
       show _=if o.dst=some t then some x else _
       rw[cd,fU]
       by_cases i8:d=t
       ·subst i8
        rw[if_pos k1,e8 c J td d hs (fun b H e1=>j4 b H i x (by rw[e1];exact c1)),p6,Ry (fun i j y R h2=>(n2 R h2).2) c1 (by rw[b2,if_pos rfl])]
        rfl
       ·rw[if_neg (by rw[k1];simpa using i8)]
        show _=look t (zK c J++tc _ opn tm0)
        rw[cd,fU]
        congr 2
        refine uZ fun j y hm=>?_
        rw[b2,if_neg]
        intro e1
        subst e1
        exact i8 (m1 _ _ _ _ _ c1 hm).1
    |true=>
     have c7:=jt.1 d4
     rw[<-I.hC] at c7
     obtain⟨b,c5,rfl⟩:=nC.1 c7
     have g7:b∈td:=by
      rw[hs] at c5;rcases iN.1 c5 with h|h;·have:=c6 b h;rw[c0] at this;cases this
      ·exact h
     obtain⟨a9,r,l3⟩: ∃a9 r,td=a9::r:=by
      cases td with
      |nil=>cases g7
      |cons a9 r=>exact⟨a9,r,rfl⟩
     subst l3
     have r5:b=a9:=by
      rcases dO.1 g7 with h|h;·exact h
      ·exfalso;obtain⟨l,p,r',e1⟩:=yG a9 r h;have R:=I.nx (J++l) p b r' (by rw[hs,e1,ro]) o ho;have h2:=b4 _ R;rw[b1 p (by rw[e1];simp)] at h2;cases h2
     subst r5
     obtain⟨ty,pos,af,d2⟩:=I.op J b r hs
     rw[ho] at d2
     injection d2 with d2
     subst d2
     obtain⟨p4,k8,s0⟩:=I.y b c5
     have hy:=l6 (c:=c) hs ho b4 s0 p4
     have f4:nA J+b.q<=nA ch:=by have R:nA (J++[b])<=nA (J++[b]++r):=ade;rw[vj,ro] at R;rw[hs];exact R
     have d0:(nA J+b.q)*by_<=140737488355328:=fw (mE _ f4) I.big.1
     have d1:nA J+b.q<=maxLen:=fw f4 I.big.2
     obtain⟨q6,c8⟩:=I.new b c5
     have l7: ∀(a5:Nat->Nat) (a':Act) (w':World) (σ':St) (c':Nat) (D:List CellD),σ'.n=n->nA J+b.q<=c'->c'<=maxLen->D.length=(c'-(nA J+b.q))*sz->
      (∀t x,look t (zK c' (J++[b])++tc (fun j=>listed.getD j false) opn tm0)=some x->look t σ'.tm=some x)->(∀k cc,look k (Gz e D (J++[b])++bx)=some cc->look k σ'.bx=some cc)->
      Rel av w0 σ'.n σ'.T σ'.B a5 a' w'->wpAny P .any ops Q fuel (listed.setIfInBounds b.i true) a' w':=by
      intro a5 a' w' σ' c' D h8 g1 g2 g3 q5 m2 b5
      have hL:(fun s=>look s (zK c' (J++[b])++tc (fun j=>(listed.setIfInBounds b.i true).getD j false) opn tm0))=fun s=>look s (zK c' (J++[b])++tc (fun j=>listed.getD j false) opn tm0):=by funext t;rw[cd,cd,fU,fU];congr 2;refine uZ fun j x hm=>?_;rw[b2,if_neg];intro e1;have:=(a4 j t x hm).1;rw[e1,d4] at this;cases this
      refine ih _ a5 a' w' (J++[b]) r c' D f0 j0 g6 c3 (by rw[hs,ro];rfl) (fun b' a2=>?_) (fun b' a2=>?_) ⟨by rw[vj];exact g1,g2,by rw[vj];exact g3⟩ ?_
      ·rw[b2];split
       ·rfl
       ·rename_i k4
        rcases iN.1 a2 with h|h
        ·exact c6 b' h
        ·rw[nT] at h;exact absurd (by rw[h]) k4
      ·rw[b2,if_neg]
       ·exact b1 b' (gF _ a2)
       ·intro e1
        obtain⟨l,p,r',e2⟩:=yG b r a2
        have h0:=ho
        rw[<-e1] at h0
        have R:=I.nx (J++l) p b' r' (by rw[hs,e2,ro]) _ h0
        have h2:=b4 _ R
        rw[b1 p (by rw[e2];simp)] at h2;cases h2
      ·rw[hL]
       have k9:Sub σ' ⟨n,zK c' (J++[b])++tc (fun j=>listed.getD j false) opn tm0,Gz e D (J++[b])++bx⟩:=by
        refine⟨h8.symm,q5,m2,fun t x k E W=>?_⟩;show look k (Gz e D (J++[b])++bx)≠none;have E:look t (zK c' (J++[b])++tc (fun j=>listed.getD j false) opn tm0)=some x:=E;rw[wH] at E;rw[cd,tJ];rw[cd,aO] at E;by_cases a0:b.t=t
        ·rw[if_pos a0] at E;injection E with E;subst E;injection W with W;subst W;rw[aO,if_pos rfl];simp
        ·rw[if_neg a0] at E;have E:(look t []:Option DV).or (look t (tc (fun j=>listed.getD j false) opn tm0))=some x:=E;rw[show(look t []:Option DV)=none from rfl,p6,fU] at E;cases b6:oF (fun j=>listed.getD j false) opn t with
         |some x9=>
          rw[b6] at E;injection E with E;subst E;obtain⟨j,g4,_⟩:=yi b6;rw[(a4 _ _ _ g4).2.1] at W;cases W
         |none=>
          rw[b6,p6] at E;have h5:=l8 t x k E W;cases h6:look k bx with
          |none=>exact absurd h6 h5
          |some cc=>cases h7:look k [(b.t,e,uA J++b.ys++D)]<;>simp
       exact b5.sub k9
     have o0: ∀t x,look t (tc (fun j=>listed.getD j false) opn tm0)=some x->(∀b'∈ch,b'.t≠t)/\ ∀b'∈ch,jq x≠some b'.t:=by
      intro t x E;refine⟨fun b' a2 e1=>(by rw[<-e1,j1 _ b' a2] at E;cases E),fun b' a2 W=>?_⟩;rw[fU] at E;cases b6:oF (fun j=>listed.getD j false) opn t with
      |some x9=>
       rw[b6] at E;injection E with E;subst E;obtain⟨j,g4,_⟩:=yi b6;rw[(a4 _ _ _ g4).2.1] at W;cases W
      |none=>
       rw[b6,p6] at E;exact l8 t x _ E W (I.new b' a2).2
     have g5:=hc.dn b.i _ b.t ho rfl
     rcases List.eq_nil_or_concat J with b8|⟨l,p,b8⟩
     ·subst b8
      obtain⟨t0,i5⟩:=I.base
      obtain⟨l5,o8⟩:=I.bx0 b r hs
      have E:=l6 (c:=c) hs ho b4 l5 i5
      have hG:=BJ (P:=P) (ops:=ops) (N:=n) (t:=b.t) (ty:=ty) (pos:=pos) (af:=af) (g:=none) I.hU (x:=x0) E hy k8 o8 (by simpa [nA] using d0) (by simpa [nA] using d1) (bx:=Gz e rest []++bx) c8 rfl
      obtain⟨hw,hg⟩:=hG av w0 β a w hr (fun t ht=>by injection ht with ht;subst ht;exact g5)
      refine(if_pos hw).mpr (.inl (hg.wp fun v w' ⟨σ',a5,⟨c',D,q1,q2,q3,q4⟩,h8,b5⟩=>?_))
      subst q4
      refine l7 a5 _ w' ⟨n,(b.t,.o b.t b.q c')::(zK c []++tc (fun j=>listed.getD j false) opn tm0),(b.t,e,b.ys++D)::(Gz e rest []++bx)⟩ c' D rfl (by simpa [nA] using q1) q2 (by simpa [nA] using q3) (fun t x E=>?_) (fun k cc W=>?_) b5
      ·rw[wH] at E
       rw[cd,aO] at E
       show look t ((b.t,_)::(tc _ opn tm0))=some x
       rw[aO]
       by_cases a0:b.t=t
       ·rw[if_pos a0] at E⊢;simpa [nA] using E
       ·rw[if_neg a0] at E⊢;simpa [look] using E
      ·rw[tJ] at W
       rw[cd,aO] at W
       show look k ((b.t,_)::bx)=some cc
       rw[aO]
       by_cases a0:b.t=k
       ·rw[if_pos a0] at W⊢;simpa [uA] using W
       ·rw[if_neg a0] at W⊢;simpa [look] using W
     ·rw[List.concat_eq_append] at b8
      subst b8
      have e6:p∈ch:=by rw[hs];simp
      have h9:Ll x0 (l++[p])=.tmp p.t:=by unfold Ll;rw[List.getLast?_concat]
      have p0:p.t≠b.t:=by intro e1;obtain⟨o1,g1,g2⟩:=e3 p e6;obtain⟨o2,g3,g4⟩:=e3 b c5;have R:=hc.dist p.i b.i o1 o2 b.t (I.lt p e6) (I.lt b c5) g1 g3 (by rw[g2,e1]) g4;have h2:=c6 p (by simp);rw[R,c0] at h2;cases h2
      have E:ck (fun s=>look s (zK c (l++[p])++tc (fun j=>listed.getD j false) opn tm0)) (Ll x0 (l++[p]))=some (.o p.t (nA (l++[p])) c):=by rw[h9];show look p.t _=_;rw[wH,cd,aO,if_pos rfl,vj];rfl
      have j3:look p.t (Gz e rest (l++[p])++bx)=some (e,uA (l++[p])++rest):=by rw[tJ,cd,aO,if_pos rfl,FH];rfl
      have k7:(uA (l++[p])).length=nA (l++[p])*sz:=Px fun b' a2=>(I.y b' (by rw[hs];exact yz _ a2)).2.1
      have hG:=tv (P:=P) (ops:=ops) (N:=n) (t:=b.t) (ty:=ty) (pos:=pos) (af:=af) (g:=none) I.hU E hy j3 (by rw[dc,k7,H.2.2,<-iP];congr 1;have:=H.1;omega) k8 I.hm H.1 H.2.1 d0 d1 (pre:=uA (l++[p]))
       (by rw[<-k7];simp) (.inr (by rw[tJ,cd,aO,if_neg p0];simpa [look] using c8)) rfl
      obtain⟨hw,hg⟩:=hG av w0 β a w hr (fun t ht=>by injection ht with ht;subst ht;exact g5)
      refine(if_pos hw).mpr (.inl (hg.wp fun v w' ⟨σ',a5,⟨c',D,q1,q2,q3,q4⟩,h8,b5⟩=>?_))
      subst q4
      refine l7 a5 _ w' ⟨n,(b.t,.o b.t (nA (l++[p])+b.q) c')::hJ p.t (zK c (l++[p])++tc (fun j=>listed.getD j false) opn tm0),(b.t,e,uA (l++[p])++b.ys++D)::f6 p.t (Gz e rest (l++[p])++bx)⟩ c' D rfl q1 q2 q3 (fun t x E=>?_) (fun k cc W=>?_) b5
      ·rw[wH] at E
       rw[cd,aO] at E
       show look t ((b.t,_)::hJ p.t _)=some x
       rw[aO]
       by_cases a0:b.t=t
       ·rw[if_pos a0] at E⊢;simpa using E
       ·rw[if_neg a0] at E⊢
        have E:look t (tc (fun j=>listed.getD j false) opn tm0)=some x:=by simpa [look] using E
        obtain⟨g1,g2⟩:=o0 t x E
        rw[iZ,cd,e8 c (l++[p]) (b::r) t hs g1,p6,E]
        dsimp only
        rw[if_neg (g2 p e6)]
      ·rw[tJ] at W
       rw[cd,aO] at W
       show look k ((b.t,_)::f6 p.t _)=some cc
       rw[aO]
       by_cases a0:b.t=k
       ·rw[if_pos a0] at W⊢;simpa using W
       ·rw[if_neg a0] at W⊢
        have W:look k bx=some cc:=by simpa [look] using W
        rw[iU,if_neg (fun e1=>by rw[e1,(I.new p e6).2] at W;cases W),cd,k3 rest (l++[p]) (b::r) k cc hs W,p6];exact W
theorem F4 {l:List Oper}{Q:Exit->St->Prop}(m:Nat) (C:List Nat) (hm:P.follows .mixedOrders=true) (hc:Kr l.toArray m n=true) (E:l.take m=pre) (D:l.drop m=tail)
 (h:da P l.toArray C bx 0 pre tm0 fun tm=> ∃(U e:TypeId) (sz by_:Nat) (zs:List CellD) (x0:Operand) (u:List AppS),ChainA P l.toArray C m U e sz by_ zs x0 tm0 tm bx u/\
  ∀c rest,nA u<=c->c<=maxLen->rest.length=(c-nA u)*sz->dl P l.toArray tail ⟨n,zK c u++tm,Gz e rest u++bx⟩ (Q .normal)):Dw P (.region id l.toArray true) ⟨n,tm0,bx⟩ Q:=fun av w0 β a w H=>by
 have hC:=Chk.of hc
 subst E D
 obtain⟨opn,h1,h2,h4,U,e,sz,by_,zs,x0,u,R,W⟩:=A5 _ _ _ h
 have a5:m<=l.length:=by simpa using hC.le
 have a3: ∀ {i:Nat}{o:Oper},(l.take m)[i]? =some o->i<m/\l.toArray[i]? =some o:=by intro i o hi;grind
 refine wp_region_any hm ?_
 refine XH (av:=av) (w0:=w0) (Q:=fun e a' w'=> ∃σ' a0,σ'.n=n/\Q e σ'/\Rel av w0 σ'.n σ'.T σ'.B a0 a' w') hC (opn:=opn) ?_ ?_ h4 R (fun t x k hx hk=>H.wf t x k hx hk) ?_ l.toArray.size (Array.replicate l.toArray.size false) β a _ [] u 0 [] (by simp) (by unfold KR;refine fw List.countP_le_length ?_;simp) ?_ ?_ rfl (fun b hb=>by cases hb) ?_ ?_ ?_
 ·intro i d x a4
  grind
 ·intro i J a2
  have I:i<l.length:=by omega
  have:=h2 i l[i] (by rw[j6,if_pos J];exact dY I) (by rw[dt];exact a2)
  grind
 ·intro c rest β a w fuel g1 g2 g3 hf a1
  refine xg hC (K:=Q .normal) (fun σ' β a w hn hq H=>⟨σ',β,hn,hq,by rw[hn];exact H⟩) (l.drop m) m ⟨n,zK c u++tc (fun _=>true) opn tm0,Gz e rest u++bx⟩ fuel β a w (bd _) (fun j=>by simp) (by simp;omega) rfl (W c rest g1 g2 g3) a1 (by simpa using hf)
 ·intro i o j hi
  simp[Array.getD] at hi
 ·intro t _
  simp[Array.getD]
  try (split<;>rfl)
 ·intro b _
  simp[Array.getD]
  try (split<;>rfl)
 ·exact⟨Nat.le_refl _,eo _,by simp[nA]⟩
 ·refine H.drew.congr (fun t=>?_) (fun k=>rfl)
  show look t (zK 0 []++tc _ opn tm0)=look t tm0
  rw[cd]
  show(look t []).or _=_
  rw[show(look t []:Option DV)=none from rfl,p6,fU,Gx,p6]
  simp[Array.getD]
  try (split<;>rfl)
end
section
variable {P:Program}{ops:Array Oper}{T:TF}{B:BF}
theorem mL 
 (W:rl P U=some (e,m,by_,zs)) (R:gd ops ⟨dst,.buildSlice U 0 #[],ty,pos,af,g⟩ T=some true):Sem P ops ⟨dst,.buildSlice U 0 #[],ty,pos,af,g⟩ T B (.r (.f 0 [])):=by
 refine⟨rG rfl,fun V β a w hs=>⟨eL hs R,?_⟩⟩
 obtain⟨I,i,z,hi,hz,H,E,J,D⟩:=iz W
 have j:(execOp a.eval ⟨dst,.buildSlice U 0 #[],ty,pos,af,g⟩).run P w=.ok (.value (.slice (some ⟨w.heap.size,0,none⟩) 0 0)) (w.alloc (.cells #[] e)):=by
  have u: ∀w,(sizeOf e).run P w=.ok i.size w:=fun w=>by unfold sizeOf typeInfo;simp[program,Sem.run,hi]
  simp[execOp,Instr.buildSlice,run_underlying I,u,Instr.fill,newRow];grind
 unfold Gives
 rw[j]
 exact⟨⟨⟨_,rfl⟩,.s0 _ _ (by decide)⟩,(ef _ w).alloc (bd _) _⟩
theorem qa 
 (hU:rl P U=some (e,m,by_,zs)) (hx:ck T x=some (.f 0 us)) (hy:ck T y=some (.v (.c (.s 0 ys))))
 (hg:gd ops ⟨dst,.call ⟨.builtin .append,#[x,y],#[U,U]⟩,ty,pos,af,g⟩ T=some true):
 Sem P ops ⟨dst,.call ⟨.builtin .append,#[x,y],#[U,U]⟩,ty,pos,af,g⟩ T B (.r (.f 0 us)):=by
 refine⟨rG rfl,fun V β a w hs=>⟨eL hs hg,?_⟩⟩
 obtain⟨⟨A,e1⟩,H⟩:(∃A,a.eval x=.slice A 0 0)/\RdV V w (a.eval x) (.c (.s 0 us)):=ao hs (x:=x) (by simp[Op.operands,Call.operands]) hx
 have I:RdC V w (a.eval y) (.s 0 ys):=ao hs (x:=y) (by simp[Op.operands,Call.operands]) hy
 have J:ys=[]:=by
  generalize a.eval y=vy at I;cases I with
  |s0=>rfl
  |s b off c sz n' a1 cv h0=>omega
 subst J
 obtain⟨news,j,_⟩:=qo hU I (by simp)
 obtain⟨hu,i,z,hi,hz,R,a0,_,a2⟩:=iz hU
 subst R
 have W:news=[]:=iv.1 (by rw[j.newsLen,Nat.zero_mul])
 subst W
 rw[e1] at H
 have D:(Builtin.append_ #[U,U] ty #[.slice A 0 0,a.eval y]).run P w=.ok (.slice A 0 0) w:=by
  cases A with
  |none=>rcases j.kind with⟨e',E⟩|E<;>simp[Builtin.append_,run_underlying hu,sizeOf,typeInfo,hi,j.len,j.cells]<;>rfl
  |some A=>
   rcases j.kind with⟨e',E⟩|E<;>simp[Builtin.append_,run_underlying hu,sizeOf,typeInfo,hi,j.len,j.cells]<;>rfl
 have u:(execOp a.eval ⟨dst,.call ⟨.builtin .append,#[x,y],#[U,U]⟩,ty,pos,af,g⟩).run P w=.ok (.value (.slice A 0 0)) w:=by simp only[execOp,resolve,invoke,builtin,fq,dx,dd,qT,mm,qy,e1];rw[D];rfl
 unfold Gives
 rw[u]
 exact⟨⟨⟨A,rfl⟩,H⟩,ef _ w⟩
theorem FC 
 (I:rl P U=some (e,m,by_,zs)) (W:ck T x=some (.f n us)) (hy:ck T y=some (.v (.c (.s q ys)))) (D:us.length=n*m) (u:ys.length=q*m) (R:0<m) (E:0<n) (j:(n+q)*by_<=140737488355328) (H:n+q<=maxLen)
 (J:gd ops ⟨dst,.call ⟨.builtin .append,#[x,y],#[U,U]⟩,ty,pos,af,g⟩ T=some true):
 Sem P ops ⟨dst,.call ⟨.builtin .append,#[x,y],#[U,U]⟩,ty,pos,af,g⟩ T B (.r (.v (.c (.s (n+q) (us++ys))))):=
 sv I W (fun V β a w hs=>qo I (ao hs (x:=y) (by simp[Op.operands,Call.operands]) hy) u) D u R E j H J
theorem pP {ki:IntKind}{j:Int}
 (J:om P U=some m) (hx:ck T x=some (.v (.c (.s n xs)))) (hh:ck T h=some (.v (.c (.i ki j)))) (hj:0<=j/\j<=n) (hl:xs.length=n*m) (a3:n-j.toNat=n') (hu:xs.drop (j.toNat*m)=us) (hg:gd ops ⟨dst,.slice U x (some h) none none,ty,pos,af,g⟩ T=some true):
 Sem P ops ⟨dst,.slice U x (some h) none none,ty,pos,af,g⟩ T B (.r (.v (.c (.s n' us)))):=
 bK hg (rG rfl) (fun V β a w hs=>by
  subst a3;have W:=ao hs (x:=x) (by simp[Op.operands]) hx;have h2:=fN (ao hs (x:=h) (by simp[Op.operands]) hh);generalize hv:a.eval x=v at W;have W:RdC V w v (.s n xs):=W;unfold om at J;split at J;case h_2=>cases J
  rename_i el a0;cases E:P.info? el with
  |none=>rw[E] at J;cases J
  |some b1=>
   rw[E] at J;simp at J;have a2: ∀w,(sizeOf el).run P w=.ok m w:=fun w=>by unfold sizeOf typeInfo;simp[program,Sem.run,E,J]
   have I: ∀(A:Option Addr) (c:Nat),a.eval x=.slice A n c->n<=c->(execOp a.eval ⟨dst,.slice U x (some h) none none,ty,pos,af,g⟩).run P w=.ok (.value (.slice (if c=j.toNat then A else A.map (·.add (j.toNat*m))) (n-j.toNat) (c-j.toNat))) w:=by
    intro A c e R;have a6:j<=c:=by omega
    have H:=hj.2;simp[execOp,Instr.sliceAt,Instr.slice,run_underlying a0,e,h2,Instr.sliceBounds,Instr.sliceBound,asIntOf,hj.1,H,a2]
   cases W with
   |s0 A c hc=>
    have a1:j.toNat=0:=by omega
    refine⟨_,I A c hv (by omega),?_⟩;rw[<-hu,a1];simp;exact .s0 _ c hc
   |s b off c sz _ _ cv h0 R b0 D hb a4 hc hr=>
    have a5:sz=m:=by rw[hl] at D;exact(Gk h0 D).symm
    subst a5;refine⟨_,I _ c hv R,?_⟩;rcases nR j.toNat n with H|H
    ·rw[if_neg (by omega),show((some ⟨b,off,none⟩:Option Addr).map (·.add (j.toNat*sz)))=some ⟨b,off+j.toNat*sz,none⟩ from by simp[Addr.add]];have a9:j.toNat*sz+(n-j.toNat)*sz=n*sz:=by rw[<-iP];congr 1;omega
     refine .s b (off+j.toNat*sz) (c-j.toNat) sz (n-j.toNat) us (fun q=>cv (j.toNat*sz+q)) (by omega) (by omega) (by omega) ?_ hb a4 (fun q hq=>?_) (fun q u hq=>?_);·grind
     ·grind
     grind
    ·have e9:n-j.toNat=0:=by omega
     rw[e9,<-hu,pG (by rw[D];exact mE _ H)];exact .s0 _ _ (by omega))
end
theorem v9 (h:Sem P ops o T B (.r (.v (.c (.s n us))))) (j:n=n') (u:us=us'):Sem P ops o T B (.r (.v (.c (.s n' us')))):=by subst j u;exact h
def nxB (ops:Array Oper) (i j:Nat):Bool:=match ops[j]? with
 |none=>false
 |some o=>(bL o).any (Nat.beq i)
theorem Kb {j:Nat}(h:nxB ops i j=true) (u:ops[j]? =some o):i∈bL o:=by unfold nxB at h;rw[u] at h;exact jt.1 h
section
variable {P:Program}{ops:Array Oper}{tail:List Oper}{K:St->Prop}{m n:Nat}{tm0 tm:List (Nat×DV)}{bx:List (Nat×TypeId×List CellD)}
theorem IG {i3 t3 E WJ:Nat}{p3:String}{u:List CellD}{y3:Operand}
 (hU:rl P U=some (e,sz,by_,zs)) (hm:0<sz) (hb:ck (fun s=>look s tm) x0=some (.f 0 us))
 (o1:ops[i1]? =some ⟨some t1,.call ⟨.builtin .append,#[x0,y1],#[U,U]⟩,ty1,p1,f1,none⟩) (o2:ops[i2]? =some ⟨some t2,.call ⟨.builtin .append,#[.tmp t1,y2],#[U,U]⟩,ty2,p2,f2,none⟩) (o3:ops[i3]? =some ⟨some t3,.call ⟨.builtin .append,#[.tmp t2,y3],#[U,U]⟩,WJ,p3,f3,none⟩)
 (lt:(Nat.blt i1 m&&Nat.blt i2 m&&Nat.blt i3 m)=true) (d1:ck (fun s=>look s tm) y1=some (.v (.c (.s q1 ys1)))) (d2:ck (fun s=>look s tm) y2=some (.v (.c (.s q2 ys2)))) (d3:ck (fun s=>look s tm) y3=some (.v (.c (.s E u))))
 (l1:ys1.length=q1*sz) (l2:ys2.length=q2*sz) (l3:u.length=E*sz) (b0:(pa ops [i1,i2,i3] m i1 x0&&pa ops [i1,i2,i3] m i1 y1&&pa ops [i1,i2,i3] m i2 y2&&pa ops [i1,i2,i3] m i3 y3)=true)
 (J:(nxB ops i1 i2&&nxB ops i2 i3)=true) (hq:0<q1) (w1:look t1 tm0=none) (w2:look t2 tm0=none) (w3:look t3 tm0=none) (v1:look t1 bx=none) (v2:look t2 bx=none) (v3:look t3 bx=none)
 (hN:q1+q2+E=N') (hz:ys1++ys2++u=zs') (D:N'*by_<=140737488355328) (R:N'<=maxLen)
 (hk: ∀c rest,N'<=c->c<=maxLen->rest.length=(c-N')*sz->dl P ops tail ⟨n,(t3,.o t3 N' c)::tm,(t3,e,zs'++rest)::bx⟩ K):
 ∃(U e:TypeId) (sz by_:Nat) (zs:List CellD) (x0:Operand) (H:List AppS),ChainA P ops [i1,i2,i3] m U e sz by_ zs x0 tm0 tm bx H/\
  ∀c rest,nA H<=c->c<=maxLen->rest.length=(c-nA H)*sz->dl P ops tail ⟨n,zK c H++tm,Gz e rest H++bx⟩ K:=by
 simp only[de] at lt b0 J
 have I:nA [⟨i1,t1,y1,q1,ys1⟩,⟨i2,t2,y2,q2,ys2⟩,⟨i3,t3,y3,E,u⟩]=N':=by show q1+(q2+(E+0))=N';omega
 have a0:uA [⟨i1,t1,y1,q1,ys1⟩,⟨i2,t2,y2,q2,ys2⟩,⟨i3,t3,y3,E,u⟩]=zs':=by show ys1++(ys2++(u++[]))=zs';rw[<-hz];simp
 refine⟨U,e,sz,by_,zs,x0,[⟨i1,t1,y1,q1,ys1⟩,⟨i2,t2,y2,q2,ys2⟩,⟨i3,t3,y3,E,u⟩],⟨hU,hm,⟨us,hb⟩,rfl,?_,?_,?_,?_,?_,?_,by rw[I];exact⟨D,R⟩⟩,fun c rest g1 g2 g3=>?_⟩
 ·intro l a r h
  match l,h with
  |[],h=>injection h with h _;subst h;exact⟨_,_,_,o1⟩
  |[x],h=>injection h with h j;injection j with j _;subst h j;exact⟨_,_,_,o2⟩
  |[x,y],h=>injection h with h j;injection j with j w;injection w with w _;subst h j w;exact⟨_,_,_,o3⟩
  |x::y::z'::l,h=>have:=congrArg List.length h;simp at this<;>omega
 ·simp_all
 ·grind
 ·grind
 ·intro l a b r h o W
  match l,h with
  |[],h=>injection h with h j;injection j with j _;subst h j;exact Kb J.1 W
  |[x],h=>injection h with h j;injection j with j w;injection w with w _;subst h j w;exact Kb J.2 W
  |x::y::l,h=>have:=congrArg List.length h;simp at this<;>omega
 ·grind
 ·rw[I] at g1 g3
  show dl P ops tail ⟨n,[(t3,.o t3 (nA _) c)]++tm,[(t3,e,uA _++rest)]++bx⟩ K
  grind
theorem Je 
 (hU:rl P U=some (e,sz,by_,zs)) (hm:0<sz) (H:ck (fun s=>look s tm) x0=some (.f 0 us))
 (o1:ops[i1]? =some ⟨some t1,.call ⟨.builtin .append,#[x0,y1],#[U,U]⟩,ty1,p1,f1,none⟩) (o2:ops[i2]? =some ⟨some t2,.call ⟨.builtin .append,#[.tmp t1,y2],#[U,U]⟩,ty2,p2,f2,none⟩)
 (lt:(Nat.blt i1 m&&Nat.blt i2 m)=true) (d1:ck (fun s=>look s tm) y1=some (.v (.c (.s q1 ys1)))) (d2:ck (fun s=>look s tm) y2=some (.v (.c (.s q2 ys2))))
 (l1:ys1.length=q1*sz) (l2:ys2.length=q2*sz) (b0:(pa ops [i1,i2] m i1 x0&&pa ops [i1,i2] m i1 y1&&pa ops [i1,i2] m i2 y2)=true)
 (I:nxB ops i1 i2=true) (hq:0<q1) (w1:look t1 tm0=none) (w2:look t2 tm0=none) (v1:look t1 bx=none) (v2:look t2 bx=none)
 (hN:q1+q2=N') (R:ys1++ys2=zs') (j:N'*by_<=140737488355328) (E:N'<=maxLen)
 (hk: ∀c rest,N'<=c->c<=maxLen->rest.length=(c-N')*sz->dl P ops tail ⟨n,(t2,.o t2 N' c)::tm,(t2,e,zs'++rest)::bx⟩ K):
 ∃(U e:TypeId) (sz by_:Nat) (zs:List CellD) (x0:Operand) (w:List AppS),ChainA P ops [i1,i2] m U e sz by_ zs x0 tm0 tm bx w/\
  ∀c rest,nA w<=c->c<=maxLen->rest.length=(c-nA w)*sz->dl P ops tail ⟨n,zK c w++tm,Gz e rest w++bx⟩ K:=by
 have D:nA [⟨i1,t1,y1,q1,ys1⟩,⟨i2,t2,y2,q2,ys2⟩]=N':=by show q1+(q2+0)=N';omega
 have J:uA [⟨i1,t1,y1,q1,ys1⟩,⟨i2,t2,y2,q2,ys2⟩]=zs':=by show ys1++(ys2++[])=zs';rw[<-R];simp
 refine⟨U,e,sz,by_,zs,x0,[⟨i1,t1,y1,q1,ys1⟩,⟨i2,t2,y2,q2,ys2⟩],⟨hU,hm,⟨us,H⟩,rfl,?_,?_,?_,?_,?_,?_,by rw[D];exact⟨j,E⟩⟩,fun c rest g1 g2 W=>?_⟩
 ·intro l a r h
  match l,h with
  |[],h=>injection h with h _;subst h;exact⟨_,_,_,o1⟩
  |[x],h=>injection h with h u;injection u with u _;subst h u;exact⟨_,_,_,o2⟩
  |x::y::l,h=>have:=congrArg List.length h;simp at this<;>omega
 ·simp_all
 ·grind
 ·grind
 ·intro l a b r h o ho
  match l,h with
  |[],h=>injection h with h u;injection u with u _;subst h u;exact Kb I ho
  |x::l,h=>have:=congrArg List.length h;simp at this<;>omega
 ·grind
 ·rw[D] at g1 W
  show dl P ops tail ⟨n,[(t2,.o t2 (nA _) c)]++tm,[(t2,e,uA _++rest)]++bx⟩ K
  grind
end
theorem ae9 (a b c d:Pt):ai a++ai b++ai c++ai d=am ai [a,b,c,d]:=by simp[am]
section
variable {c d:Cv}
theorem Sb (h:jy c d=true):a8 c d=[c.p,c.q,d.p,d.q]:=by unfold a8;rw[if_pos h]
theorem TL (h:jy c d=false):a8 c d=n5 c d:=by unfold a8;rw[if_neg (by rw[h];decide)]
theorem Tc {j:Type}{B:j->Bool}{M:List j}{x:j}(h:n<M.length) (u:B (M.getD n x)=true):(M.take (n+1)).filter B=(M.take n).filter B++[M.getD n x]:=by rw[uc (d:=x) h,List.filter_append];grind
theorem F1 {j:Type}{B:j->Bool}{M:List j}{x:j}(h:n<M.length) (u:B (M.getD n x)=false):(M.take (n+1)).filter B=(M.take n).filter B:=by rw[uc (d:=x) h,List.filter_append,List.filter_cons,if_neg (by rw[u];decide)];simp
theorem S6 (h:c.on p=true) (g:d.on p=true):dH c d p=true:=by unfold dH;rw[h,g];rfl
theorem Mq (h:c.on p=false):dH c d p=false:=by unfold dH;rw[h];rfl
theorem LJ (g:d.on p=false):dH c d p=false:=by unfold dH;rw[g,sX]
theorem ad6 (h:NK d l r=true):NK d l (r+1)=true:=by show(NK d l r||_)=true;rw[h];rfl
theorem ad2 (h:NK d l r=false):NK d l (r+1)=decide (d.ord (l.getD r dPt) (l.getD (r+1) dPt)<0):=by show(NK d l r||_)=_;rw[h];rfl
theorem W6 (h:jy c d=false):BS c d=false:=by unfold BS;rw[if_neg (by rw[h];decide)]
theorem XG (h:jy c d=true) (j:(bY c d).length-1=r):BS c d=NK (iT c d) (bY c d) r:=by unfold BS;rw[if_pos h,j]
theorem KJ (j:d.good):(iT c d).good:=by
 unfold iT;split;·exact Ck j
 ·exact j
end
def qD (A u:Int):Rat:=Rat.divInt A u
theorem Yd {A u:Int}(h: -128<=A/\A<=127) (j:1<=u/\u<=4):Rz 1 (qD A u):=Rz.of (AE (by omega) (by omega)) (AE (by omega) (by omega)) (by omega)
def ab2 (a b c d:Rat):Ln:=⟨b-d,c-a,(b-d)*a+(c-a)*b⟩
def rP (a b:Rat):Pt:=⟨a,0,b,0,0⟩
theorem WR {c:Rat}(u:Rz 1 a) (j:Rz 1 b) (D:Rz 1 c) (w:Rz 1 d) (h: ¬(b-d=0/\c-a=0)):GL (ab2 a b c d):=
 ⟨(j.sub w).mono (by decide),(D.sub u).mono (by decide),(((j.sub w).mul u).add ((D.sub u).mul j)).mono (by decide),fun e=>h (Ze e)⟩
theorem ZB (u:Rz 1 a) (j:Rz 1 b):GP (rP a b):=GP.rat (u.mono (by decide)) (j.mono (by decide))
theorem aaU {c:Rat}(h:cP (rP a b) (rP c d)=0):a=c/\b=d:=by
 have h:qV a 0 b 0 0 c 0 d 0 0=0:=h;unfold qV at h;split at h;·grind
 ·rename_i g;have j:=jE.1 (jZ g);have u:=jE.1 h;grind
def ov (k:Ci):Pt:=mM k.x (-1) k.y 0 k.q
def nZ (k:Ci):Pt:=mM k.x 1 k.y 0 k.q
theorem ow:Rz 1 (1:Rat):=⟨by rw[show(1:Rat).num=1 from rfl];exact AE (by decide) (by decide),by rw[show((1:Rat).den:Int)=1 from rfl];exact Sz.one (by decide)⟩
theorem tN (j:GK k) (u:0<k.q):GP (ov k):=AP (j.x.mono (by decide)) (ow.neg.mono (by decide)) (j.y.mono (by decide)) (iO (by decide)) (j.q.mono (by decide)) u (fun e=>absurd e.1 (by decide))
theorem t5 (j:GK k) (u:0<k.q):GP (nZ k):=AP (j.x.mono (by decide)) (ow.mono (by decide)) (j.y.mono (by decide)) (iO (by decide)) (j.q.mono (by decide)) u (fun e=>absurd e.1 (by decide))
def zP5:List CellD:=Sc++Sc++Sc++Sc++Sc
theorem NZ (c:Cv) (r:List CellD):(an c++r).take 66=an c:=by rw[<-ae c];exact List.take_left
theorem adB {q:Rat}(I:0<q) (hs:jB q=true):rt q≠0:=by
 intro h;have j:=hs;unfold jB At at j;simp only[de,beq_iff_eq] at j;have D:bp (q.den:Int)≠0:=by have:=xd (den_pos q);omega
 have u:((bp (q.den:Int):Int):Rat)≠0:=by simpa using D
 have H:((bp q.num:Int):Rat)=0:=by
  have R:rt q*((bp (q.den:Int):Int):Rat)=((bp q.num:Int):Rat):=by unfold rt;rw[yn,Rat.div_mul_cancel u]
  grind
 have E:bp q.num=0:=by simpa using H
 have w:=j.1;rw[E,si] at w;have J:q=0:=Rat.num_eq_zero.1 w.symm;grind
def uD (U:Int):Int:=U%4+1
def DM (k:Ci):List Cv:=[.arc k false (ov k) (nZ k),.arc k false (nZ k) (ov k)]
def oc (a b c d:Rat):Cv:=.seg (ab2 a b c d) (rP a b) (rP c d)
theorem SU {U:Int}(_h:0<=U):1<=uD U/\uD U<=4:=by unfold uD;omega
theorem QB {q:Pt}(h:cP p q≠0):(fS c (fS c [] p) q).length=2:=by unfold fS;grind
theorem kY {q:Pt}(h:cP p q≠0):2<=(cb c ([p,q]++l)).length:=by have j:=(AY (c:=c) l (fS c (fS c [] p) q)).1;rw[QB h] at j;exact j
theorem qe 
 (W:rl P U=some (e,m,by_,zs)) (hx:ck T x=some .z) (hy:ck T y=some (.v (.c (.s q ys)))) (hq:q=0)
 (hg:gd ops ⟨dst,.call ⟨.builtin .append,#[x,y],#[U,U]⟩,ty,pos,af,g⟩ T=some true):
 Sem P ops ⟨dst,.call ⟨.builtin .append,#[x,y],#[U,U]⟩,ty,pos,af,g⟩ T B (.r .z):=by
 subst hq
 refine⟨rG rfl,fun V β a w hs=>⟨eL hs hg,?_⟩⟩
 have e1:a.eval x=.slice none 0 0:=ao hs (x:=x) (by simp[Op.operands,Call.operands]) hx
 have E:RdC V w (a.eval y) (.s 0 ys):=ao hs (x:=y) (by simp[Op.operands,Call.operands]) hy
 have H:ys=[]:=by
  generalize a.eval y=vy at E;cases E with
  |s0=>rfl
  |s b off c sz n' a1 cv h0=>omega
 subst H
 obtain⟨news,j,_⟩:=qo W E (by simp)
 obtain⟨hu,i,z,hi,hz,I,a0,_,a2⟩:=iz W
 subst I
 have J:news=[]:=iv.1 (by rw[j.newsLen,Nat.zero_mul])
 subst J
 have D:(Builtin.append_ #[U,U] ty #[.slice none 0 0,a.eval y]).run P w=.ok (.slice none 0 0) w:=by rcases j.kind with⟨e',R⟩|R<;>simp[Builtin.append_,run_underlying hu,sizeOf,typeInfo,hi,j.len,j.cells]<;>rfl
 have u:(execOp a.eval ⟨dst,.call ⟨.builtin .append,#[x,y],#[U,U]⟩,ty,pos,af,g⟩).run P w=.ok (.value (.slice none 0 0)) w:=by simp only[execOp,resolve,invoke,builtin,fq,dx,dd,qT,mm,qy,e1];rw[D];rfl
 unfold Gives
 rw[u]
 exact⟨rfl,ef _ w⟩
end Go.Proofs.YtegeknjkgadehaaGreat
namespace Go.Proofs.YtegeknjkgadehaaGreat
def uK (k:Fin 4):Bool:=k==0||k==1
def uF (k:Fin 4):Bool:=k==2||k==1
def G2 (u v:Bool) (n:Int):Int:=if u !=v then(if v then-1 else 1) else if u then-n else n
def Ug (u v:Bool) (n:Int):Int:=if u !=v then(if u then-1 else 1) else if u then-n else n
def KC (w j u:Int):Int:=if decide (w<0) !=decide (j<0) then(if decide (j<0) then-1 else 1) else u
def plc (b:Int):Int:=if b=0 then 0 else if b>0 then 1 else 2
def sg1 (n:Int):Int:=min 1 (max (-1) n)
def Lq (j u w:Int):Int:=if plc j≠plc u then sg1 (plc j-plc u) else sg1 w
def i3 (i:Fin 3):Int:=(i.val:Int)-1
def Jt (j u w:Int):Bool:=(u !=0||w==j)&&(j !=0||w== -u)&&(j != -u||w==j)
def mB (k l:Fin 4) (n:Int):Bool:=
 if k=0 then n==(if l=0 then 0 else 1) else if k=2 then n==(if l=2 then 0 else-1)
 else if l=0 then n== -1 else if l=2 then n==1 else true
def cwR (j u D:Fin 4) (w E H:Int):Bool:=
 decide (KC (G2 (uF j) (uF j) 0) (G2 (uF u) (uF j) (-w)) (G2 (uF j) (uF u) w)<=0)&&
 decide (KC (G2 (uF u) (uF j) (-w)) (G2 (uF D) (uF j) (-E)) (G2 (uF u) (uF D) (-H))<=0)
def cwP (w u j:Fin 4) (D E H:Int):Bool:=
 decide (Lq (Ug (uK u) (uK j) H) (Ug (uK w) (uK j) (-E)) (Ug (uK u) (uK w) D)<=0)
set_option maxRecDepth 100000 in
theorem Vb: ∀(D u w:Fin 4) (i j l:Fin 3),Jt (i3 i) (i3 j) (i3 l)=true->mB u D (i3 i)=true->mB w D (i3 j)=true->mB u w (i3 l)=true->
 cwR D u w (i3 i) (i3 j) (i3 l)=cwP D u w (i3 i) (i3 j) (i3 l):=by decide+kernel
def af2 (j u D:Bool) (w E H:Int):Bool:=
 decide (KC (G2 j j 0) (G2 u j w) (G2 j u (-w))<=0)&&decide (KC (G2 u j w) (G2 D j E) (G2 u D H)<=0)
def ag0 (w u j:Bool) (D E H:Int):Bool:=decide (Lq (Ug u w D) (Ug j w E) (Ug u j H)<=0)
set_option maxRecDepth 100000 in
theorem TK: ∀(D w u:Bool) (i j l:Fin 3),Jt (i3 i) (i3 j) (i3 l)=true->af2 D w u (i3 i) (i3 j) (i3 l)=ag0 D w u (i3 i) (i3 j) (i3 l):=by decide+kernel
end Go.Proofs.YtegeknjkgadehaaGreat
namespace Go.Proofs.YtegeknjkgadehaaGreat
open Go Go.RowKit
variable {k:Ci}{n x:Int}{l:Ln}{f p q t:Pt}
def pX (p:Pt):Re:=Al p.a1 p.b1 p.c
def pY (p:Pt):Re:=Al p.a2 p.b2 p.c
theorem gG (h:GP p):0<=p.c:=vF h.v
theorem qu (hp:0<=p.c) (hq:0<=q.c):cx p q=bz (pX p-pX q):=tZ hp hq
theorem OE (hp:0<=p.c) (hq:0<=q.c):cy p q=bz (pY p-pY q):=tZ hp hq
theorem Bz (hp:0<=p.c) (v:Rat):Ar p v=bz (pX p-Re.of v):=by unfold Ar;rw[iG (nO hp)];exact congrArg bz (ee fun n=>by unfold pX Al fi;simp only[bN,bt,bW,db];grind)
theorem A7 (hp:0<=p.c) (v:Rat):mA p v=bz (pY p-Re.of v):=by unfold mA;rw[iG (nO hp)];exact congrArg bz (ee fun n=>by unfold pY Al fi;simp only[bN,bt,bW,db];grind)
theorem io (hp:0<=p.c) (hq:0<=q.c):cx q p= -cx p q:=by rw[qu hp hq,qu hq hp,CV]
theorem AI (hp:0<=p.c):cx p p=0:=by rw[qu hp hp,Br]
theorem VP {A B c:Rat}(E:0<=c) (u j x y:Rat) (w:A=JS x y u j c) (D:B=Ol x y u j):
 bz (fi A B (zc B c)-(Al x u c*Al x u c+Al y j c*Al y j c))=0:=by
 subst w D
 rw[show fi (JS x y u j c) (Ol x y u j) (zc (Ol x y u j) c)=Al (JS x y u j c) (Ol x y u j) c from rfl,BI,BI,BI]
 have h:=Ef E
 have e:Re.of (JS x y u j c)+Re.of (Ol x y u j)*Re.rt c-((Re.of x+Re.of u*Re.rt c)*(Re.of x+Re.of u*Re.rt c)+(Re.of y+Re.of j*Re.rt c)*(Re.of y+Re.of j*Re.rt c))=Re.of (-(u*u+j*j))*(Re.rt c*Re.rt c-Re.of c):=ee fun n=>by unfold JS Ol;simp only[bN,bt,bW,db];grind
 rw[e,di,h,si]
def yC (k:Ci) (p:Pt):Re:=(pX p-Re.of k.x)*(pX p-Re.of k.x)+(pY p-Re.of k.y)*(pY p-Re.of k.y)-Re.of k.q
theorem EP (a b c v:Rat):Al (a-v) b c=Al a b c-Re.of v:=ee fun n=>by unfold Al fi;simp only[bN,bt,bW,db];grind
theorem YI (hp:0<=p.c):bz (fi (KU k p) (Dc k p) (zc (Dc k p) p.c))=bz (yC k p):=by refine q7 ?_;have h:=VP (A:=JS (p.a1-k.x) (p.a2-k.y) p.b1 p.b2 p.c) (B:=Dc k p) hp p.b1 p.b2 (p.a1-k.x) (p.a2-k.y) rfl rfl;rw[<-h];refine congrArg bz (ee fun n=>?_);unfold yC pX pY;rw[EP,EP];unfold KU fi;simp only[bN,bt,bW,db];grind
theorem Fa (j:s9 p.b1 p.b2 p.c=true):j7 k p= -bz (yC k p):=by unfold j7;rw[<-YI (vF j),Nl (nO (vF j))];intro u;have h:=Te j (x:=p.a1-k.x) (y:=p.a2-k.y) u;rw[show zc (Dc k p) p.c=p.c from by unfold zc;rw[if_neg u]];grind
theorem Fx (hp:GP p):j7 k p= -bz (yC k p):=Fa hp.v
theorem Gp (k:Ci) (p:Pt): -1<=j7 k p/\j7 k p<=1:=by have:=PQ (KU k p) (Dc k p) (zc (Dc k p) p.c);unfold j7;omega
def OnK (k:Ci) (p:Pt):Prop:=GP p/\j7 k p=0
theorem eC {w:Bool}:(Cv.arc k w f t).supp p=true↔j7 k p=0:=by show(j7 k p==0)=true↔_;simp
def kd (k:Ci) (p:Pt):Fin 4:=if mA p k.y>0 then 1 else if mA p k.y=0 then(if Ar p k.x>0 then 0 else 2) else 3
theorem oT (k:Ci) (p:Pt):mu k p=uK (kd k p):=by
 unfold mu kd uK;by_cases h:mA p k.y>0;·grind
 grind
section
variable {k:Ci}{p:Pt}(hq:0<k.q) (hp:OnK k p)
include hp
theorem bZ:0<=p.c:=gG hp.1
theorem zE:bz (yC k p)=0:=by have j:=Fx (k:=k) hp.1;rw[hp.2] at j;omega
include hq
theorem SN (h:mA p k.y=0):Ar p k.x≠0:=by
 intro u;rw[A7 (bZ hp)] at h;rw[Bz (bZ hp)] at u;have e:Re.of k.q=((pX p-Re.of k.x)*(pX p-Re.of k.x)+(pY p-Re.of k.y)*(pY p-Re.of k.y))+ -yC k p:=ee fun n=>by unfold yC;simp only[bN,bt,bW,db,cn];grind
 have j:bz (Re.of k.q)=0:=by rw[e,dT _ (by rw[fu,zE hp];rfl),dT _ (by rw[di,h,oL]),di,u,oL]
 rw[gI] at j;have:=jE.1 j;grind
end
theorem Aw (p:Pt):pX p.flip= -pX p:=ee fun n=>by
 show(Al (-p.a1) (-p.b1) p.c).s n=_;unfold pX Al fi;have:zc (-p.b1) p.c=zc p.b1 p.c:=by
  by_cases h:p.b1=0;·grind
  ·rw[jT h,jT (by grind)]
 simp only[bN,bW,db,cn];grind
theorem Uz (p:Pt):pY p.flip=pY p:=rfl
theorem Bg (hp:0<=p.c):Ar p.flip k.mir.x= -Ar p k.x:=by rw[Bz (show 0<=p.flip.c from hp),Bz hp,Aw,<-fu];exact congrArg bz (ee fun n=>by show _+ -(-k.x)=_;simp only[bt,db,cn];grind)
theorem B7 (k:Ci) (p:Pt):mA p.flip k.mir.y=mA p k.y:=rfl
theorem mr (hp:0<=p.c) (hq:0<=q.c):cx p.flip q.flip= -cx p q:=by rw[qu (show 0<=p.flip.c from hp) (show 0<=q.flip.c from hq),qu hp hq,Aw,Aw,<-fu];exact congrArg bz (ee fun n=>by simp only[bt,cn];grind)
theorem qF (hq:0<k.q) (hp:OnK k p):mu k.mir p.flip=uF (kd k p):=by
 have j:=Bg (k:=k) (bZ hp);have u:=SN hq hp;unfold mu kd uF;rw[j,B7];by_cases h:mA p k.y>0;·grind
 grind
theorem gg (k:Ci) (p q:Pt):f8 k p q=G2 (mu k p) (mu k q) (cx p q):=rfl
def Pa (k:Ci) (p q:Pt):Int:=Ug (mu k p) (mu k q) (cx p q)
def Zm (k:Ci) (f p q:Pt):Int:=Lq (Pa k p f) (Pa k q f) (Pa k p q)
theorem uw (k:Ci) (f p q:Pt):tU k f p q=KC (f8 k p f) (f8 k q f) (f8 k p q):=rfl
theorem fG (h: -1<=n/\n<=1): ∃i:Fin 3,n=i3 i:=by
 rcases(by omega:n= -1\/n=0\/n=1) with h|h|h;·exact⟨0,h⟩
 ·exact⟨1,h⟩
 ·exact⟨2,h⟩
theorem lJ (u:0<=f.c) (hp:0<=p.c) (w:0<=t.c):Jt (cx p f) (cx t f) (cx p t)=true:=by
 rw[qu hp u,qu w u,qu hp w];have j:pX p-pX t=(pX p-pX f)+ -(pX t-pX f):=ee fun n=>by simp only[bN,bt,cn];grind
 unfold Jt;simp only[de,tV,bne_iff_ne,beq_iff_eq];refine⟨⟨?_,?_⟩,?_⟩
 ·by_cases h:bz (pX t-pX f)=0;·right;rw[j];exact dT _ (by rw[fu,h];rfl)
  grind
 ·by_cases h:bz (pX p-pX f)=0;·right;rw[j,oX h,fu]
  grind
 ·by_cases h:bz (pX p-pX f)= -bz (pX t-pX f);·right;rw[j,lT (by rw[fu];exact h)]
  grind
theorem abn (X:Re):bz (X+X)=bz X:=lT rfl
theorem By {l:Pt}(hp:OnK k p) (hl:OnK k l) (J:mA p k.y=0) (h1:Ar p k.x>0):
 (mA l k.y=0/\Ar l k.x>0/\cx p l=0)\/(¬(mA l k.y=0/\Ar l k.x>0)/\cx p l=1):=by
 have w:=bZ hp
 have cl:=bZ hl
 rw[A7 w] at J
 rw[Bz w] at h1
 rw[A7 cl,Bz cl,qu w cl]
 generalize H:pX p-Re.of k.x=P at*
 generalize I:pX l-Re.of k.x=L at*
 generalize R:pY p-Re.of k.y=Y at*
 generalize hZ:pY l-Re.of k.y=Z at*
 have d:pX p-pX l=P-L:=by rw[<-H,<-I];exact ee fun n=>by simp only[bt];grind
 rw[d]
 have w1:yC k p=P*P+Y*Y-Re.of k.q:=by rw[<-H,<-R];rfl
 have w2:yC k l=L*L+Z*Z-Re.of k.q:=by rw[<-I,<-hZ];rfl
 have e:(P-L)*(P+L)=(Z*Z+(P*P+Y*Y-Re.of k.q))+(-(L*L+Z*Z-Re.of k.q)+ -(Y*Y)):=ee fun n=>by simp only[bN,bt,bW,db,cn];grind
 have z1:bz (-(L*L+Z*Z-Re.of k.q)+ -(Y*Y))=0:=by rw[dT _ (by rw[fu,di,J];rfl),fu,<-w2,zE hl];rfl
 have j:bz (P-L)*bz (P+L)=bz Z*bz Z:=by rw[<-di,e,dT _ z1,dT _ (by rw[<-w1];exact zE hp),di]
 have s2:(P-L)+(P+L)=P+P:=ee fun n=>by simp only[bN,bt];grind
 have W:bz (P+P)=1:=by rw[abn];have:=cZ P;omega
 have D:L=P+ -(P-L):=ee fun n=>by simp only[bN,bt,cn];grind
 have u:L= -P+(P+L):=ee fun n=>by simp only[bN,cn];grind
 rcases cZ Z with c|c|c
 ·right
  refine⟨fun h=>by omega,?_⟩
  rcases cZ (P-L) with a|a|a
  ·exact a
  ·grind
  ·exfalso
   have:bz (P+L)= -1:=by grind
   have:=lT (x:=P-L) (y:=P+L) (by omega)
   grind
 ·rw[c] at j
  rcases cZ (P-L) with a|a|a
  ·right
   have E:bz (P+L)=0:=by grind
   have:bz L= -bz P:=by rw[u,dT _ E,fu]
   omega
  ·left
   have:bz L=bz P:=by rw[D,dT _ (by rw[fu,a];rfl)]
   grind
  ·exfalso
   have E:bz (P+L)=0:=by grind
   have:=dT (P-L) E
   grind
 ·right
  refine⟨fun h=>by omega,?_⟩
  rcases cZ (P-L) with a|a|a
  ·exact a
  ·grind
  ·exfalso
   have:bz (P+L)= -1:=by grind
   have:=lT (x:=P-L) (y:=P+L) (by omega)
   grind
theorem SV (_hp:0<=p.c):bz (yC k.mir p.flip)=bz (yC k p):=by refine congrArg bz (ee fun n=>?_);unfold yC;rw[Aw,Uz];simp only[Ci.mir,bN,bt,bW,db,cn];grind
theorem OnK.flip (hp:OnK k p):OnK k.mir p.flip:=by refine⟨hp.1.flip,?_⟩;rw[Fx hp.1.flip,SV (bZ hp),zE hp];rfl
theorem Gj {l:Pt}(hp:OnK k p) (hl:OnK k l) (j:mA p k.y=0) (u:Ar p k.x<0):
 (mA l k.y=0/\Ar l k.x<0/\cx p l=0)\/(¬(mA l k.y=0/\Ar l k.x<0)/\cx p l= -1):=by
 have h:=By hp.flip hl.flip (by rw[B7];exact j) (by rw[Bg (bZ hp)];omega)
 rw[B7,Bg (bZ hl),mr (bZ hp) (bZ hl)] at h
 grind
theorem x7 (hq:0<k.q) (hp:OnK k p):(kd k p=0/\mA p k.y=0/\Ar p k.x>0)\/(kd k p=1/\mA p k.y>0)\/(kd k p=2/\mA p k.y=0/\Ar p k.x<0)\/(kd k p=3/\mA p k.y<0):=by have j:=SN hq hp;unfold kd;grind
theorem iH {l:Pt}(hq:0<k.q) (hp:OnK k p) (hl:OnK k l):mB (kd k p) (kd k l) (cx p l)=true:=by
 have R:=By hp hl;have L:=Gj hp hl;have I:=By hl hp;have J:=Gj hl hp;rw[io (bZ hp) (bZ hl)] at I J;rcases x7 hq hp with⟨D,j,E⟩|⟨D,j⟩|⟨D,j,E⟩|⟨D,j⟩<;>rcases x7 hq hl with⟨w,u,H⟩|⟨w,u⟩|⟨w,u,H⟩|⟨w,u⟩<;>rw[D,w]<;>simp[mB]
 all_goals first
  |(have h:=R j E;omega)
  |(have h:=L j E;omega)
  |(have h:=I u H;omega)
  |(have h:=J u H;omega)
theorem Fi (H:GP f) (u:GP t) (hp:GP p):(decide ((Cv.arc k false f t).ord f p<=0)&&decide ((Cv.arc k false f t).ord p t<=0))=decide (Zm k f p t<=0):=by have w:=gG H;have I:=gG u;have D:=gG hp;show(decide (tU k f f p<=0)&&decide (tU k f p t<=0))=_;have u:=lJ w D I;obtain⟨i,hi⟩:=fG (fA p f);obtain⟨j,E⟩:=fG (fA t f);obtain⟨l,hl⟩:=fG (fA p t);have h:=TK (mu k f) (mu k p) (mu k t) i j l (by rw[<-hi,<-E,<-hl];exact u);rw[<-hi,<-E,<-hl] at h;rw[uw,uw,gg,gg,gg,gg,gg,AI w,io D w];exact h
theorem LB (hq:0<k.q) (D:OnK k f) (E:OnK k t) (hp:OnK k p):(decide ((Cv.arc k true f t).ord f p<=0)&&decide ((Cv.arc k true f t).ord p t<=0))=decide (Zm k t p f<=0):=by have u:=bZ D;have H:=bZ E;have w:=bZ hp;show(decide (tU k.mir f.flip f.flip p.flip<=0)&&decide (tU k.mir f.flip p.flip t.flip<=0))=_;have h3:=lJ u w H;have R:=iH hq hp D;have W:=iH hq E D;have J:=iH hq hp E;obtain⟨i,hi⟩:=fG (fA p f);obtain⟨j,I⟩:=fG (fA t f);obtain⟨l,hl⟩:=fG (fA p t);rw[hi] at R;rw[I] at W;rw[hl] at J;have h:=Vb (kd k f) (kd k p) (kd k t) i j l (by rw[<-hi,<-I,<-hl];exact h3) R W J;rw[<-hi,<-I,<-hl] at h;unfold cwR cwP at h;rw[uw,uw,gg,gg,gg,gg,gg,mr u u,mr w u,mr u w,mr H u,mr w H,AI u,io w u,Int.neg_zero,Int.neg_neg,qF hq D,qF hq hp,qF hq E,h];unfold Zm Pa;rw[io H u,oT,oT,oT]
theorem Qv (a b c:Rat):dw a b c<=du a b c:=by
 cases h:dD a b c with
 |true=>have hi:=Jf h;exact rO.1 (yP (afi hi.1 hi.2))
 |false=>rw[(pS h).1,(pS h).2];exact p7 _
theorem Pi (a b c:Rat):Bd (dw a b c)/\Bd (du a b c):=by
 cases h:dD a b c with
 |false=>rw[(pS h).1,(pS h).2];exact⟨Bd.zero,Bd.zero⟩
 |true=>
  have w:=Qv a b c;have j:=h;unfold dD WG at j;simp only[de,tV] at j;unfold dw du at*;rw[if_pos h,if_pos h] at*;have u:=Ep j.1;split;·exact⟨⟨u.1,u.2.1⟩,u.2.2⟩
  ·rename_i g;rw[if_neg g,if_neg g] at w;have D:=MX (j.2.resolve_left g).2.2.2.2;unfold Bd;omega
theorem XQ (a b c:Rat):Bd (dw a b c):=(Pi a b c).1
theorem YV (a b c:Rat):Bd (du a b c):=(Pi a b c).2
theorem Bd.neg (h:Bd x):Bd (-x):=by unfold Bd at*;omega
theorem KQ {lo hi:Int}{X:Re}(h:rA lo hi X):rA (-hi) (-lo) (-X):=by
 refine⟨qU (fun k=>?_) h.2,qU (fun k=>?_) h.1⟩;·simp only[bt,bW,db,cn,Rat.intCast_neg];grind
 ·simp only[bt,bW,db,cn,Rat.intCast_neg];grind
theorem ZI {y:Int}(h:x<=y): -y<= -x:=by omega
def Ag (a b c v:Rat):Bool:=dD a b c&&gV v
def Er (a b c v:Rat):Int:=if Ag a b c v then aL (dw a b c) (du a b c) (-gH v) (-gL v) else 0
def DJ (a b c v:Rat):Int:=if Ag a b c v then aH (dw a b c) (du a b c) (-gH v) (-gL v) else 0
def Jy (a b c v:Rat):Bool:=Ag a b c v&&tp (dw a b c+ -gH v) (du a b c+ -gL v)
section
variable {a b c v:Rat}
theorem Dx (h:Ag a b c v=false):Er a b c v=0/\DJ a b c v=0/\Jy a b c v=false:=by unfold Er DJ Jy;rw[h];exact⟨rfl,rfl,rfl⟩
theorem Fq (h:Ag a b c v=true):Er a b c v=aL (dw a b c) (du a b c) (-gH v) (-gL v)/\DJ a b c v=aH (dw a b c) (du a b c) (-gH v) (-gL v)/\Jy a b c v=tp (dw a b c+ -gH v) (du a b c+ -gL v):=by unfold Er DJ Jy;rw[h];exact⟨rfl,rfl,rfl⟩
theorem Gm (a b c v:Rat):Bd (Er a b c v):=by
 unfold Er;split;·exact Ia (Qv _ _ _) (ZI (Dt _))
 ·exact Bd.zero
theorem Gr (a b c v:Rat):Bd (DJ a b c v):=by
 unfold DJ;split;·exact HN (Qv _ _ _) (ZI (Dt _))
 ·exact Bd.zero
theorem YD (h:Jy a b c v=true):rA (Er a b c v) (DJ a b c v) (fi a b c+ -Re.of v):=by have D:=h;unfold Jy at h;rw[de] at h;obtain⟨w,u,_⟩:=Fq h.1;rw[w,u];have j:=h.1;unfold Ag at j;rw[de] at j;exact Ix (Jf j.1) (KQ (C9 j.2)) h.2
end
section
variable (k:Ci) (p:Pt)
def RE:Int:=pL (Er p.a1 p.b1 p.c k.x) (DJ p.a1 p.b1 p.c k.x) (Er p.a1 p.b1 p.c k.x) (DJ p.a1 p.b1 p.c k.x)
def PX:Int:=pH (Er p.a1 p.b1 p.c k.x) (DJ p.a1 p.b1 p.c k.x) (Er p.a1 p.b1 p.c k.x) (DJ p.a1 p.b1 p.c k.x)
def Xx:Bool:=wT (Er p.a1 p.b1 p.c k.x) (DJ p.a1 p.b1 p.c k.x) (Er p.a1 p.b1 p.c k.x) (DJ p.a1 p.b1 p.c k.x) 4
def TO:Int:=pL (Er p.a2 p.b2 p.c k.y) (DJ p.a2 p.b2 p.c k.y) (Er p.a2 p.b2 p.c k.y) (DJ p.a2 p.b2 p.c k.y)
def TB:Int:=pH (Er p.a2 p.b2 p.c k.y) (DJ p.a2 p.b2 p.c k.y) (Er p.a2 p.b2 p.c k.y) (DJ p.a2 p.b2 p.c k.y)
def aa2:Bool:=wT (Er p.a2 p.b2 p.c k.y) (DJ p.a2 p.b2 p.c k.y) (Er p.a2 p.b2 p.c k.y) (DJ p.a2 p.b2 p.c k.y) 4
def smL:Int:=aL (RE k p) (PX k p) (TO k p) (TB k p)
def smH:Int:=aH (RE k p) (PX k p) (TO k p) (TB k p)
def smK:Bool:=tp (RE k p+TO k p) (PX k p+TB k p)
def rsL:Int:=aL (smL k p) (smH k p) (-gH k.q) (-gL k.q)
def rsH:Int:=aH (smL k p) (smH k p) (-gH k.q) (-gL k.q)
def rsK:Bool:=tp (smL k p+ -gH k.q) (smH k p+ -gL k.q)
def Uk:Bool:=Jy p.a1 p.b1 p.c k.x&&(Jy p.a2 p.b2 p.c k.y&&gV k.q)
def K9:Bool:=Uk k p&&(Xx k p&&aa2 k p)
def Jw:Bool:=K9 k p&&smK k p
def Db:Bool:=Jw k p&&rsK k p
def Y8:Bool:=Db k p&&J7 (rsL k p) (rsH k p)
def YY:Int:=if Db k p then KB (rsL k p) (rsH k p) else 0
end
section
variable {k:Ci}{p:Pt}
theorem pt (h:Db k p=false):YY k p=0/\Y8 k p=false:=by unfold YY Y8;rw[h];exact⟨rfl,rfl⟩
theorem JW (h:Db k p=true):YY k p=KB (rsL k p) (rsH k p)/\Y8 k p=J7 (rsL k p) (rsH k p):=by unfold YY Y8;rw[h];exact⟨rfl,rfl⟩
theorem v3z {a b c:Rat}:fi a b (zc b c)=fi a b c:=ee fun n=>by
 unfold fi zc;by_cases h:b=0;·subst h;simp only[bN,bW,db];grind
 ·rw[if_neg h]
theorem We (h:Y8 k p=true):YY k p=bz (yC k p):=by unfold Y8 at h;rw[de] at h;obtain⟨j,hs⟩:=h;rw[(JW j).1];unfold Db Jw K9 Uk at j;simp only[de] at j;obtain⟨⟨⟨⟨W,I,H⟩,k4,J⟩,E⟩,u⟩:=j;have i1:=YD W;have i2:=YD I;have w:rA (RE k p) (PX k p) _:=Km i1 i1 k4;have R:rA (TO k p) (TB k p) _:=Km i2 i2 J;have j3:rA (smL k p) (smH k p) _:=Ix w R E;have D:rA (rsL k p) (rsH k p) _:=Ix j3 (KQ (C9 H)) u;rw[FO D hs];refine congrArg bz (ee fun n=>?_);unfold yC pX pY Al;rw[v3z,v3z];simp only[bN,bt,bW,db,cn]
theorem M4:Bd (RE k p)/\Bd (PX k p):=⟨B3 _ _ _ _,Ba _ _ _ _⟩
theorem Lz:Bd (TO k p)/\Bd (TB k p):=⟨B3 _ _ _ _,Ba _ _ _ _⟩
theorem SO:Bd (smL k p)/\Bd (smH k p):=⟨Ia (y7 _ _ _ _) (y7 _ _ _ _),HN (y7 _ _ _ _) (y7 _ _ _ _)⟩
theorem acI (j:s9 p.b1 p.b2 p.c=true) (h:Y8 k p=true): -YY k p=j7 k p:=by rw[We h,Fa j]
theorem aet (j:s9 p.b1 p.b2 p.c=true): -bU (KU k p) (Dc k p) p.c=j7 k p:=by rw[iG (vF j),Fa j,<-YI (vF j),v3z]
end
def Dh (l:Ln) (p:Pt):Re:=Re.of l.a*pX p+Re.of l.b*pY p-Re.of l.c
theorem Sk:fi (vA l p) (vB l p) p.c=Dh l p:=ee fun n=>by unfold Dh pX pY Al;rw[v3z,v3z];unfold fi vA vB;simp only[bN,bt,bW,db];grind
theorem Ge (D:s9 p.b1 p.b2 p.c=true):jz l p=bz (Dh l p):=by
 have H:=vF D;unfold jz;by_cases u:vB l p=0
 ·rw[JZ (.inl u),JI (.inl u),Nl (by decide) (fun h=>absurd rfl h),<-Sk];refine congrArg bz (ee fun n=>?_);unfold fi;simp only[bN,bW,db];grind
 ·have j:0<p.c/\jB p.c=false:=by
   unfold s9 at D;split at D
   ·rename_i e;exact absurd (by unfold vB;rw[e.1,e.2];grind) u
   grind
  have w:p.c≠0:=by have:=j.1;grind
  have I:rB (vB l p) p.c=vB l p:=by unfold rB;rw[if_neg (by rintro(h|h);exact u h;exact w h)]
  have E:rC (vB l p) p.c=p.c:=by unfold rC;rw[if_neg (by rintro(h|h);exact u h;exact w h)]
  rw[I,E,Nl H (fun _=>j),Sk]
theorem Cz (hp:GP p):jz l p=bz (Dh l p):=Ge hp.v
theorem aal (j:s9 p.b1 p.b2 p.c=true):bU (vA l p) (vB l p) p.c=jz l p:=by rw[iG (vF j),Sk,Ge j]
theorem M2 (l:Ln) (p:Pt): -1<=jz l p/\jz l p<=1:=PQ _ _ _
def Ac (n a b c:Rat):Bool:=dD a b c&&gV n
def Jz (n a b c:Rat):Int:=if Ac n a b c then pL (gL n) (gH n) (dw a b c) (du a b c) else 0
def Js (n a b c:Rat):Int:=if Ac n a b c then pH (gL n) (gH n) (dw a b c) (du a b c) else 0
def JA (n a b c:Rat):Bool:=Ac n a b c&&wT (gL n) (gH n) (dw a b c) (du a b c) 4
section
variable {n a b c:Rat}
theorem Ev (h:Ac n a b c=false):Jz n a b c=0/\Js n a b c=0/\JA n a b c=false:=by unfold Jz Js JA;rw[h];exact⟨rfl,rfl,rfl⟩
theorem EW (h:Ac n a b c=true):Jz n a b c=pL (gL n) (gH n) (dw a b c) (du a b c)/\Js n a b c=pH (gL n) (gH n) (dw a b c) (du a b c)/\JA n a b c=wT (gL n) (gH n) (dw a b c) (du a b c) 4:=by unfold Jz Js JA;rw[h];exact⟨rfl,rfl,rfl⟩
theorem R9 (n a b c:Rat):Bd (Jz n a b c):=by
 unfold Jz;split;·exact B3 _ _ _ _
 ·exact Bd.zero
theorem PR (n a b c:Rat):Bd (Js n a b c):=by
 unfold Js;split;·exact Ba _ _ _ _
 ·exact Bd.zero
theorem Nd (n a b c:Rat):Jz n a b c<=Js n a b c:=by
 unfold Jz Js;split;·exact y7 _ _ _ _
 ·exact p7 _
theorem Zv (h:JA n a b c=true):rA (Jz n a b c) (Js n a b c) (Re.of n*fi a b c):=by unfold JA at h;rw[de] at h;obtain⟨w,u,_⟩:=EW h.1;rw[w,u];have j:=h.1;unfold Ac at j;rw[de] at j;exact Km (C9 j.2) (Jf j.1) h.2
end
section
variable (l:Ln) (p:Pt)
def lsL:Int:=aL (Jz l.a p.a1 p.b1 p.c) (Js l.a p.a1 p.b1 p.c) (Jz l.b p.a2 p.b2 p.c) (Js l.b p.a2 p.b2 p.c)
def lsH:Int:=aH (Jz l.a p.a1 p.b1 p.c) (Js l.a p.a1 p.b1 p.c) (Jz l.b p.a2 p.b2 p.c) (Js l.b p.a2 p.b2 p.c)
def lsK:Bool:=tp (Jz l.a p.a1 p.b1 p.c+Jz l.b p.a2 p.b2 p.c) (Js l.a p.a1 p.b1 p.c+Js l.b p.a2 p.b2 p.c)
def lrL:Int:=aL (lsL l p) (lsH l p) (-gH l.c) (-gL l.c)
def lrH:Int:=aH (lsL l p) (lsH l p) (-gH l.c) (-gL l.c)
def lrK:Bool:=tp (lsL l p+ -gH l.c) (lsH l p+ -gL l.c)
def Ul:Bool:=JA l.a p.a1 p.b1 p.c&&(JA l.b p.a2 p.b2 p.c&&gV l.c)
def OX:Bool:=Ul l p&&lsK l p
def G8:Bool:=OX l p&&lrK l p
def lqK:Bool:=G8 l p&&J7 (lrL l p) (lrH l p)
def lqS:Int:=if G8 l p then KB (lrL l p) (lrH l p) else 0
end
section
variable {l:Ln}{p:Pt}
theorem vD (h:G8 l p=false):lqS l p=0/\lqK l p=false:=by unfold lqS lqK;rw[h];exact⟨rfl,rfl⟩
theorem JX (h:G8 l p=true):lqS l p=KB (lrL l p) (lrH l p)/\lqK l p=J7 (lrL l p) (lrH l p):=by unfold lqS lqK;rw[h];exact⟨rfl,rfl⟩
theorem Su:Bd (lsL l p)/\Bd (lsH l p):=⟨Ia (Nd _ _ _ _) (Nd _ _ _ _),HN (Nd _ _ _ _) (Nd _ _ _ _)⟩
theorem UK (u:s9 p.b1 p.b2 p.c=true) (h:lqK l p=true):lqS l p=jz l p:=by unfold lqK at h;rw[de] at h;obtain⟨j,hs⟩:=h;rw[(JX j).1];unfold G8 OX Ul at j;simp only[de] at j;obtain⟨⟨⟨w,E,H⟩,J⟩,I⟩:=j;have R:rA (lsL l p) (lsH l p) _:=Ix (Zv w) (Zv E) J;have D:rA (lrL l p) (lrH l p) _:=Ix R (KQ (C9 H)) I;rw[FO D hs,Ge u];refine congrArg bz (ee fun n=>?_);unfold Dh pX pY Al;rw[v3z,v3z];simp only[bN,bt,bW,db,cn]
end
end Go.Proofs.YtegeknjkgadehaaGreat
