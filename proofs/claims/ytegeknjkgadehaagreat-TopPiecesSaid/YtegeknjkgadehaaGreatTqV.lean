/-A run on known values:what its small parts come to. -/
import Derived.Test.YtegeknjkgadehaaGreatTqU
namespace Go.Proofs.YtegeknjkgadehaaGreat
open Go Go.RowKit
noncomputable section
variable {a:Act}{ps:Array (Nat×Operand)}{first ys:Array Operand}{ats:Array TypeId}{args cs:Array Value}{op:BinOp}{ex q:Bool}{k' k0 kM kh:IntKind}{f:IntKind->Int->Int->Option AV}{qs:List (Nat×Nat×XO)}{cs0 zs:List AV}{xs:List XO}{vs:List XV}{by_ c h j k l ls n o' off sz:Nat}{β:Nat->Pl}{A V Z:Nat->Prop}{fo y z zM zh:Operand}{b:Option Addr}{hi lo:Option Operand}{hi' lo':Option XO}{d r:Rp}{U e s t xt yt:TypeId}{v:Value}{w w':World}{xo yo:XO}{x:XV}
theorem tQ:type_of% @RdAs.append:=@RdAs.append
theorem ra:type_of% @Nat.le_succ:=@Nat.le_succ
theorem wH:type_of% @List.drop_take:=@List.drop_take
theorem CL:type_of% @List.drop_of_length_le:=@List.drop_of_length_le
section
variable {α β:Type}
theorem aE {x:Option α}{f:α->Option β}{y:β}(h:oO x f=some y): ∃v,x=some v/\f v=some y:=by
 cases x with
 |none=>cases h
 |some v=>exact⟨v,rfl,h⟩
theorem bD {b:Bool}{x:Option β}{y:β}(h:bT b x=some y):b=true/\x=some y:=by
 cases b with
 |false=>cases h
 |true=>exact⟨rfl,h⟩
theorem iM (b:Bool) (x y:β):bI b x y=if b=true then x else y:=by cases b<;>rfl
theorem Qs (a b:Bool):bA a b=(a&&b):=by cases a<;>rfl
theorem iS {f:AV->Option β}{y:β}(h:xC x f=some y): ∃a,x=.c a/\f a=some y:=by
 cases x with
 |c a=>exact⟨a,rfl,h⟩
 |_=>cases h
theorem Y4 {f:List XD->Option β}{y:β}(h:xT x f=some y): ∃D,x=.t D/\f D=some y:=by
 cases x with
 |t D=>exact⟨D,rfl,h⟩
 |_=>cases h
theorem BH {x:AV}{f:Bool->Option β}{y:β}(h:aB x f=some y): ∃b,x=.b b/\f b=some y:=by
 cases x with
 |b v=>exact⟨v,rfl,h⟩
 |_=>cases h
theorem Xi {x:AV}{f:IntKind->Int->Option β}{y:β}(h:aI x f=some y): ∃k n,x=.i k n/\f k n=some y:=by
 cases x with
 |i k n=>exact⟨k,n,rfl,h⟩
 |_=>cases h
theorem YW {x:AV}{f:Nat->Nat->Option β}{y:β}(h:aP x f=some y): ∃k off,x=.p k off/\f k off=some y:=by
 cases x with
 |p k off=>exact⟨k,off,rfl,h⟩
 |_=>cases h
theorem ll {x:AV}{f:Nat->Nat->Nat->Nat->Bool->Nat->Option β}{z ev:Option β}{y:β}(h:aS x f z ev=some y):(∃k off n lo ex m,x=.s k off n lo ex m/\f k off n lo ex m=some y)\/(x=.z/\z=some y)\/(x=.ev/\ev=some y):=by
 cases x with
 |s k off n lo ex m=>exact .inl ⟨k,off,n,lo,ex,m,rfl,h⟩
 |z=>exact .inr (.inl ⟨rfl,h⟩)
 |ev=>exact .inr (.inr ⟨rfl,h⟩)
 |_=>cases h
theorem VH {i:Int}{f:Nat->Option β}{y:β}(h:xnI i f=some y): ∃n:Nat,i=(n:Int)/\f n=some y:=by
 cases i with
 |ofNat n=>exact⟨n,rfl,h⟩
 |negSucc n=>cases h
theorem tq {f:Bool->Option β}{y:β}(h:xB x f=some y): ∃b,x=.c (.b b)/\f b=some y:=by obtain⟨a,rfl,h⟩:=iS h;obtain⟨b,rfl,h⟩:=BH h;grind
theorem mA {f:IntKind->Int->Option β}{y:β}(h:xI x f=some y): ∃k n,x=.c (.i k n)/\f k n=some y:=by obtain⟨a,rfl,h⟩:=iS h;obtain⟨k,n,rfl,h⟩:=Xi h;grind
theorem qI {f:Nat->Nat->Option β}{y:β}(h:xP x f=some y): ∃k off,x=.c (.p k off)/\f k off=some y:=by obtain⟨a,rfl,h⟩:=iS h;obtain⟨k,n,rfl,h⟩:=YW h;grind
theorem s7 {f:Nat->Option β}{y:β}(h:xN x f=some y): ∃(k:IntKind) (n:Nat),x=.c (.i k (n:Int))/\f n=some y:=by obtain⟨k,i,rfl,h⟩:=mA h;obtain⟨n,rfl,h⟩:=VH h;grind
def XV.rp (x:XV):Option (Nat×Rp):=match x with
 |XV.c y=>some (1,Rp.c y)
 |XV.a n r=>some (n,r)
 |XV.t _=>none
 |XV.u=>none
theorem GJ {f:Nat->Rp->Option β}{y:β}(h:xD x f=some y): ∃n r,x.rp=some (n,r)/\f n r=some y:=by
 cases x with
 |c a=>exact⟨1,.c a,rfl,h⟩
 |a n r=>exact⟨n,r,rfl,h⟩
 |_=>cases h
theorem Tr.get_n (l:Tr α) (v:Option α) (r:Tr α) (k:Nat):(Tr.n l v r).get k=if k=0 then v else if k%2=1 then l.get (k/2) else r.get (k/2):=by
 show @Bool.rec (fun _=>Option α) (@Bool.rec (fun _=>Option α) (r.get (k/2)) (l.get (k/2)) (Nat.beq (k%2) 1)) v (Nat.beq k 0)=_;by_cases h:k=0;·simp_all
 .have h1:Nat.beq k 0=false:=by
   cases I:Nat.beq k 0 with
   |false=>rfl
   |true=>exact absurd (dF I) h
  rw[h1,if_neg h]
  by_cases D:k%2=1
  .rw[if_pos D,D];rfl
  .have J:Nat.beq (k%2) 1=false:=by
    cases I:Nat.beq (k%2) 1 with
    |false=>rfl
    |true=>exact absurd (dF I) D
   rw[J,if_neg D]
theorem I4 {D:Type}(b:Bool) (x y:D): @Bool.rec (fun _=>D) x y b=if b=true then y else x:=by cases b<;>rfl
theorem sK {D:Type}(k l:Nat) (x y:D): @Bool.rec (fun _=>D) x y (Nat.beq k l)=if k=l then y else x:=by
 rw[I4];by_cases h:k=l;·simp_all
 .simp_all
theorem Tr.one_get {v x:α}: ∀(f k k':Nat),(Tr.one v f k).get k'=some x->k'=k/\x=v:=by
 intro f;induction f with
 |zero=>intro k k' h;cases h
 |succ f J=>
  intro k k' h;have h:(@Bool.rec (fun _=>Tr α) (@Bool.rec (fun _=>Tr α) (.n .e none (Tr.one v f (k/2))) (.n (Tr.one v f (k/2)) none .e) (Nat.beq (k%2) 1)) (.n .e (some v) .e) (Nat.beq k 0)).get k'=some x:=h;rw[sK,sK] at h;split at h
  .rename_i I;rw[Tr.get_n] at h;split at h;·grind
   .split at h<;>cases h
  .rename_i I;split at h
   .rename_i D;rw[Tr.get_n] at h;split at h;·cases h
    .split at h;·grind
     .cases h
   .rename_i D;rw[Tr.get_n] at h;split at h;·cases h
    .split at h;·cases h
     grind
theorem Tr.set_get {v x:α}: ∀(t:Tr α) (k k':Nat),(t.set v k).get k'=some x->(k'=k/\x=v)\/(k'≠k/\t.get k'=some x):=by
 intro t;induction t with
 |e=>intro k k' h;exact .inl (Tr.one_get 40 k k' h)
 |n l o r J R=>
  intro k k' h;have h:(@Bool.rec (fun _=>Tr α) (@Bool.rec (fun _=>Tr α) (.n l o (r.set v (k/2))) (.n (l.set v (k/2)) o r) (Nat.beq (k%2) 1)) (.n l (some v) r) (Nat.beq k 0)).get k'=some x:=h;rw[sK,sK] at h;rw[Tr.get_n];split at h
  .rename_i I;rw[Tr.get_n] at h;grind
  .rename_i I;split at h
   .rename_i D;rw[Tr.get_n] at h;grind
   .rename_i D;rw[Tr.get_n] at h;grind
theorem Tr.del_get {x:α}: ∀(t:Tr α) (k k':Nat),(t.del k).get k'=some x->k'≠k/\t.get k'=some x:=by
 intro t;induction t with
 |e=>intro k k' h;cases h
 |n l o r J R=>
  intro k k' h;have h:(@Bool.rec (fun _=>Tr α) (@Bool.rec (fun _=>Tr α) (.n l o (r.del (k/2))) (.n (l.del (k/2)) o r) (Nat.beq (k%2) 1)) (.n l none r) (Nat.beq k 0)).get k'=some x:=h;rw[sK,sK] at h;rw[Tr.get_n];split at h
  .rename_i I;rw[Tr.get_n] at h;grind
  .rename_i I;split at h
   .rename_i D;rw[Tr.get_n] at h;grind
   .rename_i D;rw[Tr.get_n] at h;grind
theorem CE {x:α}: ∀(l:List (Nat×α)) (k:Nat),(SO l).get k=some x->(k,x)∈l
 |[],k,h=>by cases h
 |(j,v)::r,k,h=>by
  rcases Tr.set_get (SO r) j k h with⟨e1,D⟩|⟨_,h⟩;·subst e1 D;exact fC ..
  .exact fv _ (CE r k h)
end
def Rp.ok:Rp->Prop
 | .e=>True
 | .c _=>True
 | .n ls pu l r=>ls=l.flat.length/\l.ok/\r.ok/\(pu=true-> ∀x∈l.flat++r.flat,puA x=true)
theorem CZ: ∀ {r:Rp},r.ok->puR r=true-> ∀x∈r.flat,puA x=true
 | .e,_,_,x,hx=>by cases hx
 | .c y,_,h,x,hx=>by
   have:x=y:=by simpa [Rp.flat] using hx
   subst this;exact h
 | .n ls pu l r,ho,h,x,hx=>ho.2.2.2 h x hx
theorem zr {l:Rp}(h:ls=l.flat.length) (hl:l.ok) (J:r.ok):(QS ls l r).ok:=by
 refine⟨h,hl,J,fun I x D=>?_⟩;rw[Qs,di] at I;rcases lh.1 D with D|D;·exact CZ hl I.1 x D
 .exact CZ J I.2 x D
theorem j8 {l:Rp}(h:ls=l.flat.length) (hl:l.ok) (D:r.ok):(iX ls l r).ok/\(iX ls l r).flat=l.flat++r.flat:=by
 cases l with
 |e=>exact⟨D,rfl⟩
 |c x=>
  cases r with
  |e=>exact⟨hl,by simp[Rp.flat];rfl⟩
  |c y=>exact⟨zr h hl D,rfl⟩
  |n _ _ _ _=>exact⟨zr h hl D,rfl⟩
 |n a b c d=>
  cases r with
  |e=>exact⟨hl,by show(Rp.n a b c d).flat=(Rp.n a b c d).flat++[];simp⟩
  |c y=>exact⟨zr h hl D,rfl⟩
  |n _ _ _ _=>exact⟨zr h hl D,rfl⟩
theorem eL {a b:Nat}:Nat.ble a b=true↔a<=b:=by rw[Nat.ble_eq]
theorem kn: ∀(r:Rp) (D off n:Nat),r.ok->D=r.flat.length->off+n<=D->(iY r D off n).ok/\(iY r D off n).flat=(r.flat.drop off).take n:=by
 intro r;induction r with
 |e=>intro D off n _ ht h;exact⟨trivial,by simp[iY,Rp.flat]⟩
 |c x=>
  intro D off n _ ht h;simp[Rp.flat] at ht;show(bI (Nat.beq n 0) Rp.e (.c x)).ok/\(bI (Nat.beq n 0) Rp.e (.c x)).flat=([x].drop off).take n;by_cases hn:n=0;·subst hn;exact⟨trivial,by simp[bI,Rp.flat]⟩
  .have h1:n=1:=by omega
   have J:off=0:=by omega
   subst h1 J;exact⟨trivial,rfl⟩
 |n ls pu l r a4 a3=>
  intro D off n ho ht h;obtain⟨h1,J,h3,h4⟩:=ho;have a5:D=l.flat.length+r.flat.length:=by rw[ht];simp[Rp.flat]
  show(bI (Nat.beq n D) (Rp.n ls pu l r) (bI (Nat.ble (off+n) ls) (iY l ls off n) (bI (Nat.ble ls off) (iY r (D-ls) (off-ls) n) (iX (ls-off) (iY l ls off (ls-off)) (iY r (D-ls) 0 (off+n-ls)))))).ok/\
   (bI (Nat.beq n D) (Rp.n ls pu l r) (bI (Nat.ble (off+n) ls) (iY l ls off n) (bI (Nat.ble ls off) (iY r (D-ls) (off-ls) n) (iX (ls-off) (iY l ls off (ls-off)) (iY r (D-ls) 0 (off+n-ls)))))).flat=_
  rw[iM,iM,iM];show _/\_=((l.flat++r.flat).drop off).take n;split
  .rename_i I;have:=dF I;have h0:off=0:=by omega
   subst h0;refine⟨⟨h1,J,h3,h4⟩,?_⟩;show l.flat++r.flat=_;rw[mU,dS (by simp;omega)]
  .split
   .rename_i I;rw[eL] at I;obtain⟨g1,W⟩:=a4 ls off n J h1 I;refine⟨g1,?_⟩;rw[W,xa (by omega),wt (by simp;omega)]
   .rename_i I;rw[eL] at I;split
    .rename_i hc;rw[eL] at hc;obtain⟨g1,W⟩:=a3 (D-ls) (off-ls) n h3 (by omega) (by omega);refine⟨g1,?_⟩;rw[W,List.drop_append,CL (i:=off) (by omega),qZ,h1]
    .rename_i hc;rw[eL] at hc;obtain⟨g1,W⟩:=a4 ls off (ls-off) J h1 (by omega);obtain⟨k1,k2⟩:=a3 (D-ls) 0 (off+n-ls) h3 (by omega) (by omega);have R:ls-off=(iY l ls off (ls-off)).flat.length:=by grind
     obtain⟨j1,j2⟩:=j8 R g1 k1;rw[j2,W,k2,xa (by omega),List.take_append,dS (by simp;omega),dS (l:=l.flat.drop off) (by simp;omega)];grind
theorem vO (hd:d.ok): ∀(r:Rp) (D off n:Nat),r.ok->D=r.flat.length->n=d.flat.length->off+n<=D->(mQ d r D off n).ok/\(mQ d r D off n).flat=r.flat.take off++d.flat++r.flat.drop (off+n):=by
 intro r;induction r with
 |e=>intro D off n _ ht hn h;simp[Rp.flat] at ht;have:d.flat=[]:=jM.1 (by omega);exact⟨trivial,by simp[mQ,Rp.flat,this]⟩
 |c x=>
  intro D off n _ ht hn h;simp[Rp.flat] at ht;show(bI (Nat.beq n 0) (.c x) d).ok/\(bI (Nat.beq n 0) (.c x) d).flat=[x].take off++d.flat++[x].drop (off+n);by_cases h0:n=0
  .subst h0;have:d.flat=[]:=jM.1 (by omega);refine⟨trivial,?_⟩;rw[this];show[x]=_;simp
  .have h1:n=1:=by omega
   have W:off=0:=by omega
   rw[h1,W];exact⟨hd,by show d.flat=_;simp⟩
 |n ls pu l r a3 a4=>
  intro D off n ho ht hn h;obtain⟨h1,W,h3,h4⟩:=ho;have a5:D=l.flat.length+r.flat.length:=by rw[ht];simp[Rp.flat]
  show(bI (Nat.beq n D) d (bI (Nat.ble (off+n) ls) (QS ls (mQ d l ls off n) r) (bI (Nat.ble ls off) (QS ls l (mQ d r (D-ls) (off-ls) n)) (iX off (iY l ls 0 off) (iX n d (iY r (D-ls) (off+n-ls) (D-(off+n)))))))).ok/\
   (bI (Nat.beq n D) d (bI (Nat.ble (off+n) ls) (QS ls (mQ d l ls off n) r) (bI (Nat.ble ls off) (QS ls l (mQ d r (D-ls) (off-ls) n)) (iX off (iY l ls 0 off) (iX n d (iY r (D-ls) (off+n-ls) (D-(off+n)))))))).flat=_
  rw[iM,iM,iM];show _/\_=(l.flat++r.flat).take off++d.flat++(l.flat++r.flat).drop (off+n);split
  .rename_i R;have:=dF R;have h0:off=0:=by omega
   subst h0;refine⟨hd,?_⟩;rw[List.take_zero,CL (by simp;omega)];simp
  .split
   .rename_i R;rw[eL] at R;obtain⟨g1,J⟩:=a3 ls off n W h1 hn R;have I:ls=(mQ d l ls off n).flat.length:=by rw[J];simp;omega
    refine⟨zr I g1 h3,?_⟩;show(mQ d l ls off n).flat++r.flat=_;rw[J,wt (by omega),xa (by omega)];simp
   .rename_i R;rw[eL] at R;split
    .rename_i hc;rw[eL] at hc;obtain⟨g1,J⟩:=a4 (D-ls) (off-ls) n h3 (by omega) hn (by omega);refine⟨zr h1 W g1,?_⟩;show l.flat++(mQ d r (D-ls) (off-ls) n).flat=_;rw[J,List.take_append,dS (i:=off) (by omega),List.drop_append,CL (i:=off+n) (by omega)];simp only[qZ,oE,h1];congr 3;rw[show off+n-l.flat.length=off-l.flat.length+n by omega]
    .rename_i hc;rw[eL] at hc;obtain⟨g1,J⟩:=kn l ls 0 off W h1 (by omega);obtain⟨k1,k2⟩:=kn r (D-ls) (off+n-ls) (D-(off+n)) h3 (by omega) (by omega);obtain⟨j1,j2⟩:=j8 hn hd k1;have I:off=(iY l ls 0 off).flat.length:=by grind
     obtain⟨i1,i2⟩:=j8 I g1 j1;refine⟨i1,?_⟩;rw[i2,j2,J,k2,mU,wt (by omega),List.drop_append,CL (i:=off+n) (by omega),qZ,dS (l:=r.flat.drop (off+n-ls)) (by simp;omega),h1];simp
theorem sn: ∀(r:Rp) (off:Nat),r.ok->rg r off=r.flat[off]? :=by
 intro r;induction r with
 |e=>intro off _;simp[rg,Rp.flat]
 |c x=>
  intro off _;show @Bool.rec (fun _=>Option AV) none (some x) (Nat.beq off 0)=[x][off]?;rw[sK];split;·grind
  grind
 |n ls pu l r I R=>
  intro off J;obtain⟨h1,W,h3,_⟩:=J;show @Bool.rec (fun _=>Option AV) (rg r (off-ls)) (rg l off) (Nat.blt off ls)=(l.flat++r.flat)[off]?;rw[I4];split
  .rename_i D;rw[dj] at D;grind
  .rename_i D;rw[dj] at D;grind
theorem nF: ∀(l:List AV),(vV l).ok/\(vV l).flat=l
 |[]=>⟨trivial,rfl⟩
 |x::l=>by obtain⟨h1,D⟩:=nF l;have:=j8 (ls:=1) (l:=.c x) rfl trivial h1;refine⟨this.1,?_⟩;show(iX 1 (.c x) (vV l)).flat=_;rw[this.2,D];rfl
def Aq (zs:List AV):Nat->List AV
 |0=>[]
 |n+1=>zs++Aq zs n
theorem u7 (zs:List AV): ∀n,(Aq zs n).length=n*zs.length
 |0=>by simp[Aq]
 |n+1=>by rw[Aq,dB,u7 zs n,Nat.succ_mul,Nat.add_comm]
theorem rQ {m:Nat}{z:Rp}(hm:m=z.flat.length) (D:z.ok): ∀n,(rn m z n).ok/\(rn m z n).flat=Aq z.flat n
 |0=>⟨trivial,rfl⟩
 |n+1=>by obtain⟨h1,I⟩:=rQ hm D n;have:=j8 hm D h1;refine⟨this.1,?_⟩;show(iX m z (rn m z n)).flat=_;rw[this.2,I];rfl
def TS (m:Nat) (L:LX) (T:Tr XV):TX:=fun t=>bif m.testBit t then Ff t L else T.get t
def HS (H:Tr Bx):HF:=fun k=>(H.get k).map fun b=>(b.U,b.r.flat)
def jJ (H:Tr Bx):Prop:= ∀k b,H.get k=some b->b.r.ok/\b.n=b.r.flat.length
def jN (N:Nat) (H:Tr Bx):Prop:= ∀k b,H.get k=some b->k<N
def CB:XD->Prop
 | .c _=>True
 | .a n r=>r.ok/\n=r.flat.length
def Bc:XV->Prop
 | .c _=>True
 | .a n r=>r.ok/\n=r.flat.length
 | .t ds=> ∀d∈ds,CB d
 | .u=>True
def l6 (T:TX):Prop:= ∀t x,T t=some x->Bc x
def e0:HF:=fun _=>none
section
variable {P:Program}{eO:Array Oper}{o:Oper}{TT:TX}{m N:Nat}{L:LX}{T:Tr XV}{H:Tr Bx}{x:XV}
def agQ (P:Program) (eO:Array Oper) (o:Oper) (T:TX) (e:Evt):Prop:= ∀V A β a w,(∀k,A k-> ¬(e.N<=k/\k<e.N'))->Mem V A e.Hv β w->zq A (Zs V e.Hv β) w β (ek eO o) T a-> Gives P o a w fun v w'=> ∃I D,(∀k,A k->I k)/\(∀k,I k->Ad A e.N e.N' k)/\Mem V I e.Hv' D w'/\Hst e.N e.N' A e.Hv β w e.Hv' D w'/\RdX2 I (Zs V e.Hv' D) w' D v e.x
def Foot (N N':Nat) (H H':Tr Bx) (Hv Hv':HF):Lg->Prop
 | .p=>Hv=e0/\Hv'=e0/\N'=N
 | .r k=>(∀j,j≠k->Hv j=none)/\Hv'=Hv/\N'=N/\(HS H k).isSome=true
 | .w k=>(∀j,j≠k->Hv j=none/\Hv' j=none)/\N'=N
 | .nw k=>k=N/\N'=N+1/\Hv=e0/\ ∀j,j≠k->Hv' j=none
 | .c K K'=>Hv=HS K/\Hv'=HS K'/\K=H/\K'=H'
def gV (P:Program) (eO:Array Oper) (o:Oper) (TT:TX) (N:Nat) (H:Tr Bx) (x:XV) (N':Nat) (H':Tr Bx) (g:Lg):Prop:=
 N<=N'/\Bc x/\jJ H'/\jN N' H'/\ ∃Hv Hv',agQ P eO o TT ⟨x,Hv,Hv',N,N'⟩/\(∀k c,Hv k=some c->HS H k=some c)/\(∀k c,HS H' k=some c->iK (HS H) Hv Hv' k=some c)/\Foot N N' H H' Hv Hv' g
theorem Gs {H:HF}:iK H e0 e0=H:=by funext k;rfl
theorem bn (J:jJ H) (hL:jN N H) (I:Bc x) (h: ∀A Z w β a,zq A Z w β (ek eO o) TT a-> ∃v,(execOp a.eval o).run P w=.ok (.value v) w/\RdX2 A Z w β v x):gV P eO o TT N H x N H .p:=by
 have W:Foot N N H H e0 e0 .p:=⟨rfl,rfl,rfl⟩;have h1: ∀k c,e0 k=some c->HS H k=some c:=fun k c h=>by cases h
 have D: ∀k c,HS H k=some c->iK (HS H) e0 e0 k=some c:=fun k c h=>by rw[Gs];exact h
 refine⟨Nat.le_refl _,I,J,hL,e0,e0,fun V A β a w _ hm ht=>?_,h1,D,W⟩;obtain⟨v,e,R⟩:=h _ _ w β a ht;unfold Gives;rw[e];exact⟨A,β,fun _ h=>h,fun _ h=>.inl h,hm,Hst.refl,R⟩
theorem LN {t:Nat}{v:XV}(D:cO m (.tmp t)=some xo) (J:xo.get L T=some v):TS m L T t=some v:=by
 have D:(bif m.testBit t then some (XO.l t) else some (XO.t t))=some xo:=D;show(bif m.testBit t then Ff t L else T.get t)=some v;cases I:m.testBit t with
 |true=>rw[I] at D;injection D with D;subst D;exact J
 |false=>rw[I] at D;injection D with D;subst D;exact J
section
variable {A Z:Nat->Prop}{w:World}{β:Nat->Pl}{a:Act}
theorem uO {y:AV}(h:mZ v=some y):RdA A Z w β v y:=by
 cases v with
 |bool b=>simp[mZ] at h;subst h;exact .b b
 |int k n=>simp[mZ] at h;subst h;exact .i k n
 |slice D n c=>
  cases D with
  |some D=>simp[mZ] at h
  |none=>
   cases n with
   |zero=>
    cases c with
    |zero=>simp[mZ] at h;subst h;exact .z
    |succ c=>simp[mZ] at h
   |succ n=>simp[mZ] at h
 |pointer p=>
  cases p with
  |none=>simp[mZ] at h;subst h;exact .np
  |some p=>simp[mZ] at h
 |_=>simp[mZ] at h
theorem xK {D I:Type}{f:D->Option I}: ∀(l:List D) (r:List I),lE f l=some r->l.length=r.length
 |[],r,h=>by injection h with h;subst h;rfl
 |x::l,r,h=>by
  unfold lE at h;split at h;·cases h
  .split at h;·cases h
   .rename_i ys J;injection h with h;subst h;simp[xK l ys J]
theorem BB {D I:Type}{f:D->Option I}: ∀(l:List D) (r:List I),lE f l=some r-> ∀(j:Nat) (x:D) (y:I),l[j]? =some x->r[j]? =some y->f x=some y
 |[],r,h,j,x,y,hx,_=>by simp at hx
 |z::l,r,h,j,x,y,hx,hy=>by
  unfold lE at h;split at h;·cases h
  .rename_i R h1;split at h;·cases h
   .rename_i ys J;injection h with h;subst h;cases j with
    |zero=>simp at hx hy;subst hx hy;exact h1
    |succ j=>simp at hx hy;exact BB l ys J j x y hx hy
theorem yI {vs:List Value}{xs:List AV}(h:lE mZ vs=some xs):RdAs A Z w β vs xs:=
 ⟨xK _ _ h,fun j v x D I=>uO (BB _ _ h j v x D I)⟩
theorem Cw {d:XV}(h:T7 v=some d):RdX2 A Z w β v d/\Bc d:=by
 unfold T7 at h;split at h
 .rename_i cs;cases h1:lE mZ cs.toList with
  |none=>rw[h1] at h;cases h
  |some us=>rw[h1] at h;injection h with h;subst h;obtain⟨I,D⟩:=nF us;exact⟨⟨cs,rfl,by rw[D];exact yI h1⟩,I,by rw[D]⟩
 .cases h1:mZ v with
  |none=>rw[h1] at h;cases h
  |some u=>rw[h1] at h;injection h with h;subst h;exact⟨uO h1,trivial⟩
theorem aO {v:XV}(J:y∈o.op.operands) (I:cO m y=some xo) (D:xo.get L T=some v) (W:zq A Z w β (ek eO o) (TS m L T) a):RdX2 A Z w β (a.eval y) v:=by
 cases y with
 |tmp t=>
  have hl:ek eO o t:=wQ _ (List.mem_filterMap.2 ⟨.tmp t,by simpa using J,rfl⟩);obtain⟨v',e,hr⟩:=W t v hl (LN I D);have:a.eval (.tmp t)=v':=by show a.tmps.getD t undef=v';obtain⟨hlt,e⟩:=lH.1 e;simp[Array.getD,hlt,e]
  grind
 |const c=>
  cases h1:T7 c with
  |none=>simp[cO,h1] at I
  |some d=>simp[cO,h1] at I;subst I;injection D with D;subst D;exact(Cw h1).1
 |func g=>simp[cO] at I;subst I;injection D with D;subst D;exact .f g #[] [] (.f0 g) rfl rfl (fun j v x R=>by simp at R)
 |global g=>simp[cO] at I
theorem uY {v:XV}(J:l6 (TS m L T)) (I:cO m y=some xo) (D:xo.get L T=some v):Bc v:=by
 cases y with
 |tmp t=>exact J t v (LN I D)
 |const c=>
  cases h1:T7 c with
  |none=>simp[cO,h1] at I
  |some d=>simp[cO,h1] at I;subst I;injection D with D;subst D;exact(Cw (A:=fun _=>False) (Z:=fun _=>False) (w:=default) (β:=fun _=>⟨0,0⟩) h1).2
 |func g=>simp[cO] at I;subst I;injection D with D;subst D;trivial
 |global g=>simp[cO] at I
theorem RdA.b_eq {b:Bool}(h:RdA A Z w β v (.b b)):v=.bool b:=by
 cases h with
 |b _=>rfl
 |f _ _ _ _ h0=>cases h0
theorem RdA.i_eq {k:IntKind}{n:Int}(h:RdA A Z w β v (.i k n)):v=.int k n:=by
 cases h with
 |i _ _=>rfl
 |f _ _ _ _ h0=>cases h0
theorem RdA.z_eq (h:RdA A Z w β v .z):v=.slice none 0 0:=by
 cases h with
 |z=>rfl
 |f _ _ _ _ h0=>cases h0
theorem RdA.p_eq (h:RdA A Z w β v (.p k off)):v=.pointer (some ⟨(β k).b,off,none⟩)/\A k:=by
 cases h with
 |p _ _ h=>exact⟨rfl,h⟩
 |f _ _ _ _ h0=>cases h0
theorem RdA.s_eq {lo D:Nat}(h:RdA A Z w β v (.s k off n lo ex D)): ∃c,v=.slice (some ⟨(β k).b,off,none⟩) n c/\A k/\n<=lo/\lo<=c/\c<=maxLen/\(ex=true->c=lo)/\off+c*D<=(β k).z:=by
 cases h with
 |s _ _ _ _ _ _ c h h1 I W R J=>exact⟨c,rfl,h,h1,I,W,R,J⟩
 |f _ _ _ _ h0=>cases h0
theorem RdA.ev_eq (h:RdA A Z w β v .ev): ∃a c,v=.slice a 0 c/\c<=maxLen/\ ∀D,a=some D->D.spot=none:=by
 cases h with
 |ev a c h I=>exact⟨a,c,rfl,h,I⟩
 |f _ _ _ _ h0=>cases h0
end
variable {N':Nat}{H':Tr Bx}{g:Lg}{call:fV}
variable {dst:Option Nat}{ty:TypeId}{pos:String}{af:Array Edge}{gd:Option (Nat×Bool)}
theorem cn {x y:XV}{N N':Nat}{H H':Tr Bx}{g:Lg}(h:pR x N H=some (.mk y N' H' g)):y=x/\N'=N/\H'=H/\g=.p:=by unfold pR at h;grind
theorem gB {f:XO->oZ}{k:oZ}(h:o1 m f y=some k): ∃xo,cO m y=some xo/\k=f xo:=by
 unfold o1 at h;cases h1:cO m y with
 |none=>rw[h1] at h;cases h
 |some xo=>rw[h1] at h;injection h with h;exact⟨xo,rfl,h.symm⟩
theorem mN {f:XO->XO->oZ}{k:oZ}(h:o2 m f y z=some k): ∃xo yo,cO m y=some xo/\cO m z=some yo/\k=f xo yo:=by
 unfold o2 at h;split at h;·grind
 grind
theorem adS (W:l6 (TS m L T)) (J:jJ H) (R:jN N H) {x:XV}(I:cO m y=some xo) (h:Ww xo call L T N H=some (.mk x N' H' g)):gV P eO ⟨dst,.move y,ty,pos,af,gd⟩ (TS m L T) N H x N' H' g:=by obtain⟨v,D,h⟩:=aE h;obtain⟨rfl,rfl,rfl,rfl⟩:=cn h;exact bn J R (uY W I D) fun A Z w β a ht=>⟨a.eval y,rfl,aO (by simp[Op.operands]) I D ht⟩
theorem Um (W:l6 (TS m L T)) (J:jJ H) (R:jN N H) {x:XV}(I:cO m y=some xo) (h:Ww xo call L T N H=some (.mk x N' H' g)):gV P eO ⟨dst,.assign y,ty,pos,af,gd⟩ (TS m L T) N H x N' H' g:=by obtain⟨v,D,h⟩:=aE h;obtain⟨rfl,rfl,rfl,rfl⟩:=cn h;exact bn J R (uY W I D) fun A Z w β a ht=>⟨a.eval y,rfl,aO (by simp[Op.operands]) I D ht⟩
theorem ad0 (hT:l6 (TS m L T)) (hO:jJ H) (hL:jN N H) {c:Operand}{R:XO}{x:XV}(h1:cO m c=some R) (J:cO m y=some xo) (W:cO m z=some yo) (h:SW R xo yo call L T N H=some (.mk x N' H' g)):gV P eO ⟨dst,.pick c y z,ty,pos,af,gd⟩ (TS m L T) N H x N' H' g:=by
 obtain⟨v,hv,h⟩:=aE h;obtain⟨t,rfl,h⟩:=tq h;obtain⟨v2,D,h⟩:=aE h;obtain⟨rfl,rfl,rfl,rfl⟩:=cn h;rw[iM] at D;refine bn hO hL ?_ fun A Z w β a I=>?_
 .split at D;·exact uY hT J D
  .exact uY hT W D
 .have e1:a.eval c=.bool t:=RdA.b_eq (aO (by simp[Op.operands]) h1 hv I);refine⟨if t then a.eval y else a.eval z,?_,?_⟩;·simp[execOp,e1,asBool]
  .split at D;·rename_i q;rw[if_pos q];exact aO (by simp[Op.operands]) J D I
   .rename_i q;rw[if_neg q];exact aO (by simp[Op.operands]) W D I
theorem aaP (_hT:l6 (TS m L T)) (I:jJ H) (J:jN N H) {x:XV}(hc:cO m y=some xo) (h:Ub xo call L T N H=some (.mk x N' H' g)):gV P eO ⟨dst,.nilCheck y,ty,pos,af,gd⟩ (TS m L T) N H x N' H' g:=by obtain⟨v,R,h⟩:=aE h;obtain⟨k,off,rfl,h⟩:=qI h;obtain⟨rfl,rfl,rfl,rfl⟩:=cn h;refine bn I J trivial fun A Z w β a W=>?_;have D:RdA A Z w β (a.eval y) (.p k off):=aO (by simp[Op.operands]) hc R W;refine⟨a.eval y,?_,D⟩;simp[execOp,D.p_eq.1]
theorem ag2 (_hT:l6 (TS m L T)) (D:jJ H) (I:jN N H) {x:XV}(J:cO m y=some xo) (h:ZU xo call L T N H=some (.mk x N' H' g)):gV P eO ⟨dst,.unOp .not t y,ty,pos,af,gd⟩ (TS m L T) N H x N' H' g:=by obtain⟨v,R,h⟩:=aE h;obtain⟨b,rfl,h⟩:=tq h;obtain⟨rfl,rfl,rfl,rfl⟩:=cn h;refine bn D I trivial fun A Z w β a W=>?_;have e1:a.eval y=.bool b:=RdA.b_eq (aO (by simp[Op.operands]) J R W);exact⟨.bool (!b),by simp[execOp,e1,Op.unary],by cases b<;>exact .b _⟩
theorem sy (k:IntKind) (n:Int):AJ k n=k.wrap n:=by
 unfold AJ;rw[iM,iM];split
 .rename_i h;split
  .rename_i D;have I:k=.i64:=by cases k<;>simp[kN] at h<;>rfl
   subst I;have D:n.natAbs<9223372036854775808:=by simpa [Nat.blt,Nat.ble_eq,Nat.lt_iff_add_one_le] using D
   show n=if (true&&decide (n%18446744073709551616>=9223372036854775808))=true then n%18446744073709551616-18446744073709551616 else n%18446744073709551616;grind
  .rfl
 .rfl
theorem ae0 (_hT:l6 (TS m L T)) (D:jJ H) (I:jN N H) {x:XV}(J:cO m y=some xo) (h:Y7 xo call L T N H=some (.mk x N' H' g)):gV P eO ⟨dst,.unOp .neg t y,ty,pos,af,gd⟩ (TS m L T) N H x N' H' g:=by obtain⟨v,R,h⟩:=aE h;obtain⟨k,n,rfl,h⟩:=mA h;obtain⟨rfl,rfl,rfl,rfl⟩:=cn h;refine bn D I trivial fun A Z w β a W=>?_;have e1:a.eval y=.int k n:=RdA.i_eq (aO (by simp[Op.operands]) J R W);exact⟨.int k (k.wrap (0-n)),by simp[execOp,e1,Op.unary,Op.intArith],by rw[sy];exact .i _ _⟩
theorem aaZ (_hT:l6 (TS m L T)) (W:jJ H) (hL:jN N H) {d:TypeId}{k:IntKind}{x:XV}(hs:YM P s=some k0) (R:YM P d=some k) (hc:cO m y=some xo) (h:Qp k xo call L T N H=some (.mk x N' H' g)):gV P eO ⟨dst,.convert s d y,ty,pos,af,gd⟩ (TS m L T) N H x N' H' g:=by
 obtain⟨v,hv,h⟩:=aE h;obtain⟨J,n,rfl,h⟩:=mA h;obtain⟨rfl,rfl,rfl,rfl⟩:=cn h;refine bn W hL trivial fun A Z w β a ht=>?_;have e1:a.eval y=.int J n:=RdA.i_eq (aO (by simp[Op.operands]) hc hv ht);have I:P.underlying s=some (.int k0):=by unfold YM at hs;grind
 have D:P.underlying d=some (.int k):=by unfold YM at R;grind
 exact⟨.int k (k.wrap n),by simp[execOp,e1,convert,run_underlying I,run_underlying D,Conv.intToInt],by rw[sy];exact .i _ _⟩
end
section
variable {P:Program}{eO:Array Oper}{o:Oper}{TT:TX}{m N:Nat}{L:LX}{T:Tr XV}{H:Tr Bx}{x:XV}
variable {N':Nat}{H':Tr Bx}{g:Lg}{call:fV}
variable {dst:Option Nat}{ty:TypeId}{pos:String}{af:Array Edge}{gd:Option (Nat×Bool)}
theorem SU {k:IntKind}(h:Nat.beq (kN k) (kN k')=true):k=k':=by cases k<;>cases k'<;>simp[kN] at h<;>rfl
theorem nl (x y:Int):xv x y=decide (x<y):=by
 show @Int.rec (fun _=>Bool) (fun _=>false) (fun _=>true) (x-y)=_;cases h:x-y with
 |ofNat n=>grind
 |negSucc n=>grind
theorem CN (x y:Int):LH x y=(x==y):=by
 show @Int.rec (fun _=>Bool) (fun n=>Nat.beq n 0) (fun _=>false) (x-y)=_;cases h:x-y with
 |ofNat n=>
  have h:x-y=(n:Int):=h;cases n with
  |zero=>
   have:x=y:=by omega
   subst this;simp
  |succ n=>show false=_;grind
 |negSucc n=>grind
theorem XX (J:W8 op=some f) {k:IntKind}{a b:Int}{r:AV}(D:f k a b=some r) (xt:TypeId) (x y:Operand) (w:World) (A Z:Nat->Prop) (β:Nat->Pl):∃v,(do eqGuard op xt x y (.int k a) (.int k b);binOp op xt (.int k a) (.int k b):Go.Sem Value).run P w=.ok v w/\RdA A Z w β v r:=by
 have I: ∀ {b c:Bool},b=c->RdA A Z w β (.bool b) (.b c):=fun e=>by subst e;exact .b _
 cases op<;>simp[W8] at J<;>subst J
 .injection D with D;subst D;rw[sy];exact⟨.int k (k.wrap (a+b)),by simp[eqGuard,binOp,Op.intArith],.i _ _⟩
 .injection D with D;subst D;rw[sy];exact⟨.int k (k.wrap (a-b)),by simp[eqGuard,binOp,Op.intArith],.i _ _⟩
 .injection D with D;subst D;rw[sy];exact⟨.int k (k.wrap (a*b)),by simp[eqGuard,binOp,Op.intArith],.i _ _⟩
 .unfold aft at D
  rw[iM,CN] at D
  split at D
  .grind
  .rename_i h0
   injection D with D;subst D;rw[sy]
   have h0:b≠0:=by grind
   exact⟨.int k (k.wrap (a.tdiv b)),by simp[eqGuard,binOp,Op.intDiv,h0],.i _ _⟩
 .unfold aeO at D
  rw[iM,CN] at D
  split at D
  .grind
  .rename_i h0
   injection D with D;subst D
   have h0:b≠0:=by grind
   exact⟨.int k (a.tmod b),by simp[eqGuard,binOp,Op.intDiv,h0],.i _ _⟩
 .injection D with D;subst D;exact⟨_,by simp[eqGuard,binOp,Op.intBits],.i _ _⟩
 .injection D with D;subst D;exact⟨_,by simp[eqGuard,binOp,Op.intBits],.i _ _⟩
 .injection D with D;subst D;exact⟨_,by simp[eqGuard,binOp,Op.intBits],.i _ _⟩
 .injection D with D;subst D;exact⟨.bool (a==b),by simp[eqGuard,binOp,Op.intCmp],I (CN a b).symm⟩
 .injection D with D;subst D;exact⟨.bool (a !=b),by simp[eqGuard,binOp,Op.intCmp],I (by rw[iM,CN];cases h:(a==b)<;>simp[bne,h])⟩
 .injection D with D;subst D;exact⟨.bool (a<b),by simp[eqGuard,binOp,Op.intCmp],I (nl a b).symm⟩
 .injection D with D;subst D;exact⟨.bool (a<=b),by simp[eqGuard,binOp,Op.intCmp],I (by rw[iM,nl];by_cases h:b<a<;>simp[h]<;>omega)⟩
 .injection D with D;subst D;exact⟨.bool (a>b),by simp[eqGuard,binOp,Op.intCmp],I (nl b a).symm⟩
 .injection D with D;subst D;exact⟨.bool (a>=b),by simp[eqGuard,binOp,Op.intCmp],I (by rw[iM,nl];by_cases h:a<b<;>simp[h]<;>omega)⟩
theorem agh (_hT:l6 (TS m L T)) (hO:jJ H) (hL:jN N H) {x:XV}(hf:W8 op=some f) (h1:cO m y=some xo) (h2:cO m z=some yo) (h:ZN f xo yo call L T N H=some (.mk x N' H' g)):gV P eO ⟨dst,.binOp op xt y z yt,ty,pos,af,gd⟩ (TS m L T) N H x N' H' g:=by
 obtain⟨v,hv,h⟩:=aE h
 obtain⟨v2,R,h⟩:=aE h
 obtain⟨k,a,q1,h⟩:=mA h
 obtain⟨k',b,q2,h⟩:=mA h
 subst q1 q2
 obtain⟨I,h⟩:=bD h
 obtain⟨r,hr,h⟩:=aE h
 obtain⟨rfl,rfl,rfl,rfl⟩:=cn h
 have I:=SU I
 subst I
 refine bn hO hL trivial fun A Z w β ac W=>?_
 have e1:ac.eval y=.int k a:=RdA.i_eq (aO (by simp[Op.operands]) h1 hv W)
 have e2:ac.eval z=.int k b:=RdA.i_eq (aO (by simp[Op.operands]) h2 R W)
 obtain⟨v,D,J⟩:=XX hf hr xt y z w A Z β
 refine⟨v,?_,J⟩
 show(do let r <-(do eqGuard op xt y z (ac.eval y) (ac.eval z);binOp op xt (ac.eval y) (ac.eval z):Go.Sem Value);pure (Next.value r):Go.Sem Next).run P w=_
 rw[e1,e2,fh,D]
 rfl
theorem aef (_hT:l6 (TS m L T)) (hO:jJ H) (hL:jN N H) {x:XV}(J:adU op=some f) (h1:cO m y=some xo) (h2:cO m z=some yo) (h:aaH f xo yo call L T N H=some (.mk x N' H' g)):gV P eO ⟨dst,.binOp op xt y z yt,ty,pos,af,gd⟩ (TS m L T) N H x N' H' g:=by
 obtain⟨v,hv,h⟩:=aE h
 obtain⟨v2,I,h⟩:=aE h
 obtain⟨k,a,q1,h⟩:=mA h
 obtain⟨k',b,q2,h⟩:=mA h
 subst q1 q2
 obtain⟨r,D,h⟩:=aE h
 obtain⟨rfl,rfl,rfl,rfl⟩:=cn h
 refine bn hO hL trivial fun A Z w β ac W=>?_
 have e1:ac.eval y=.int k a:=RdA.i_eq (aO (by simp[Op.operands]) h1 hv W)
 have R:ac.eval z=.int k' b:=RdA.i_eq (aO (by simp[Op.operands]) h2 I W)
 cases op<;>simp[adU] at J<;>subst J
 .unfold ag8 at D
  rw[iM,nl] at D
  split at D
  .grind
  .rename_i h0
   injection D with D;subst D
   have h0: ¬b<0:=by grind
   exact⟨.int k (k.wrap (a*2^(min b.toNat k.bits))),by simp[execOp,e1,R,eqGuard,binOp,Op.shift,h0],.i _ _⟩
 .unfold ael at D
  rw[iM,nl] at D
  split at D
  .grind
  .rename_i h0
   injection D with D;subst D
   have h0: ¬b<0:=by grind
   exact⟨.int k (a.fdiv (2^(min b.toNat k.bits))),by simp[execOp,e1,R,eqGuard,binOp,Op.shift,h0],.i _ _⟩
theorem aeD (_hT:l6 (TS m L T)) (W:jJ H) (hL:jN N H) {x:XV}(R:P.underlying xt=some .bool) (h1:cO m y=some xo) (D:cO m z=some yo) (h:Nj false xo yo call L T N H=some (.mk x N' H' g)):gV P eO ⟨dst,.binOp .eql xt y z yt,ty,pos,af,gd⟩ (TS m L T) N H x N' H' g:=by
 obtain⟨v,hv,h⟩:=aE h
 obtain⟨v2,I,h⟩:=aE h
 obtain⟨a,q1,h⟩:=tq h
 obtain⟨b,q2,h⟩:=tq h
 subst q1 q2
 obtain⟨rfl,rfl,rfl,rfl⟩:=cn h
 refine bn W hL trivial fun A Z w β ac J=>?_
 have e1:ac.eval y=.bool a:=RdA.b_eq (aO (by simp[Op.operands]) h1 hv J)
 have e2:ac.eval z=.bool b:=RdA.b_eq (aO (by simp[Op.operands]) D I J)
 refine⟨.bool (a==b),?_,.b _⟩
 have h1:(eqGuard .eql xt y z (.bool a) (.bool b)).run P w=.ok () w:=rfl
 have D:binOp .eql xt (.bool a) (.bool b)=(do pure (.bool (<-Op.equal xt (.bool a) (.bool b)))):=rfl
 simp only[execOp,e1,e2,fh,h1,ft,D,mI R,dA]
theorem agX (_hT:l6 (TS m L T)) (W:jJ H) (hL:jN N H) {x:XV}(R:P.underlying xt=some .bool) (h1:cO m y=some xo) (D:cO m z=some yo) (h:Nj true xo yo call L T N H=some (.mk x N' H' g)):gV P eO ⟨dst,.binOp .neq xt y z yt,ty,pos,af,gd⟩ (TS m L T) N H x N' H' g:=by
 obtain⟨v,hv,h⟩:=aE h
 obtain⟨v2,I,h⟩:=aE h
 obtain⟨a,q1,h⟩:=tq h
 obtain⟨b,q2,h⟩:=tq h
 subst q1 q2
 obtain⟨rfl,rfl,rfl,rfl⟩:=cn h
 refine bn W hL trivial fun A Z w β ac J=>?_
 have e1:ac.eval y=.bool a:=RdA.b_eq (aO (by simp[Op.operands]) h1 hv J)
 have e2:ac.eval z=.bool b:=RdA.b_eq (aO (by simp[Op.operands]) D I J)
 refine⟨.bool (!(a==b)),?_,.b _⟩
 have h1:(eqGuard .neq xt y z (.bool a) (.bool b)).run P w=.ok () w:=rfl
 have D:binOp .neq xt (.bool a) (.bool b)=(do pure (.bool (!(<-Op.equal xt (.bool a) (.bool b))))):=rfl
 simp only[execOp,e1,e2,fh,h1,ft,D,mI R,dA]
theorem wF (D:P.underlying xt=some (.slice e)):(Op.equal xt (.slice b n c) (.slice none 0 0)).run P w=.ok b.isNone w:=by unfold Op.equal Op.maxDepth;rw[show(10000:Nat)=9999+1 from rfl,Op.equalIn];simp only[fh,run_underlying D,ft];cases b<;>rfl
theorem ae5 (_hT:l6 (TS m L T)) (J:jJ H) (R:jN N H) {x:XV}(hu:P.underlying xt=some (.slice e)) (h1:cO m y=some xo) (h:Oh false xo call L T N H=some (.mk x N' H' g)):gV P eO ⟨dst,.binOp .eql xt y (.const (.slice none 0 0)) yt,ty,pos,af,gd⟩ (TS m L T) N H x N' H' g:=by
 obtain⟨v,W,h⟩:=aE h
 obtain⟨a,rfl,h⟩:=iS h
 have D: ∀(ac:Act) (w:World) (b:Option Addr) (n c:Nat),ac.eval y=.slice b n c->(execOp ac.eval ⟨dst,.binOp .eql xt y (.const (.slice none 0 0)) yt,ty,pos,af,gd⟩).run P w=.ok (.value (.bool b.isNone)) w:=by intro ac w b n c e1;have h1:(eqGuard .eql xt y (.const (.slice none 0 0)) (.slice b n c) (.slice none 0 0)).run P w=.ok () w:=rfl;have h2:binOp .eql xt (.slice b n c) (.slice none 0 0)=(do pure (.bool (<-Op.equal xt (.slice b n c) (.slice none 0 0)))):=rfl;have e2:ac.eval (.const (.slice none 0 0))=.slice none 0 0:=rfl;simp only[execOp,e1,e2,fh,h1,ft,h2,wF hu,dA]
 rcases ll h with⟨k,off,n,lo,ex,m',rfl,h⟩|⟨rfl,h⟩|⟨rfl,h⟩
 .obtain⟨rfl,rfl,rfl,rfl⟩:=cn h
  refine bn J R trivial fun A Z w β ac I=>?_
  obtain⟨c,e1,_⟩:=RdA.s_eq (aO (by simp[Op.operands]) h1 W I)
  exact⟨_,D ac w _ _ _ e1,.b _⟩
 .obtain⟨rfl,rfl,rfl,rfl⟩:=cn h
  refine bn J R trivial fun A Z w β ac I=>?_
  exact⟨_,D ac w _ _ _ (RdA.z_eq (aO (by simp[Op.operands]) h1 W I)),.b _⟩
 grind
theorem afD (_hT:l6 (TS m L T)) (J:jJ H) (R:jN N H) {x:XV}(hu:P.underlying xt=some (.slice e)) (h1:cO m y=some xo) (h:Oh true xo call L T N H=some (.mk x N' H' g)):gV P eO ⟨dst,.binOp .neq xt y (.const (.slice none 0 0)) yt,ty,pos,af,gd⟩ (TS m L T) N H x N' H' g:=by
 obtain⟨v,W,h⟩:=aE h
 obtain⟨a,rfl,h⟩:=iS h
 have D: ∀(ac:Act) (w:World) (b:Option Addr) (n c:Nat),ac.eval y=.slice b n c->(execOp ac.eval ⟨dst,.binOp .neq xt y (.const (.slice none 0 0)) yt,ty,pos,af,gd⟩).run P w=.ok (.value (.bool (!b.isNone))) w:=by intro ac w b n c e1;have h1:(eqGuard .neq xt y (.const (.slice none 0 0)) (.slice b n c) (.slice none 0 0)).run P w=.ok () w:=rfl;have h2:binOp .neq xt (.slice b n c) (.slice none 0 0)=(do pure (.bool (!(<-Op.equal xt (.slice b n c) (.slice none 0 0))))):=rfl;have e2:ac.eval (.const (.slice none 0 0))=.slice none 0 0:=rfl;simp only[execOp,e1,e2,fh,h1,ft,h2,wF hu,dA]
 rcases ll h with⟨k,off,n,lo,ex,m',rfl,h⟩|⟨rfl,h⟩|⟨rfl,h⟩
 .obtain⟨rfl,rfl,rfl,rfl⟩:=cn h
  refine bn J R trivial fun A Z w β ac I=>?_
  obtain⟨c,e1,_⟩:=RdA.s_eq (aO (by simp[Op.operands]) h1 W I)
  exact⟨_,D ac w _ _ _ e1,.b _⟩
 .obtain⟨rfl,rfl,rfl,rfl⟩:=cn h
  refine bn J R trivial fun A Z w β ac I=>?_
  exact⟨_,D ac w _ _ _ (RdA.z_eq (aO (by simp[Op.operands]) h1 W I)),.b _⟩
 grind
theorem ah3 (_hT:l6 (TS m L T)) (I:jJ H) (J:jN N H) {f:Nat}{x:XV}(hU:VA P U f=some o') (h1:cO m y=some xo) (h:aha o' xo call L T N H=some (.mk x N' H' g)):gV P eO ⟨dst,.fieldAddr U y f,ty,pos,af,gd⟩ (TS m L T) N H x N' H' g:=by
 obtain⟨v,hv,h⟩:=aE h
 obtain⟨k,off,rfl,h⟩:=qI h
 obtain⟨rfl,rfl,rfl,rfl⟩:=cn h
 refine bn I J trivial fun A Z w β ac ht=>?_
 obtain⟨e1,W⟩:=RdA.p_eq (aO (by simp[Op.operands]) h1 hv ht)
 obtain⟨fs,fd,g1,R,g3,D⟩:=FK hU
 refine⟨.pointer (some ⟨(β k).b,off+o',none⟩),?_,.p _ _ W⟩
 simp only[execOp,Instr.fieldAt,e1,Instr.sureAddr,fh,dA,ft,run_underlying g1,R,D,fI]
theorem Mk {f:Nat}{b:Bool}(h:fd2 P U f=some (b,off,n)): ∃fs fd,P.underlying U=some (.struct fs)/\fs[f]? =some fd/\fd.offset=off/\mT P fd.type=some (b,n):=by
 unfold fd2 at h;split at h;·grind
 grind
theorem aeJ (hT:l6 (TS m L T)) (hO:jJ H) (hL:jN N H) {f:Nat}{x:XV}(hU:fd2 P U f=some (true,o',n)) (h1:cO m y=some xo) (h:aaF o' n xo call L T N H=some (.mk x N' H' g)):gV P eO ⟨dst,.field U y f,ty,pos,af,gd⟩ (TS m L T) N H x N' H' g:=by
 obtain⟨v,hv,R⟩:=aE h
 cases v with
 |a D r=>
  obtain⟨hn,h3⟩:=bD (show bT (Nat.ble (Nat.add o' n) D) (pR (.a n (iY r D o' n)) N H)=some (.mk x N' H' g) from R)
  obtain⟨rfl,rfl,rfl,rfl⟩:=cn h3
  rw[eL] at hn
  obtain⟨I,J⟩:=uY hT h1 hv
  obtain⟨g1,W⟩:=kn r D o' n I J hn
  have a3:o'+n<=r.flat.length:=by grind
  refine bn hO hL ⟨g1,by rw[W];simp;omega⟩ fun A Z w β ac ht=>?_
  obtain⟨cs,e1,hr⟩:=aO (by simp[Op.operands]) h1 hv ht
  obtain⟨fs,fd,k1,k2,k3,k4⟩:=Mk hU
  obtain⟨k5,k6⟩:=oW k4 w
  refine⟨.agg (cs.extract o' (o'+n)),?_,_,rfl,?_⟩
  .simp only[execOp,Instr.field,e1,fh,dA,ft,run_underlying k1,k2,part,asAgg,k5,k6,k3,if_true]
  .rw[W]
   have:=(hr.drop o').take n
   simpa [Array.toList_extract,List.extract_eq_take_drop] using this
 |_=>cases R
theorem agc (hT:l6 (TS m L T)) (hO:jJ H) (hL:jN N H) {f:Nat}{x:XV}(hU:fd2 P U f=some (false,o',n)) (h1:cO m y=some xo) (h:aan o' xo call L T N H=some (.mk x N' H' g)):gV P eO ⟨dst,.field U y f,ty,pos,af,gd⟩ (TS m L T) N H x N' H' g:=by
 obtain⟨v,hv,W⟩:=aE h
 cases v with
 |a a4 r=>
  obtain⟨c,D,h3⟩:=aE (show oO (rg r o') (fun a=>pR (.c a) N H)=some (.mk x N' H' g) from W)
  obtain⟨rfl,rfl,rfl,rfl⟩:=cn h3
  obtain⟨J,a3⟩:=uY hT h1 hv
  rw[sn r o' J] at D
  refine bn hO hL trivial fun A Z w β ac ht=>?_
  obtain⟨cs,e1,hr⟩:=aO (by simp[Op.operands]) h1 hv ht
  obtain⟨fs,fd,k1,k2,k3,k4⟩:=Mk hU
  obtain⟨k5,_⟩:=oW k4 w
  have hlt:o'<cs.toList.length:=by rw[hr.1];exact(fM.1 D).1
  have R:cs.toList[o']? =some (cs.toList[o']'hlt):=by grind
  refine⟨_,?_,hr.2 o' _ c R D⟩
  have I:cs[o']? =some (cs.toList[o']'hlt):=by grind
  simp only[execOp,Instr.field,e1,fh,dA,ft,run_underlying k1,k2,part,asAgg,k5,k3,I]
  rfl
 |_=>cases W
theorem aeM (hT:l6 (TS m L T)) (hO:jJ H) (hL:jN N H) {i:Nat}{x:XV}(h1:cO m y=some xo) (h:ZB xo i call L T N H=some (.mk x N' H' g)):gV P eO ⟨dst,.extract y i,ty,pos,af,gd⟩ (TS m L T) N H x N' H' g:=by
 obtain⟨v,J,h⟩:=aE h
 obtain⟨I,rfl,h⟩:=Y4 h
 obtain⟨d,R,h⟩:=aE h
 obtain⟨rfl,rfl,rfl,rfl⟩:=cn h
 have D: ∀(I:List XD) (i:Nat),W1 I i=I[i]? :=by
  intro I;induction I with
  |nil=>intro i;simp[W1]
  |cons d I ih=>
   intro i;show @Bool.rec (fun _=>Option XD) (W1 I (Nat.pred i)) (some d) (Nat.beq i 0)=_;rw[sK];cases i with
   |zero=>rfl
   |succ i=>rw[if_neg (by omega)];simpa using ih i
 rw[D] at R
 have hok: ∀d∈I,CB d:=uY hT h1 J
 have a3:=hok d (tT R)
 refine bn hO hL (by cases d<;>exact a3) fun A Z w β ac ht=>?_
 obtain⟨vs,e1,W⟩:=aO (by simp[Op.operands]) h1 J ht
 have hlt:i<I.length:=(fM.1 R).1
 have J:vs.toList[i]? =some (vs.toList[i]'(by rw[W.1];exact hlt)):=by grind
 have a4:=W.2 i _ d J R
 rw[mW] at J
 refine⟨vs.toList[i]'(by rw[W.1];exact hlt),?_,?_⟩
 .simp only[execOp,e1,Instr.extract,J,fh,dA,ft]
 .cases d<;>exact a4
theorem aeF (_hT:l6 (TS m L T)) (J:jJ H) (R:jN N H) {x:XV}(hU:pT P U=some sz) (h1:cO m y=some xo) (h:Y6 xo call L T N H=some (.mk x N' H' g)):gV P eO ⟨dst,.call ⟨.builtin .len,#[y],#[U]⟩,ty,pos,af,gd⟩ (TS m L T) N H x N' H' g:=by
 obtain⟨v,W,h⟩:=aE h
 obtain⟨a,rfl,h⟩:=iS h
 have D: ∀(ac:Act) (w:World) (b:Option Addr) (n c:Nat),ac.eval y=.slice b n c->(execOp ac.eval ⟨dst,.call ⟨.builtin .len,#[y],#[U]⟩,ty,pos,af,gd⟩).run P w=.ok (.value (.int .i64 n)) w:=by
  intro ac w b n c e;unfold pT at hU;split at hU
  .rename_i el hu;simp[execOp,resolve,invoke,builtin,Builtin.len_,e,run_underlying hu,goInt]
  grind
 rcases ll h with⟨k,off,n,lo,ex,m',rfl,h⟩|⟨rfl,h⟩|⟨rfl,h⟩
 .obtain⟨rfl,rfl,rfl,rfl⟩:=cn h
  refine bn J R trivial fun A Z w β ac I=>?_
  obtain⟨c,e1,_⟩:=RdA.s_eq (aO (by simp[Op.operands,Call.operands]) h1 W I)
  exact⟨_,D ac w _ _ _ e1,.i _ _⟩
 .obtain⟨rfl,rfl,rfl,rfl⟩:=cn h
  refine bn J R trivial fun A Z w β ac I=>?_
  exact⟨_,D ac w _ _ _ (RdA.z_eq (aO (by simp[Op.operands,Call.operands]) h1 W I)),.i _ _⟩
 .obtain⟨rfl,rfl,rfl,rfl⟩:=cn h
  refine bn J R trivial fun A Z w β ac I=>?_
  obtain⟨b,c,e1,_⟩:=RdA.ev_eq (aO (by simp[Op.operands,Call.operands]) h1 W I)
  exact⟨_,D ac w _ _ _ e1,.i _ _⟩
theorem agE (_hT:l6 (TS m L T)) (W:jJ H) (hL:jN N H) {x:XV}(hU:pT P U=some sz) (h1:cO m y=some xo) (h:Zx xo call L T N H=some (.mk x N' H' g)):gV P eO ⟨dst,.call ⟨.builtin .cap,#[y],#[U]⟩,ty,pos,af,gd⟩ (TS m L T) N H x N' H' g:=by
 obtain⟨v,hv,h⟩:=aE h
 obtain⟨a,rfl,h⟩:=iS h
 have D: ∀(ac:Act) (w:World) (b:Option Addr) (n c:Nat),ac.eval y=.slice b n c->(execOp ac.eval ⟨dst,.call ⟨.builtin .cap,#[y],#[U]⟩,ty,pos,af,gd⟩).run P w=.ok (.value (.int .i64 c)) w:=by
  intro ac w b n c e;unfold pT at hU;split at hU
  .rename_i el hu;simp[execOp,resolve,invoke,builtin,Builtin.cap_,e,run_underlying hu,goInt]
  grind
 rcases ll h with⟨k,off,n,lo,ex,m',rfl,h⟩|⟨rfl,h⟩|⟨rfl,h⟩
 .obtain⟨J,h⟩:=bD h
  obtain⟨rfl,rfl,rfl,rfl⟩:=cn h
  refine bn W hL trivial fun A Z w β ac I=>?_
  obtain⟨c,e1,_,_,_,_,R,_⟩:=RdA.s_eq (aO (by simp[Op.operands,Call.operands]) h1 hv I)
  have R:=R J
  subst R
  exact⟨_,D ac w _ _ _ e1,.i _ _⟩
 .obtain⟨rfl,rfl,rfl,rfl⟩:=cn h
  refine bn W hL trivial fun A Z w β ac I=>?_
  exact⟨_,D ac w _ _ _ (RdA.z_eq (aO (by simp[Op.operands,Call.operands]) h1 hv I)),.i _ _⟩
 grind
theorem ahr (_hT:l6 (TS m L T)) (hO:jJ H) (hL:jN N H) {x:XV}(hU:pT P U=some sz) (h1:cO m y=some xo) (h2:cO m z=some yo) (h:ae9 sz xo yo call L T N H=some (.mk x N' H' g)):gV P eO ⟨dst,.indexAddr U y z,ty,pos,af,gd⟩ (TS m L T) N H x N' H' g:=by
 obtain⟨v,hv,h⟩:=aE h
 obtain⟨v2,a3,h⟩:=aE h
 obtain⟨a,rfl,h⟩:=iS h
 obtain⟨ki,j,rfl,h⟩:=s7 h
 rcases ll h with⟨k,off,n,lo,ex,m',rfl,h⟩|⟨rfl,h⟩|⟨rfl,h⟩
 .obtain⟨hj,h⟩:=bD h
  obtain⟨hm,h⟩:=bD h
  obtain⟨rfl,rfl,rfl,rfl⟩:=cn h
  rw[dj] at hj
  refine bn hO hL trivial fun A Z w β ac ht=>?_
  obtain⟨c,e1,hk,_⟩:=RdA.s_eq (aO (by simp[Op.operands]) h1 hv ht)
  refine⟨.pointer (some ⟨(β k).b,off+j*sz,none⟩),?_,.p _ _ hk⟩
  unfold pT at hU
  split at hU
  case h_2=>cases hU
  rename_i el J
  cases D:P.info? el with
  |none=>rw[D] at hU;cases hU
  |some a4=>
   rw[D] at hU
   simp at hU
   have R: ∀w,(sizeOf el).run P w=.ok sz w:=fun w=>by unfold sizeOf typeInfo;simp[program,Sem.run,D,hU]
   have W:(0:Int)<=(j:Int):=by omega
   have I:(j:Int)<(n:Int):=by omega
   simp[execOp,Instr.indexAt,e1,RdA.i_eq (aO (by simp[Op.operands]) h2 a3 ht),asIntOf,run_underlying J,W,R,fI,hj]
 .cases h
 grind
end
section
variable {P:Program}{eO:Array Oper}{o:Oper}{TT:TX}{m N:Nat}{L:LX}{T:Tr XV}{H:Tr Bx}{x:XV}
variable {N':Nat}{H':Tr Bx}{g:Lg}{call:fV}
variable {dst:Option Nat}{ty:TypeId}{pos:String}{af:Array Edge}{gd:Option (Nat×Bool)}
theorem NN (hU:pT P U=some sz): ∃I,P.underlying U=some (.slice I)/\ ∀w,(sizeOf I).run P w=.ok sz w:=by
 unfold pT at hU;split at hU;case h_2=>cases hU
 rename_i I J;cases D:P.info? I with
 |none=>rw[D] at hU;cases hU
 |some R=>rw[D] at hU;simp at hU;exact⟨I,J,fun w=>by unfold sizeOf typeInfo;simp[program,Sem.run,D,hU]⟩
theorem tv {d:Nat}{y:Option Operand}{yo:Option XO}(D:FL m y=some yo) (R:AK L T d yo=some l) (hy: ∀z,y=some z->z∈o.op.operands) (ht:zq A Z w β (ek eO o) (TS m L T) a):(y=none/\l=d)\/ ∃z k,y=some z/\a.eval z=.int k (l:Int):=by
 cases y with
 |none=>
  injection D with D
  subst D
  injection R with R
  grind
 |some z=>
  cases h1:cO m z with
  |none=>simp[FL,h1] at D
  |some zo=>
   simp[FL,h1] at D
   subst D
   obtain⟨v,hv,W⟩:=aE (show oO (zo.get L T) (fun v=>xN v some)=some l from R)
   obtain⟨k,j,q,J⟩:=s7 W
   injection J with I
   subst q I
   exact .inr ⟨z,k,rfl,RdA.i_eq (aO (hy z rfl) h1 hv ht)⟩
theorem EX (hU:pT P U=some sz) (e:a.eval y=.slice b n c) (R:(lo=none/\l=0)\/ ∃z k,lo=some z/\a.eval z=.int k (l:Int)) (J:(hi=none/\h=n)\/ ∃z k,hi=some z/\a.eval z=.int k (h:Int)) (h1:l<=h) (W:h<=c):(execOp a.eval ⟨dst,.slice U y lo hi none,ty,pos,af,gd⟩).run P w=.ok (.value (.slice (if c=l then b else b.map (·.add (l*sz))) (h-l) (c-l))) w:=by
 obtain⟨el,D,I⟩:=NN hU
 have i2:(l:Int)<=(h:Int):=by omega
 have i4:(h:Int)<=(c:Int):=by omega
 rcases R with⟨rfl,rfl⟩|⟨z,k,rfl,e1⟩<;>rcases J with⟨rfl,rfl⟩|⟨z2,k2,rfl,e2⟩
 .simp[execOp,Instr.sliceAt,Instr.slice,run_underlying D,e,Instr.sliceBounds,I]
 .simp[execOp,Instr.sliceAt,Instr.slice,run_underlying D,e,e2,Instr.sliceBounds,Instr.sliceBound,asIntOf,W,I]
 .simp[execOp,Instr.sliceAt,Instr.slice,run_underlying D,e,e1,Instr.sliceBounds,Instr.sliceBound,asIntOf,h1,I]
 .simp[execOp,Instr.sliceAt,Instr.slice,run_underlying D,e,e1,e2,Instr.sliceBounds,Instr.sliceBound,asIntOf,h1,W,I]
theorem aeG (_hT:l6 (TS m L T)) (hO:jJ H) (hL:jN N H) {x:XV}(hU:pT P U=some sz) (h1:cO m y=some xo) (h2:FL m lo=some lo') (h3:FL m hi=some hi') (h:Z7 sz xo lo' hi' call L T N H=some (.mk x N' H' g)):gV P eO ⟨dst,.slice U y lo hi none,ty,pos,af,gd⟩ (TS m L T) N H x N' H' g:=by
 obtain⟨v,hv,h⟩:=aE h
 obtain⟨a,rfl,h⟩:=iS h
 have a3: ∀z,lo=some z->z∈(Op.slice U y lo hi none).operands:=fun z e=>by subst e;simp[Op.operands]
 have W: ∀z,hi=some z->z∈(Op.slice U y lo hi none).operands:=fun z e=>by subst e;simp[Op.operands]
 have a4:y∈(Op.slice U y lo hi none).operands:=by simp[Op.operands]
 rcases ll h with⟨k,off,n,lb,ex,m',rfl,h⟩|⟨rfl,h⟩|⟨rfl,h⟩
 .obtain⟨l,hl,h⟩:=aE h
  obtain⟨hh,J,h⟩:=aE h
  obtain⟨hm,h⟩:=bD h
  obtain⟨r,D,h⟩:=aE h
  obtain⟨rfl,rfl,rfl,rfl⟩:=cn h
  have hm:=dF hm
  subst hm
  obtain⟨g1,D⟩:=bD D
  obtain⟨g2,D⟩:=bD D
  rw[eL] at g1 g2
  refine bn hO hL trivial fun A Z w β ac R=>?_
  obtain⟨c,e1,hk,c1,c2,c3,c4,c5⟩:=RdA.s_eq (aO a4 h1 hv R)
  refine⟨_,EX hU e1 (tv h2 hl a3 R) (tv h3 J W R) g1 (gG g2 c2),?_⟩
  rw[iM,iM] at D
  split at D
  .rename_i hlt
   rw[dj] at hlt
   injection D with D
   subst D
   rw[if_neg (by omega)]
   show RdA A Z w β (.slice (some ((⟨(β k).b,off,none⟩:Addr).add (l*sz))) (hh-l) (c-l)) _
   rw[fI]
   refine .s k (off+l*sz) (hh-l) (lb-l) ex sz (c-l) hk (by omega) (by omega) (by omega) (fun e=>by rw[c4 e]) ?_
   have:l*sz+(c-l)*sz=c*sz:=by rw[<-mS];congr 1;omega
   omega
  .rename_i hlt
   rw[dj] at hlt
   split at D
   .rename_i a5
    injection D with D
    subst D
    have hc:=c4 a5
    rw[if_pos (by omega),show hh-l=0 by omega,show c-l=0 by omega]
    exact .s k off 0 0 true sz 0 hk (bk _) (bk _) (by decide) (fun _=>rfl) (by omega)
   .injection D with D
    subst D
    rw[show hh-l=0 by omega]
    refine .ev _ _ (by omega) (fun ad I=>?_)
    split at I
    .grind
    .have I:some ((⟨(β k).b,off,none⟩:Addr).add (l*sz))=some ad:=I
     rw[fI] at I
     grind
 .obtain⟨l,hl,h⟩:=aE h
  obtain⟨hh,J,h⟩:=aE h
  obtain⟨q1,h⟩:=bD h
  obtain⟨q2,h⟩:=bD h
  obtain⟨rfl,rfl,rfl,rfl⟩:=cn h
  have q1:=dF q1
  have q2:=dF q2
  subst q1 q2
  refine bn hO hL trivial fun A Z w β ac R=>?_
  refine⟨_,EX hU (RdA.z_eq (aO a4 h1 hv R)) (tv h2 hl a3 R) (tv h3 J W R) (bk _) (bk _),?_⟩
  exact .z
 grind
theorem LY (hU:pT P U=some sz) {M:Nat}(e:a.eval y=.slice b n c) (J:(lo=none/\l=0)\/ ∃z k,lo=some z/\a.eval z=.int k (l:Int)) (eh:a.eval zh=.int kh (h:Int)) (eM:a.eval zM=.int kM (M:Int)) (h1:l<=h) (R:h<=M) (h3:M<=c):(execOp a.eval ⟨dst,.slice U y lo (some zh) (some zM),ty,pos,af,gd⟩).run P w=.ok (.value (.slice (if M=l then b else b.map (·.add (l*sz))) (h-l) (M-l))) w:=by
 obtain⟨el,D,I⟩:=NN hU
 have i2:(l:Int)<=(h:Int):=by omega
 have i4:(h:Int)<=(M:Int):=by omega
 have W:(M:Int)<=(c:Int):=by omega
 rcases J with⟨rfl,rfl⟩|⟨z,k,rfl,e1⟩
 .simp[execOp,Instr.sliceAt,Instr.slice,run_underlying D,e,eh,eM,Instr.sliceBounds,Instr.sliceBound,asIntOf,R,h3,I]
 .simp[execOp,Instr.sliceAt,Instr.slice,run_underlying D,e,e1,eh,eM,Instr.sliceBounds,Instr.sliceBound,asIntOf,h1,R,h3,I]
theorem agC (_hT:l6 (TS m L T)) (hO:jJ H) (hL:jN N H) {ho Mo:XO}{x:XV}(hU:pT P U=some sz) (h1:cO m y=some xo) (h2:FL m lo=some lo') (h3:cO m zh=some ho) (h4:cO m zM=some Mo) (h:aam sz xo lo' ho Mo call L T N H=some (.mk x N' H' g)):gV P eO ⟨dst,.slice U y lo (some zh) (some zM),ty,pos,af,gd⟩ (TS m L T) N H x N' H' g:=by
 obtain⟨v,hv,h⟩:=aE h
 obtain⟨a,rfl,h⟩:=iS h
 have a4: ∀z,lo=some z->z∈(Op.slice U y lo (some zh) (some zM)).operands:=fun z e=>by subst e;simp[Op.operands]
 have a5:y∈(Op.slice U y lo (some zh) (some zM)).operands:=by simp[Op.operands]
 have a3: ∀z,(some zh)=some z->z∈(Op.slice U y lo (some zh) (some zM)).operands:=fun z e=>by injection e with e;subst e;simp[Op.operands]
 have R: ∀z,(some zM)=some z->z∈(Op.slice U y lo (some zh) (some zM)).operands:=fun z e=>by injection e with e;subst e;simp[Op.operands]
 rcases ll h with⟨k,off,n,lb,ex,m',rfl,h⟩|⟨rfl,h⟩|⟨rfl,h⟩
 .obtain⟨l,hl,h⟩:=aE h
  obtain⟨hh,J,h⟩:=aE h
  obtain⟨M,hM,h⟩:=aE h
  obtain⟨hm,h⟩:=bD h
  obtain⟨r,D,h⟩:=aE h
  obtain⟨rfl,rfl,rfl,rfl⟩:=cn h
  have hm:=dF hm
  subst hm
  obtain⟨g1,D⟩:=bD D
  obtain⟨g2,D⟩:=bD D
  obtain⟨W,D⟩:=bD D
  rw[eL] at g1 g2 W
  refine bn hO hL trivial fun A Z w β ac I=>?_
  obtain⟨c,e1,hk,c1,c2,c3,c4,c5⟩:=RdA.s_eq (aO a5 h1 hv I)
  have eh:=tv (by simp[FL,h3]) J a3 I
  have eM:=tv (by simp[FL,h4]) hM R I
  obtain⟨q,_⟩|⟨z,kh,q,eh⟩:=eh
  .cases q
  injection q with q
  subst q
  obtain⟨q,_⟩|⟨z,kM,q,eM⟩:=eM
  .cases q
  injection q with q
  subst q
  refine⟨_,LY hU e1 (tv h2 hl a4 I) eh eM g1 g2 (gG W c2),?_⟩
  have a6:M*sz<=c*sz:=nD _ (gG W c2)
  rw[iM] at D
  split at D
  .rename_i hlt
   rw[dj] at hlt
   injection D with D
   subst D
   rw[if_neg (by omega)]
   show RdA A Z w β (.slice (some ((⟨(β k).b,off,none⟩:Addr).add (l*sz))) (hh-l) (M-l)) _
   rw[fI]
   refine .s k (off+l*sz) (hh-l) (M-l) true sz (M-l) hk (by omega) (by omega) (by omega) (fun _=>rfl) ?_
   have:l*sz+(M-l)*sz=M*sz:=by rw[<-mS];congr 1;omega
   omega
  .rename_i hlt
   rw[dj] at hlt
   injection D with D
   subst D
   rw[if_pos (by omega),show hh-l=0 by omega,show M-l=0 by omega]
   exact .s k off 0 0 true sz 0 hk (bk _) (bk _) (by decide) (fun _=>rfl) (by omega)
 .cases h
 grind
theorem zK: ∀ {xs:List XO}{vs:List XV},II xs L T=some vs->vs.length=xs.length/\ ∀(j:Nat) (xo:XO) (v:XV),xs[j]? =some xo->vs[j]? =some v->xo.get L T=some v
 |[],vs,h=>by have h:some []=some vs:=h;injection h with h;subst h;exact⟨rfl,fun j xo v D=>by simp at D⟩
 |x::xs,vs,h=>by
  obtain⟨v,hv,h⟩:=aE (show oO (x.get L T) (fun v=>oO (II xs L T) fun vs=>some (v::vs))=some vs from h);obtain⟨W,J,h⟩:=aE h;injection h with h;subst h;obtain⟨h1,R⟩:=zK J;refine⟨by simp[h1],fun j xo v3 D I=>?_⟩;cases j with
  |zero=>simp at D I;subst D I;exact hv
  |succ j=>exact R j xo v3 (by simpa using D) (by simpa using I)
def D1 (A Z:Nat->Prop) (w:World) (β:Nat->Pl) (vs:List Value) (xs:List XV):Prop:=vs.length=xs.length/\ ∀(j:Nat) (v:Value) (x:XV),vs[j]? =some v->xs[j]? =some x->RdX2 A Z w β v x
theorem o8 {ys:List Operand}(hy: ∀y∈ys,y∈o.op.operands) (J:lE (cO m) ys=some xs) (hg:II xs L T=some vs) (ht:zq A Z w β (ek eO o) (TS m L T) a):D1 A Z w β (ys.map a.eval) vs:=by
 obtain⟨h1,R⟩:=zK hg
 have hl:=xK _ _ J
 refine⟨by simp[hl,h1],fun j v x hv W=>?_⟩
 have hj:j<ys.length:=by grind
 have I:ys[j]? =some ys[j]:=by grind
 have D:xs[j]? =some (xs[j]'(by omega)):=by grind
 have e:v=a.eval ys[j]:=by grind
 rw[e]
 exact aO (hy _ (uW hj)) (BB _ _ J j _ _ I D) (R j _ _ D W) ht
theorem Oo {ys:List Operand}(R:l6 (TS m L T)) (I:lE (cO m) ys=some xs) (hg:II xs L T=some vs): ∀v∈vs,Bc v:=by obtain⟨h1,J⟩:=zK hg;have hl:=xK _ _ I;intro v W;obtain⟨j,D⟩:=CS W;have a3:=(fM.1 D).1;exact uY R (BB _ _ I j _ _ (gI (by omega)) (gI (by omega))) (J j _ _ (gI (by omega)) D)
theorem E5: ∀ {vs:List XV}{y:AV}{f:FuncId},abW f vs=some y-> ∃cs,y.fn=some (f,cs)/\vs=cs.map XV.c
 |[],y,f,h=>by have h:some (AV.f0 f)=some y:=h;injection h with h;subst h;exact⟨[],rfl,rfl⟩
 |v::vs,y,f,h=>by obtain⟨a,rfl,h⟩:=iS (show xC v (fun a=>oO (abW f vs) fun y=>some (.fc a y))=some y from h);obtain⟨J,I,h⟩:=aE h;injection h with h;subst h;obtain⟨cs,h1,D⟩:=E5 I;exact⟨a::cs,by simp[AV.fn,h1],by rw[D];rfl⟩
theorem agx (_hT:l6 (TS m L T)) (hO:jJ H) (hL:jN N H) {f:FuncId}{cs:Array Operand}{x:XV}(R:first.isEmpty=true) (hc:lE (cO m) cs.toList=some xs) (h:aaw f xs call L T N H=some (.mk x N' H' g)):gV P eO ⟨dst,.makeFunc (.func f) first cs,ty,pos,af,gd⟩ (TS m L T) N H x N' H' g:=by
 obtain⟨vs,I,h⟩:=aE h
 obtain⟨y,D,h⟩:=aE h
 obtain⟨rfl,rfl,rfl,rfl⟩:=cn h
 have R:first= #[]:=by grind
 subst R
 obtain⟨us,h1,W⟩:=E5 D
 refine bn hO hL trivial fun A Z w β ac ht=>?_
 have J:=o8 (fun y D=>by simp[Op.operands];simpa using D) hc I ht
 refine⟨.func (.func f) #[] (cs.map ac.eval),by simp[execOp,Instr.makeFunc],?_⟩
 refine .f f (cs.map ac.eval) us y h1 ?_ (fun j v x hv hx=>?_)
 .have:=J.1;rw[W] at this;simpa using this
 .refine J.2 j v (.c x) ?_ ?_
  .grind
  grind
end
section
variable {P:Program}{eO:Array Oper}{o:Oper}{TT:TX}{m N:Nat}{L:LX}{T:Tr XV}{H:Tr Bx}{x:XV}
variable {N':Nat}{H':Tr Bx}{g:Lg}{call:fV}
variable {dst:Option Nat}{ty:TypeId}{pos:String}{af:Array Edge}{gd:Option (Nat×Bool)}
theorem pi {b:Bx}{c}(h:HS (H.set b k) j=some c):(j=k/\c=(b.U,b.r.flat))\/(j≠k/\HS H j=some c):=by
 unfold HS at h⊢;cases h1:(H.set b k).get j with
 |none=>rw[h1] at h;cases h
 |some I=>
  rcases Tr.set_get H k j h1 with⟨e1,D⟩|⟨e1,D⟩;·grind
  grind
theorem oI {b:Bx}(W:jJ H) (h1:b.r.ok) (I:b.n=b.r.flat.length):jJ (H.set b k):=fun j R J=>by
 rcases Tr.set_get H k j J with⟨_,D⟩|⟨_,D⟩;·subst D;exact⟨h1,I⟩
 .exact W j R D
theorem oR {b:Bx}(J:jN N H) (h1:N<=N') (W:k<N'):jN N' (H.set b k):=fun j I D=>by
 rcases Tr.set_get H k j D with⟨e1,_⟩|⟨_,R⟩;·omega
 .have:=J j I R;omega
theorem rm {b:Bx}(h:H.get k=some b):HS H k=some (b.U,b.r.flat):=by unfold HS;rw[h];rfl
theorem xM (hO:jJ H) (hL:jN N H) {U:Nat}{y:AV}(hr:r.ok) (hn:n=r.flat.length) (h: ∀A Z w β a,zq A Z w β (ek eO o) TT a-> ∃v,∃vs:Array Value,(execOp a.eval o).run P w=.ok (.value v) (w.alloc (.cells vs U))/\RdAs A Z w β vs.toList r.flat/\ ∀A' Z' w' R,A' N->R N=⟨w.heap.size,vs.size⟩->RdA A' Z' w' R v y):gV P eO o TT N H (.c y) (N+1) (H.set ⟨U,n,r⟩ N) (.nw N):=by
 have hf:Foot N (N+1) H (H.set ⟨U,n,r⟩ N) e0 (fun k=>if k=N then some (U,r.flat) else none) (.nw N):=⟨rfl,rfl,rfl,fun j hj=>if_neg hj⟩
 refine⟨Nat.le_succ _,trivial,oI hO hr hn,oR hL (ra _) (Nat.lt_succ_self _),e0,fun k=>if k=N then some (U,r.flat) else none,?_,fun k c h=>(by cases h),?_,hf⟩
 .intro V A β a w hA hm ht
  obtain⟨v,vs,a4,W,hv⟩:=h _ _ w β a ht
  unfold Gives
  rw[a4]
  have hN: ∀k,A k->k≠N:=by grind
  have a5:vs.size=r.flat.length:=by rw[<-W.1];simp
  have hH:Hst N (N+1) A e0 β w (fun k=>if k=N then some (U,r.flat) else none) (fun k=>if k=N then⟨w.heap.size,vs.size⟩ else β k) (w.alloc (.cells vs U)):=by
   refine⟨rfl,rfl,rfl,by simp,fun b hb _=>wx _ _ _ hb,fun k D=>if_neg (hN k D),fun k D=>?_,fun k D=>?_⟩;·grind
   grind
  refine⟨fun k=>A k\/k=N,fun k=>if k=N then⟨w.heap.size,vs.size⟩ else β k,fun k D=>.inl D,fun k D=>?_,?_,hH,hv _ _ _ _ (.inr rfl) (if_pos rfl)⟩
  .rcases D with D|D
   .exact .inl D
   .exact .inr ⟨Nat.le_of_eq D.symm,by show k<N+1;omega⟩
  .refine⟨fun b hb=>by rw[d8];exact Nat.lt_succ_of_lt (hm.vlt b hb),fun k D=>?_,fun k D=>?_,fun k l D hl _=>?_,fun k D a3=>?_,fun k U' cs D=>?_⟩
   .grind
   .rw[d8]
    rcases D with D|D
    .rw[if_neg (hN k D)];exact Nat.lt_succ_of_lt (hm.lt k D)
    grind
   .grind
   .by_cases e:k=N
    .rw[if_pos e] at a3
     have:=hm.vlt _ a3
     grind
    grind
   .by_cases e:k=N
    .have I:(if k=N then some (U,r.flat) else none)=some (U',cs):=D
     rw[if_pos e] at I
     injection I with I
     injection I with h1 h2
     subst h1 h2
     rw[if_pos e]
     refine⟨vs,heap_alloc_new w _,rfl,by omega,?_⟩
     rw[dS (by simp;omega)]
     exact W.mono (hH.keep hm) (fun _ h=>.inl h) hH.same
    grind
 .intro k c D
  rcases pi D with⟨e,hc⟩|⟨e,hc⟩
  .show iK (HS H) e0 _ k=_
   unfold iK
   grind
  .show iK (HS H) e0 _ k=_
   show(match (if k=N then some (U,r.flat) else none),(none:Option (TypeId×List AV)) with|some c,_=>some c|none,some _=>none|none,none=>HS H k)=some c
   grind
theorem yK {y x:XV}{U:Nat}(h:nwB y U n r N H=some (.mk x N' H' g)):x=y/\N'=N+1/\H'=H.set ⟨U,n,r⟩ N/\g=.nw N:=by unfold nwB at h;grind
theorem LB {z:Value}(h:acA z=some zs):RdAs A Z w β z.cells.toList zs:=by
 unfold acA at h;split at h;·exact yI h
 .rename_i I;cases h1:mZ z with
  |none=>rw[h1] at h;cases h
  |some J=>rw[h1] at h;injection h with h;subst h;have D:RdA A Z w β z J:=uO h1;rw[D.one.1];exact RdAs.cons D RdAs.nil
theorem Ah (h:zcA P U=some zs): ∃D z,P.info? U=some D/\D.zero=some z/\ ∀A Z w β,RdAs A Z w β z.cells.toList zs:=by
 unfold zcA at h;cases hi:P.info? U with
 |none=>rw[hi] at h;cases h
 |some D=>
  rw[hi] at h;dsimp only at h;cases I:D.zero with
  |none=>rw[I] at h;cases h
  |some z=>rw[I] at h;exact⟨D,z,rfl,I,fun A Z w β=>LB h⟩
theorem Yi (W:jJ H) (hL:jN N H) {x:XV}(J:zcA P U=some zs) (h:MJ U zs.length (vV zs) call L T N H=some (.mk x N' H' g)):gV P eO ⟨dst,.alloc U,ty,pos,af,gd⟩ (TS m L T) N H x N' H' g:=by
 obtain⟨rfl,rfl,rfl,rfl⟩:=yK h
 obtain⟨h1,R⟩:=nF zs
 refine xM W hL h1 (by rw[R]) fun A Z w β a _=>?_
 obtain⟨it,z,hi,J,hr⟩:=Ah J
 refine⟨.pointer (some ⟨w.heap.size,0,none⟩),z.cells,?_,by rw[R];exact hr _ _ _ _,fun A' Z' w' I hA D=>?_⟩
 .simp[execOp,Instr.alloc,zeroValue,typeInfo,program,Sem.run,hi,J,newVar,newRow,newObj]
  try rfl
 .have:=RdA.p (Z:=Z') (w:=w') (β:=I) N 0 hA
  rw[D] at this;exact this
theorem C5 {y:XV}(h:RdX2 A Z w β v y) (D:y.rp=some (n,r)):RdAs A Z w β v.cells.toList r.flat:=by
 cases y with
 |c a=>injection D with D;injection D with h1 I;subst h1 I;exact RdD.cells (d:=.c a) h
 |a n' J=>injection D with D;injection D with h1 I;subst h1 I;exact RdD.cells (d:=.a n' J) h
 |t R=>cases D
 |u=>cases D
theorem QL {y:XV}(h:Bc y) (D:y.rp=some (n,r)):r.ok/\n=r.flat.length:=by
 cases y with
 |c a=>injection D with D;injection D with h1 I;subst h1 I;exact⟨trivial,rfl⟩
 |a n' R=>injection D with D;injection D with h1 I;subst h1 I;exact h
 |t J=>cases D
 |u=>cases D
theorem afN (hT:l6 (TS m L T)) (hO:jJ H) (hL:jN N H) {x:XV}(W:cO m y=some xo) (h:Zp U xo call L T N H=some (.mk x N' H' g)):gV P eO ⟨dst,.box U y,ty,pos,af,gd⟩ (TS m L T) N H x N' H' g:=by
 obtain⟨v,R,h⟩:=aE h
 obtain⟨n,r,D,h⟩:=GJ h
 obtain⟨rfl,rfl,rfl,rfl⟩:=yK h
 obtain⟨h1,h2⟩:=QL (uY hT W R) D
 refine xM hO hL h1 h2 fun A Z w β a ht=>?_
 refine⟨.pointer (some ⟨w.heap.size,0,none⟩),(a.eval y).cells,?_,C5 (aO (by simp[Op.operands]) W R ht) D,fun A' Z' w' J hA I=>?_⟩
 .simp[execOp,Instr.box,Sem.run,newVar,newRow,newObj]
  try rfl
 .have:=RdA.p (Z:=Z') (w:=w') (β:=J) N 0 hA
  rw[I] at this;exact this
def pZ (H:Tr Bx) (k:Nat):HF:=fun j=>if j=k then HS H k else none
theorem Db {c}(h:pZ H k j=some c):HS H j=some c:=by
 unfold pZ at h;split at h;·grind
 grind
theorem vE:pZ H k k=HS H k:=if_pos rfl
theorem EE (J:jJ H) (R:jN N H) {b:Bx}(hb:H.get k=some b) (I:Bc x) (h: ∀V A β a w,Mem V A (pZ H k) β w->zq A (Zs V (pZ H k) β) w β (ek eO o) TT a-> ∃v,(execOp a.eval o).run P w=.ok (.value v) w/\RdX2 A (Zs V (pZ H k) β) w β v x):gV P eO o TT N H x N H (.r k):=by
 have hf:Foot N N H H (pZ H k) (pZ H k) (.r k):=⟨fun j hj=>if_neg hj,rfl,rfl,by rw[rm hb];rfl⟩
 have hp:iK (HS H) (pZ H k) (pZ H k)=HS H:=by
  funext j;unfold iK;cases h:pZ H k j with
  |none=>rfl
  |some c=>exact(Db h).symm
 refine⟨Nat.le_refl _,I,J,R,pZ H k,pZ H k,?_,fun j c h=>Db h,fun j c h=>(by rw[hp];exact h),hf⟩
 intro V A β a w _ hm ht
 obtain⟨v,D,W⟩:=h V A β a w hm ht
 unfold Gives
 rw[D]
 exact⟨A,β,fun _ h=>h,fun _ h=>.inl h,hm,Hst.refl,W⟩
theorem afJ (_hT:l6 (TS m L T)) (hO:jJ H) (hL:jN N H) {x:XV}(hU:mT P U=some (true,n)) (hc:cO m y=some xo) (h:ZD n xo call L T N H=some (.mk x N' H' g)):gV P eO ⟨dst,.load U y,ty,pos,af,gd⟩ (TS m L T) N H x N' H' g:=by
 obtain⟨v,D,h⟩:=aE h
 obtain⟨k,off,rfl,h⟩:=qI h
 obtain⟨b,hb,h⟩:=aE h
 obtain⟨hn,h⟩:=bD h
 rw[eL] at hn
 injection h with h
 injection h with h1 h2 h3 h4
 subst h1 h2 h3 h4
 obtain⟨W,a3⟩:=hO k b hb
 obtain⟨g1,g2⟩:=kn b.r b.n off n W a3 hn
 have a4:off+n<=b.r.flat.length:=by grind
 refine EE hO hL hb ⟨g1,by rw[g2];simp;omega⟩ fun V A β a w hm ht=>?_
 obtain⟨e1,hk⟩:=RdA.p_eq (aO (by simp[Op.operands]) hc D ht)
 obtain⟨vs,ev,hz,hl,hr⟩:=hm.box k b.U b.r.flat (by rw[vE];exact rm hb)
 have I:=(hr.drop off).take n
 have J:((vs.toList.take b.r.flat.length).drop off).take n=((vs.toList.drop off).take n):=by rw[wH,xk,jh (by omega)]
 rw[J] at I
 have R:=iv hU (off:=off) (vs:=(vs.toList.drop off).take n) (by simp;omega) (fun j v D=>by
  rw[kS] at D;split at D;·rw[bR ev,<-D];simp
  .cases D)
 refine⟨.agg ((vs.toList.drop off).take n).toArray,?_,((vs.toList.drop off).take n).toArray,rfl,by rw[g2];simpa using I⟩
 simp only[execOp,Instr.loadAt,e1,Instr.sureAddr,fh,dA,ft,R]
theorem ae2 (_hT:l6 (TS m L T)) (hO:jJ H) (hL:jN N H) {x:XV}(hU:mT P U=some (false,n)) (hc:cO m y=some xo) (h:aav xo call L T N H=some (.mk x N' H' g)):gV P eO ⟨dst,.load U y,ty,pos,af,gd⟩ (TS m L T) N H x N' H' g:=by
 obtain⟨v,hv,h⟩:=aE h
 obtain⟨k,off,rfl,h⟩:=qI h
 obtain⟨b,W,h⟩:=aE h
 obtain⟨c,D,h⟩:=aE h
 injection h with h
 injection h with h1 h2 h3 h4
 subst h1 h2 h3 h4
 obtain⟨R,a4⟩:=hO k b W
 rw[sn b.r off R] at D
 have hlt:=(fM.1 D).1
 refine EE hO hL W trivial fun V A β a w hm ht=>?_
 obtain⟨e1,hk⟩:=RdA.p_eq (aO (by simp[Op.operands]) hc hv ht)
 obtain⟨vs,ev,hz,hl,hr⟩:=hm.box k b.U b.r.flat (by rw[vE];exact rm W)
 have I:vs.toList[off]? =some (vs.toList[off]'(by simp;omega)):=by grind
 refine⟨_,?_,hr.2 off (vs.toList[off]'(by simp;omega)) c (by rw[kS,if_pos hlt];exact I) D⟩
 simp only[execOp,Instr.loadAt,e1,Instr.sureAddr,fh,dA,ft,ip hU (by rw[bR ev,<-mW,I])]
theorem v5 {Hv:HF}{cs:List AV}(hm:Mem V A Hv β w) (hk:Hv k=some (U,cs0)) {vs:Array Value}(hz:vs.size=(β k).z) (hh:w'.heap=w.heap.setIfInBounds (β k).b (.cells vs U (0,0))) (ho:w'.os=w.os) (ht:w'.tape=w.tape) (hu:w'.output=w.output) (hl:cs.length<=vs.size) (hr:RdAs A (Zs V Hv β) w β (vs.toList.take cs.length) cs):Mem V A (fun j=>if j=k then some (U,cs) else Hv j) β w'/\Hst N N A Hv β w (fun j=>if j=k then some (U,cs) else Hv j) β w':=by
 have I: ∀j,(if j=k then some (U,cs) else Hv j)≠none↔Hv j≠none:=by grind
 have W:w'.heap.size=w.heap.size:=by grind
 have a3:(β k).b<w.heap.size:=hm.lt k (hm.dom k (by rw[hk];simp))
 have R: ∀b,b≠(β k).b->w'.heap[b]? =w.heap[b]? :=by grind
 have hH:Hst N N A Hv β w (fun j=>if j=k then some (U,cs) else Hv j) β w':=
  ⟨ho,ht,hu,by omega,fun b _ hb=>R b (fun e=>hb k (by rw[hk];simp) e.symm),fun _ _=>rfl,fun j D=>.inr ⟨j,(I j).1 D,rfl⟩,fun j D=>.inl ((I j).1 D)⟩
 have J:=hH.keep hm
 refine⟨⟨fun b hb=>by rw[W];exact hm.vlt b hb,fun j D=>hm.dom j ((I j).1 D),fun j D=>by rw[W];exact hm.lt j D,fun j l D hl=>hm.inj j l ((I j).1 D) ((I l).1 hl),fun j D=>hm.clr j ((I j).1 D),fun j U' cs' D=>?_⟩,hH⟩
 by_cases e:j=k
 .subst e
  rw[if_pos rfl] at D
  injection D with D
  injection D with h1 h2
  subst h1 h2
  exact⟨vs,by rw[hh];simp[a3],hz,hl,hr.mono J (fun _ h=>h) (fun _ _=>rfl)⟩
 .rw[if_neg e] at D
  obtain⟨a4,e1,e2,e3,e4⟩:=hm.box j U' cs' D
  refine⟨a4,(R _ (fun q=>e (hm.inj j k (by rw[D];simp) (by rw[hk];simp) q))).trans e1,e2,e3,e4.mono J (fun _ h=>h) (fun _ _=>rfl)⟩
theorem ah4 (hT:l6 (TS m L T)) (hO:jJ H) (hL:jN N H) {x:XV}(hU:mT P U=some (q,n)) (hc:cO m y=some xo) (b3:cO m z=some yo) (h:afu n xo yo call L T N H=some (.mk x N' H' g)):gV P eO ⟨dst,.store U y z,ty,pos,af,gd⟩ (TS m L T) N H x N' H' g:=by
 obtain⟨v,hv,h⟩:=aE h
 obtain⟨v2,a6,h⟩:=aE h
 obtain⟨k,off,q1,h⟩:=qI h
 subst q1
 obtain⟨b,hb,h⟩:=aE h
 obtain⟨n',d,a4,h⟩:=GJ h
 obtain⟨hn,h⟩:=bD h
 obtain⟨J,h⟩:=bD h
 have hn:=dF hn
 subst hn
 rw[eL] at J
 injection h with h
 injection h with h1 h2 h3 h4
 subst h1 h2 h3 h4
 obtain⟨b4,I⟩:=hO k b hb
 obtain⟨b7,a3⟩:=QL (uY hT b3 a6) a4
 obtain⟨g1,g2⟩:=vO b7 b.r b.n off n' b4 I a3 J
 have c3:off+n'<=b.r.flat.length:=by rw[<-I];exact J
 have D:b.n=(mQ d b.r b.n off n').flat.length:=by rw[g2,I];simp;omega
 have hf:Foot N N H (H.set ⟨b.U,b.n,mQ d b.r b.n off n'⟩ k) (pZ H k) (fun j=>if j=k then some (b.U,(mQ d b.r b.n off n').flat) else pZ H k j) (.w k):=⟨fun j hj=>⟨if_neg hj,(if_neg hj).trans (if_neg hj)⟩,rfl⟩
 have W:=rm hb
 refine⟨Nat.le_refl _,trivial,oI hO g1 D,oR hL (bk _) (hL k b hb),pZ H k,fun j=>if j=k then some (b.U,(mQ d b.r b.n off n').flat) else pZ H k j,?_,fun j c h=>Db h,fun j c hj=>?_,hf⟩
 .intro V A β a w _ hm ht
  obtain⟨e1,hk⟩:=RdA.p_eq (aO (by simp[Op.operands]) hc hv ht)
  have R:=C5 (aO (by simp[Op.operands]) b3 a6 ht) a4
  obtain⟨vs,ev,hz,hl,hr⟩:=hm.box k b.U b.r.flat (vE.trans W)
  obtain⟨_,b6⟩:=oW hU w
  have a5:(a.eval z).cells.size=n':=by rw[a3,<-R.1];simp
  have a9:(execOp a.eval ⟨dst,.store U y z,ty,pos,af,gd⟩).run P w=.ok .skip (w.setRow (β k).b (vs.toList.take (off+0)++(a.eval z).cells.toList++vs.toList.drop (off+0+(a.eval z).cells.toList.length)).toArray):=by simp only[execOp,Instr.storeAt,e1,Instr.sureAddr,storeVar,fh,dA,ft,b6];rw[if_neg (by simp[a5])];rw[run_storeCells_at (P:=P) (β k).b off b.U (a.eval z).cells.toList 0 vs w ev (by simp;omega) R.one];rfl
  unfold Gives
  rw[a9]
  have el:(a.eval z).cells.toList.length=n':=by simpa using a5
  simp only[ru,el]
  obtain⟨m1,m2⟩:=v5 hm (vE.trans W) (vs:=(vs.toList.take off++(a.eval z).cells.toList++vs.toList.drop (off+n')).toArray) (by simp;omega) (f7 ev) rfl rfl rfl
   (by rw[<-D,I];simp;omega) (by
    rw[<-D,g2];have hw:=tQ (tQ (hr.take off) R) (hr.drop (off+n'));have e3:(vs.toList.take b.r.flat.length).take off=vs.toList.take off:=by rw[xk,jh (by omega)]
    rw[e3] at hw;have e4:((vs.toList.take off++(a.eval z).cells.toList++vs.toList.drop (off+n')).toArray).toList.take b.n=vs.toList.take off++(a.eval z).cells.toList++(vs.toList.take b.r.flat.length).drop (off+n'):=by rw[List.take_append,dS (by simp;omega),wH];grind
    rw[e4];exact hw)
  exact⟨A,β,fun _ h=>h,fun _ h=>.inl h,m1,m2,rfl⟩
 .show iK (HS H) (pZ H k) (fun j=>if j=k then some (b.U,(mQ d b.r b.n off n').flat) else pZ H k j) j=some c
  unfold iK
  rcases pi hj with⟨e,hc⟩|⟨e,hc⟩
  .grind
  .show(match (if j=k then some (b.U,(mQ d b.r b.n off n').flat) else pZ H k j),pZ H k j with|some c,_=>some c|none,some _=>none|none,none=>HS H j)=some c
   rw[if_neg e,show pZ H k j=none from if_neg e];exact hc
end
structure CallP (P:Program) (f:FuncId) (vs:List XV) (x:XV):Prop where
 cal:dk P f=true
 ok:Bc x
 run: ∀(Z A:Nat->Prop) (β:Nat->Pl) (args:Array Value) (w:World),(∀b,Z b->b<w.heap.size)->D1 A Z w β args.toList vs->
  Calls P f args w fun e w'=> ∃v,e=.returned v/\(∀A' β',RdX2 A' Z w' β' v x)/\Below w.heap.size w w'
structure CallH (P:Program) (f:FuncId) (vs:List XV) (N:Nat) (H:Tr Bx) (x:XV) (N':Nat) (H':Tr Bx):Prop where
 le:N<=N'
 cal:dk P f=true
 ok:Bc x
 hok:jJ H'
 hlt:jN N' H'
 run: ∀(V A:Nat->Prop) (β:Nat->Pl) (args:Array Value) (w:World),(∀k,A k-> ¬(N<=k/\k<N'))->Mem V A (HS H) β w->D1 A (Zs V (HS H) β) w β args.toList vs->
  Calls P f args w fun e w'=> ∃v A' β',e=.returned v/\(∀k,A k->A' k)/\(∀k,A' k->Ad A N N' k)/\Mem V A' (HS H') β' w'/\Hst N N' A (HS H) β w (HS H') β' w'/\RdX2 A' (Zs V (HS H') β') w' β' v x
def jU (P:Program) (call:fV):Prop:= ∀f vs N H,(∀v∈vs,Bc v)->jJ H->jN N H->(∀x,call f vs N H=.p x->CallP P f vs x)/\ ∀x N' H',call f vs N H=.h x N' H'->CallH P f vs N H x N' H'
section
variable {P:Program}{eO:Array Oper}{o:Oper}{TT:TX}{m N:Nat}{L:LX}{T:Tr XV}{H:Tr Bx}{x:XV}
variable {N':Nat}{H':Tr Bx}{g:Lg}{call:fV}
variable {dst:Option Nat}{ty:TypeId}{pos:String}{af:Array Edge}{gd:Option (Nat×Bool)}
theorem age:Zs V e0 β=V:=by
 funext b;refine propext ⟨?_,.inl⟩;rintro(h|⟨k,D,_⟩);·exact h
 .exact absurd rfl D
theorem Ps (hm:Mem V A e0 β w) (I:Below w.heap.size w w'):Mem V A e0 β w'/\Hst N N A e0 β w e0 β w':=by refine⟨⟨fun b h=>kW (hm.vlt b h) I.size,fun k D=>absurd rfl D,fun k D=>kW (hm.lt k D) I.size,fun k l D=>absurd rfl D,fun k D=>absurd rfl D,fun k U cs D=>by cases D⟩,I.os,I.tape,I.output,I.size,fun b h _=>I.block b h,fun _ _=>rfl,fun k D=>absurd rfl D,fun k D=>absurd rfl D⟩
theorem Ey (hO:jJ H) (hL:jN N H) (I:jU P call) {f:FuncId}(a3: ∀v∈vs,Bc v) (h:crR H N (call f vs N H)=some (.mk x N' H' g)) (D:dk P f=true-> ∀A Z w β a,zq A Z w β (ek eO o) TT a-> ∃args:Array Value,(execOp a.eval o).run P w=.ok (.enter f args) w/\D1 A Z w β args.toList vs):gV P eO o TT N H x N' H' g:=by
 obtain⟨hp,hh⟩:=I f vs N H a3 hO hL
 cases J:call f vs N H with
 |no=>rw[J] at h;cases h
 |p y=>
  rw[J] at h
  injection h with h
  injection h with h1 R h3 h4
  subst h1 R h3 h4
  have hP:=hp y J
  have hf:Foot N N H H e0 e0 .p:=⟨rfl,rfl,rfl⟩
  refine⟨Nat.le_refl _,hP.ok,hO,hL,e0,e0,fun V A β a w _ hm ht=>?_,fun k c h=>(by cases h),fun k c h=>(by rw[Gs];exact h),hf⟩
  obtain⟨args,e1,W⟩:=D hP.cal _ _ w β a ht
  unfold Gives
  rw[e1]
  refine(hP.run (Zs V e0 β) A β args w (by rw[age];exact hm.vlt) W).mono ?_
  rintro e w' ⟨v,rfl,hx,hb⟩
  obtain⟨m1,m2⟩:=Ps hm hb
  exact⟨v,rfl,A,β,fun _ h=>h,fun _ h=>.inl h,m1,m2,hx A β⟩
 |h y M K=>
  rw[J] at h
  injection h with h
  injection h with h1 R h3 h4
  subst h1 R h3 h4
  have hC:=hh y M K J
  have hf:Foot N M H K (HS H) (HS K) (.c H K):=⟨rfl,rfl,rfl,rfl⟩
  refine⟨hC.le,hC.ok,hC.hok,hC.hlt,HS H,HS K,fun V A β a w hA hm ht=>?_,fun k c h=>h,fun k c h=>?_,hf⟩
  .obtain⟨args,e1,W⟩:=D hC.cal _ _ w β a ht
   unfold Gives
   rw[e1]
   refine(hC.run V A β args w hA hm W).mono ?_
   grind
  .unfold iK;rw[h]
theorem Fv {f:FuncId}(D:dk P f=true) {c:Call}(hc:c.callee=.value fo) (W:a.eval fo=.func (.func f) #[] cs) (ha:args=c.args.map a.eval++cs):(execOp a.eval ⟨dst,.call c,ty,pos,af,gd⟩).run P w=.ok (.enter f args) w:=by
 subst ha
 unfold dk at D
 cases I:P.funcs[f]? with
 |none=>rw[I] at D;cases D
 |some fn=>
  rw[I] at D
  simp only[di,bne_iff_ne,ne_eq,uP] at D
  have J:fn.body≠none:=by have:=D.2;cases R:fn.body with
   |none=>rw[R] at this;cases this
   |some c=>simp
  simp[execOp,resolve,hc,W,Deferred.ofValue,invoke,callFunc,program,Sem.run,I,D.1,J]
theorem abi (hT:l6 (TS m L T)) (hO:jJ H) (hL:jN N H) (D:jU P call) {f:FuncId}{x:XV}(W:lE (cO m) ys.toList=some xs) (h:Lk f xs call L T N H=some (.mk x N' H' g)):gV P eO ⟨dst,.call ⟨.value (.func f),ys,ats⟩,ty,pos,af,gd⟩ (TS m L T) N H x N' H' g:=by
 obtain⟨vs,I,h⟩:=aE h
 refine Ey hO hL D (Oo hT W I) h fun J A Z w β a ht=>?_
 exact⟨ys.map a.eval,Fv J rfl rfl (by simp),by simpa using (o8 (fun y hy=>by have R:=tz.1 hy;simp[Op.operands,Call.operands,R]) W I ht)⟩
theorem TD: ∀ {y:AV}{D:List XV}{k:FuncId->List XV->Option Rs}{r:Rs},fnX y D k=some r-> ∃f cs,y.fn=some (f,cs)/\k f (D.reverse++cs.map .c)=some r:=by
 intro y;induction y with
 |f0 g=>intro D k r h;exact⟨g,[],rfl,by simpa using(show k g D.reverse=some r from h)⟩
 |fc a y _ I=>intro D k r h;obtain⟨f,cs,h1,J⟩:=I (show fnX y (.c a::D) k=some r from h);exact⟨f,a::cs,by simp[AV.fn,h1],by simpa using J⟩
 |_=>intro D k r h;cases h
theorem RdA.fn_eq {y:AV}{f:FuncId}{xs:List AV}(h:RdA A Z w β v y) (D:y.fn=some (f,xs)): ∃cs:Array Value,v=.func (.func f) #[] cs/\RdAs A Z w β cs.toList xs:=by
 cases h with
 |f g cs ys _ h0 h1 I=>rw[h0] at D;injection D with D;injection D with e1 R;subst e1 R;exact⟨cs,rfl,by simpa using h1,fun j v x W J=>I j v x (by rw[<-mW];exact W) J⟩
 |_=>cases D
theorem aaR (hT:l6 (TS m L T)) (hO:jJ H) (hL:jN N H) (J:jU P call) {t:Nat}{fo:XO}{x:XV}(a5:cO m (.tmp t)=some fo) (hc:lE (cO m) ys.toList=some xs) (h:TY fo xs call L T N H=some (.mk x N' H' g)):gV P eO ⟨dst,.call ⟨.value (.tmp t),ys,ats⟩,ty,pos,af,gd⟩ (TS m L T) N H x N' H' g:=by
 obtain⟨v,D,h⟩:=aE h
 obtain⟨y,q,h⟩:=iS h
 subst q
 obtain⟨vs,W,h⟩:=aE h
 obtain⟨f,cs,hf,h⟩:=TD h
 rw[List.reverse_reverse] at h
 refine Ey hO hL J (fun v D=>?_) h fun a3 A Z w β a ht=>?_
 .rcases lh.1 D with D|D
  .exact Oo hT hc W v D
  .obtain⟨c,_,rfl⟩:=nZ.1 D
   trivial
 .have hr:=o8 (fun y hy=>by have a4:=tz.1 hy;simp[Op.operands,Call.operands,a4]) hc W ht
  obtain⟨us,e1,hu⟩:=RdA.fn_eq (aO (by simp[Op.operands,Call.operands]) a5 D ht) hf
  refine⟨ys.map a.eval++us,Fv a3 rfl e1 rfl,?_,fun j v x D I=>?_⟩
  .have h1:=hr.1
   have h2:=hu.1
   grind
  .have h1:=hr.1
   simp only[Array.toList_append,q9] at D
   by_cases hj:j<vs.length
   .rw[ui (by rw[h1];exact hj)] at D
    rw[ui hj] at I
    exact hr.2 j v x D I
   .rw[xq (by rw[h1];omega)] at D
    rw[xq (by omega),pU] at I
    rw[h1] at D
    cases R:cs[j-vs.length]? with
    |none=>rw[R] at I;cases I
    |some c=>
     rw[R] at I
     injection I with I
     subst I
     exact hu.2 _ v c D R
theorem Gb {pl:Nat->Option (Nat×Nat)}(hT:l6 (TS m L T)) {I:Nat}: ∀ {ps:List (Nat×Operand)}{qs:List (Nat×Nat×XO)}{r R:Rp},cPs m pl ps=some qs->Ol L T I qs r=some R->r.ok->I=r.flat.length->R.ok/\I=R.flat.length/\ ∀A Z w β a (cells:Array Value),(∀p∈ps,p.2∈o.op.operands)->zq A Z w β (ek eO o) (TS m L T) a->RdAs A Z w β cells.toList r.flat-> ∃D,Instr.fill pl cells (ps.map fun(i,y)=>(i,a.eval y))=some D/\RdAs A Z w β D.toList R.flat
 |[],qs,r,R,h,J,hr,ht=>by injection h with h;subst h;have J:some r=some R:=J;injection J with J;subst J;exact⟨hr,ht,fun A Z w β a cells _ _ hc=>⟨cells,rfl,hc⟩⟩
 |(i,y)::ps,qs,r,R,h,J,hr,ht=>by
  unfold cPs at h;split at h;case h_2=>cases h
  rename_i off sz y' ys h1 h2 h3;injection h with h;subst h;obtain⟨v,hv,J⟩:=aE (show oO (y'.get L T) (fun v=>xD v fun n d=>bT (Nat.beq n sz) (bT (Nat.ble (Nat.add off n) I) (Ol L T I ys (mQ d r I off n))))=some R from J);obtain⟨n,d,a5,b6⟩:=GJ J;obtain⟨hn,b3⟩:=bD b6;obtain⟨a4,b5⟩:=bD b3;have hn:=dF hn;subst hn;rw[eL] at a4;obtain⟨c6,a3⟩:=QL (uY hT h2 hv) a5;have a9:off+n<=I:=a4;obtain⟨g1,g2⟩:=vO c6 r I off n hr ht a3 a9;obtain⟨k1,k2,k3⟩:=Gb hT h3 b5 g1 (by rw[g2];simp;omega);refine⟨k1,k2,fun A Z w β a cells hy W hc=>?_⟩;have a6:=C5 (aO (hy (i,y) (by simp)) h2 hv W) a5;have b4:(a.eval y).cells.size=n:=by rw[a3,<-a6.1];simp
  have c7:cells.size=I:=by rw[ht,<-hc.1];simp
  have c5:RdAs A Z w β (((a.eval y).cells.zipIdx.foldl (fun(cs:Array Value) (p:Value×Nat)=>cs.setIfInBounds (off+p.2) p.1) cells)).toList (mQ d r I off n).flat:=by
   rw[<-Array.foldl_toList];have:(a.eval y).cells.zipIdx.toList=(a.eval y).cells.toList.zipIdx:=by simp
   rw[this,xn off (a.eval y).cells.toList 0 cells (by simp;omega),g2];refine tQ (tQ (by simpa using hc.take off) a6) ?_;have:=hc.drop (off+n);grind
  obtain⟨D,e,b7⟩:=k3 A Z w β a _ (fun p hp=>hy p (by simp[hp])) W c5;refine⟨D,?_,b7⟩;show Instr.fill pl cells ((i,a.eval y)::ps.map fun(i,y)=>(i,a.eval y))=_;unfold Instr.fill;rw[h1];dsimp only;rw[if_neg (by simp[b4];omega)];exact e
theorem VX (hT:l6 (TS m L T)) (hO:jJ H) (hL:jN N H) {pl:List (Nat×Nat)}{x:XV}(hU:H4 P U=some pl) (R:zcA P U=some zs) (I:cPs m (fun i=>pl[i]?) ps.toList=some qs) (h:MF zs.length (vV zs) qs call L T N H=some (.mk x N' H' g)):gV P eO ⟨dst,.build U ps,ty,pos,af,gd⟩ (TS m L T) N H x N' H' g:=by
 obtain⟨r,hr,h⟩:=aE h
 obtain⟨rfl,rfl,rfl,rfl⟩:=cn h
 obtain⟨z1,z2⟩:=nF zs
 obtain⟨k1,k2,k3⟩:=Gb hT I hr z1 (by rw[z2])
 refine bn hO hL ⟨k1,k2⟩ fun A Z w β a ht=>?_
 obtain⟨it,z,hi,R,W⟩:=Ah R
 obtain⟨cells,D,J⟩:=k3 A Z w β a z.cells (fun p I=>by simp only[Op.operands,List.mem_toArray,nZ];exact⟨p,I,rfl⟩) ht (by rw[z2];exact W _ _ _ _)
 refine⟨.agg cells,?_,cells,rfl,J⟩
 unfold H4 at hU
 split at hU
 .rename_i fs hu
  have:=run_build (P:=P) w U (ps.map fun(i,x)=>(i,a.eval x)) cells (by unfold Program.built;simp only[hi,hu,R,hU];simpa using D)
  simp[execOp,this]
 grind
end
section
variable {P:Program}{eO:Array Oper}{o:Oper}{TT:TX}{m N:Nat}{L:LX}{T:Tr XV}{H:Tr Bx}{x:XV}
variable {N':Nat}{H':Tr Bx}{g:Lg}{call:fV}
variable {dst:Option Nat}{ty:TypeId}{pos:String}{af:Array Edge}{gd:Option (Nat×Bool)}
theorem uk (h:QR P U=some (e,sz,by_,zs)):P.underlying U=some (.slice e)/\ ∃i z,P.info? e=some i/\i.zero=some z/\i.size=sz/\i.bytes=by_/\zs.length=sz/\0<sz/\ ∀A Z w β,RdAs A Z w β z.cells.toList zs:=by
 unfold QR at h;split at h
 .rename_i e' R;split at h
  .rename_i i zs' hi hz;cases D:Nat.beq zs'.length i.size&&Nat.blt 0 i.size with
   |false=>rw[D] at h;cases h
   |true=>rw[D] at h;have h:=Option.some.inj (show some (e',i.size,i.bytes,zs')=some (e,sz,by_,zs) from h);injection h with h1 h;injection h with J h;injection h with W h4;subst h1 J W h4;rw[di] at D;obtain⟨it,z,I,g2,g3⟩:=Ah hz;rw[hi] at I;injection I with I;subst I;exact⟨R,i,z,hi,g2,rfl,rfl,dF D.1,dj.1 D.2,g3⟩
  grind
 grind
theorem yh {z:Value}(hl:zs.length=sz) (I:RdAs A Z w β z.cells.toList zs): ∀n:Nat,RdAs A Z w β ((List.range (n*sz)).map (fun j=>z.cells[j%z.cells.size]!)) (Aq zs n):=by
 have D:z.cells.size=sz:=by rw[<-hl,<-I.1];simp
 intro n;induction n with
 |zero=>simp[Aq];exact RdAs.nil
 |succ n R=>
  rw[Nat.succ_mul,Nat.add_comm,List.range_add,zO];refine tQ ?_ ?_
  .have W:(List.range sz).map (fun j=>z.cells[j%z.cells.size]!)=z.cells.toList:=by apply Ai (by simp[D]);intro j h1 h2;simp at h1;simp only[List.getElem_map,Cu,D];rw[Nat.mod_eq_of_lt h1,getElem!_pos z.cells j (by omega)];simp
   rw[W];exact I
  .have J:(List.map (fun x=>sz+x) (List.range (n*sz))).map (fun j=>z.cells[j%z.cells.size]!)=(List.range (n*sz)).map (fun j=>z.cells[j%z.cells.size]!):=by rw[List.map_map];apply List.map_congr_left;intro j _;show z.cells[(sz+j)%z.cells.size]! =_;rw[D,Nat.add_mod_left]
   rw[J];exact R
theorem Bi (w:World) (t e:TypeId) (len:Nat) (D:Array (Nat×Value)) (cells:Array Value) (J:TypeInfo) (W:P.underlying t=some (.slice e)) (R:P.info? e=some J) (I:len*J.size=0) (h:Instr.fill (fun i=>some (i*J.size,J.size)) #[] D.toList=some cells):(Instr.buildSlice t len D).run P w=.ok (.slice (some ⟨w.heap.size,0,none⟩) len len) (w.alloc (.cells cells e)):=by
 have h0: ∀f:Nat->Value,Array.map f (Array.range 0)= #[]:=by grind
 simp[Instr.buildSlice,run_underlying W,sizeOf,typeInfo,R,I,h0,h,newRow]
theorem ag5 (hT:l6 (TS m L T)) (hO:jJ H) (hL:jN N H) {x:XV}(hU:QR P U=some (e,sz,by_,zs)) (hn:n*sz<=10000) (hp:cPs m (fun i=>some (i*sz,sz)) ps.toList=some qs) (h:aab e n sz (rn sz (vV zs) n) qs call L T N H=some (.mk x N' H' g)):gV P eO ⟨dst,.buildSlice U n ps,ty,pos,af,gd⟩ (TS m L T) N H x N' H' g:=by
 obtain⟨r,hr,h⟩:=aE h
 obtain⟨rfl,rfl,rfl,rfl⟩:=yK h
 obtain⟨hu,i,z,hi,hz,a5,c3,R,h0,b6⟩:=uk hU
 obtain⟨z1,z2⟩:=nF zs
 obtain⟨r1,r2⟩:=rQ (by rw[z2,R]) z1 n
 have a6:(rn sz (vV zs) n).flat=Aq zs n:=by grind
 have a4:n*sz=(rn sz (vV zs) n).flat.length:=by rw[a6,u7,R]
 obtain⟨k1,k2,k3⟩:=Gb hT hp hr r1 a4
 refine xM hO hL k1 k2 fun A Z w β a ht=>?_
 obtain⟨cells,W,b3⟩:=k3 A Z w β a ((Array.range (n*sz)).map (z.cells[· %z.cells.size]!)) (fun p hp=>by simp only[Op.operands,List.mem_toArray,nZ];exact⟨p,hp,rfl⟩) ht (by rw[a6];simpa using (yh R (b6 A Z w β) n))
 have c5:cells.size=n*sz:=by have h1:=b3.1;grind
 have a9: ∀A' Z' w' I,A' N->I N=⟨w.heap.size,cells.size⟩->RdA A' Z' w' I (.slice (some ⟨w.heap.size,0,none⟩) n n) (.s N 0 n n true sz):=by
  intro A' Z' w' I hA b4;have b5:n<=maxLen:=by have:n<=n*sz:=Nat.le_mul_of_pos_right n h0;have:maxLen=9223372036854775807:=rfl;omega
  have:=RdA.s (Z:=Z') (w:=w') (β:=I) N 0 n n true sz n hA (bk _) (bk _) b5 (fun _=>rfl) (by rw[b4];show 0+n*sz<=cells.size;omega);grind
 refine⟨.slice (some ⟨w.heap.size,0,none⟩) n n,cells,?_,b3,a9⟩
 by_cases J:n*sz=0
 .have hc:cells= #[]:=by apply Array.eq_empty_of_size_eq_zero;omega
  subst hc
  have b7:(Array.range (n*sz)).map (z.cells[· %z.cells.size]!)= #[]:=by grind
  rw[b7] at W
  subst a5
  simp only[execOp,fh,Bi w U e n (ps.map fun(i,x)=>(i,a.eval x)) #[] i hu hi J (by simpa using W),ft,dA]
 .subst a5
  simp only[execOp,fh,run_buildSlice w U e n (ps.map fun(i,x)=>(i,a.eval x)) cells i z hu hi hz (by have:(2:Nat)^24=16777216:=rfl;omega) J (by simpa using W),ft,dA]
theorem af2 (_hT:l6 (TS m L T)) (hO:jJ H) (hL:jN N H) {x:XV}(hU:QR P U=some (e,sz,by_,zs)) (h1:cO m y=some xo) (h2:cO m z=some yo) (h:aaD e sz by_ (vV zs) xo yo call L T N H=some (.mk x N' H' g)):gV P eO ⟨dst,.makeSlice U y z,ty,pos,af,gd⟩ (TS m L T) N H x N' H' g:=by
 obtain⟨v,hv,h⟩:=aE h
 obtain⟨v2,b5,h⟩:=aE h
 obtain⟨ka,a,q1,h⟩:=s7 h
 obtain⟨kb,b,q2,h⟩:=s7 h
 subst q1 q2
 obtain⟨g1,h⟩:=bD h
 obtain⟨g2,h⟩:=bD h
 obtain⟨g3,h⟩:=bD h
 obtain⟨rfl,rfl,rfl,rfl⟩:=yK h
 rw[eL] at g1 g2 g3
 obtain⟨hu,i,zv,hi,hz,a9,a4,D,h0,a6⟩:=uk hU
 obtain⟨z1,z2⟩:=nF zs
 obtain⟨r1,r2⟩:=rQ (by rw[z2,D]) z1 b
 have R:(rn sz (vV zs) b).flat=Aq zs b:=by grind
 have J:b*sz=(rn sz (vV zs) b).flat.length:=by rw[R,u7,D]
 refine xM hO hL r1 J fun A Z w β ac ht=>?_
 have e1:ac.eval y=.int ka (a:Int):=RdA.i_eq (aO (by simp[Op.operands]) h1 hv ht)
 have e2:ac.eval z=.int kb (b:Int):=RdA.i_eq (aO (by simp[Op.operands]) h2 b5 ht)
 have b3:(b*by_:Nat)<=140737488355328:=g2
 refine⟨.slice (some ⟨w.heap.size,0,none⟩) a b,madeCells zv.cells (b*sz),?_,?_,fun A' Z' w' b4 hA a3=>?_⟩
 .simp only[execOp,e1,e2,fh,run_make w U e i zv hu hi hz ka kb a b (by omega) (by omega) (by rw[a4];have h2:((b*by_:Nat):Int)<=140737488355328:=Int.ofNat_le.2 b3;rw[y8,t5] at h2;omega) (by omega),ft,dA,a9]
  simp
 .rw[R]
  unfold madeCells
  simpa using (yh D (a6 A Z w β) b)
 .have a5:b<=maxLen:=by have:maxLen=9223372036854775807:=rfl;omega
  have:=RdA.s (Z:=Z') (w:=w') (β:=b4) N 0 a b true sz b hA g1 (bk _) a5 (fun _=>rfl) (by rw[a3];show 0+b*sz<=(madeCells zv.cells (b*sz)).size;simp[madeCells])
  grind
end
end
end Go.Proofs.YtegeknjkgadehaaGreat
