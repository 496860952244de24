/-A run on known values:what its small parts come to. -/
import Derived.Test.YtegeknjkgadehaaGreatTwV
namespace Go.Proofs.YtegeknjkgadehaaGreat
open Go Go.RowKit
noncomputable section
variable {a:Act}{first ys:Array Operand}{ats:Array TypeId}{args cs:Array Value}{op:BinOp}{ex q:Bool}{k' k0 kM kh:IntKind}{f:IntKind->Int->Int->Option AV}{cs0 zs:List AV}{xs:List XO}{vs:List XV}{c h j k l ls n o' off sz:Nat}{β:Nat->Pl}{A V Z:Nat->Prop}{fo y z zM zh:Operand}{b:Option Addr}{hi lo:Option Operand}{hi' lo':Option XO}{d r:Rp}{U e s t xt yt:TypeId}{v:Value}{w w':World}{xo yo:XO}{x:XV}
theorem xi:type_of% @RdAs.append:=@RdAs.append
theorem qd:type_of% @Nat.le_succ:=@Nat.le_succ
theorem wl:type_of% @Nat.lt_succ_self:=@Nat.lt_succ_self
theorem BK:type_of% @Int.negSucc_lt_zero:=@Int.negSucc_lt_zero
section
variable {α β:Type}
theorem aC {x:Option α}{f:α->Option β}{y:β}(h:oO x f=some y): ∃v,x=some v/\f v=some y:=by
 cases x with
 |none=>cases h
 |some v=>exact⟨v,rfl,h⟩
theorem bv {b:Bool}{x:Option β}{y:β}(h:bT b x=some y):b=true/\x=some y:=by
 cases b with
 |false=>cases h
 |true=>exact⟨rfl,h⟩
theorem ig (b:Bool) (x y:β):bI b x y=if b=true then x else y:=by cases b<;>rfl
theorem Sj (a b:Bool):bA a b=(a&&b):=by cases a<;>rfl
theorem il {f:AV->Option β}{y:β}(h:xC x f=some y): ∃a,x=.c a/\f a=some y:=by
 cases x with
 |c a=>exact⟨a,rfl,h⟩
 |_=>cases h
theorem UE {f:List XD->Option β}{y:β}(h:xT x f=some y): ∃u,x=.t u/\f u=some y:=by
 cases x with
 |t u=>exact⟨u,rfl,h⟩
 |_=>cases h
theorem AW {x:AV}{f:Bool->Option β}{y:β}(h:aB x f=some y): ∃b,x=.b b/\f b=some y:=by
 cases x with
 |b v=>exact⟨v,rfl,h⟩
 |_=>cases h
theorem VM {x:AV}{f:IntKind->Int->Option β}{y:β}(h:aI x f=some y): ∃k n,x=.i k n/\f k n=some y:=by
 cases x with
 |i k n=>exact⟨k,n,rfl,h⟩
 |_=>cases h
theorem W8 {x:AV}{f:Nat->Nat->Option β}{y:β}(h:aP x f=some y): ∃k off,x=.p k off/\f k off=some y:=by
 cases x with
 |p k off=>exact⟨k,off,rfl,h⟩
 |_=>cases h
theorem kO {x:AV}{f:Nat->Nat->Nat->Nat->Bool->Nat->Option β}{z ev:Option β}{y:β}(h:aS x f z ev=some y):
 (∃k off n lo ex m,x=.s k off n lo ex m/\f k off n lo ex m=some y)\/(x=.z/\z=some y)\/(x=.ev/\ev=some y):=by
 cases x with
 |s k off n lo ex m=>exact .inl ⟨k,off,n,lo,ex,m,rfl,h⟩
 |z=>exact .inr (.inl ⟨rfl,h⟩)
 |ev=>exact .inr (.inr ⟨rfl,h⟩)
 |_=>cases h
theorem WQ {i:Int}{f:Nat->Option β}{y:β}(h:xnI i f=some y): ∃n:Nat,i=(n:Int)/\f n=some y:=by
 cases i with
 |ofNat n=>exact⟨n,rfl,h⟩
 |negSucc n=>cases h
theorem sn {f:Bool->Option β}{y:β}(h:xB x f=some y): ∃b,x=.c (.b b)/\f b=some y:=by obtain⟨a,rfl,h⟩:=il h;obtain⟨b,rfl,h⟩:=AW h;exact⟨b,rfl,h⟩
theorem mn {f:IntKind->Int->Option β}{y:β}(h:xI x f=some y): ∃k n,x=.c (.i k n)/\f k n=some y:=by obtain⟨a,rfl,h⟩:=il h;obtain⟨k,n,rfl,h⟩:=VM h;exact⟨k,n,rfl,h⟩
theorem p8 {f:Nat->Nat->Option β}{y:β}(h:xP x f=some y): ∃k off,x=.c (.p k off)/\f k off=some y:=by obtain⟨a,rfl,h⟩:=il h;obtain⟨k,n,rfl,h⟩:=W8 h;exact⟨k,n,rfl,h⟩
theorem ru {f:Nat->Option β}{y:β}(h:xN x f=some y): ∃(k:IntKind) (n:Nat),x=.c (.i k (n:Int))/\f n=some y:=by obtain⟨k,i,rfl,h⟩:=mn h;obtain⟨n,rfl,h⟩:=WQ h;exact⟨k,n,rfl,h⟩
def XV.rp (x:XV):Option (Nat×Rp):=match x with
 |XV.c y=>some (1,Rp.c y)
 |XV.a n r=>some (n,r)
 |XV.t _=>none
 |XV.u=>none
theorem Gv {f:Nat->Rp->Option β}{y:β}(h:xD x f=some y): ∃n r,x.rp=some (n,r)/\f n r=some y:=by
 cases x with
 |c a=>exact⟨1,.c a,rfl,h⟩
 |a n r=>exact⟨n,r,rfl,h⟩
 |_=>cases h
theorem Tr.get_n (l:Tr α) (v:Option α) (r:Tr α) (k:Nat):(Tr.n l v r).get k=if k=0 then v else if k%2=1 then l.get (k/2) else r.get (k/2):=by
 show @Bool.rec (fun _=>Option α) (@Bool.rec (fun _=>Option α) (r.get (k/2)) (l.get (k/2)) (Nat.beq (k%2) 1)) v (Nat.beq k 0)=_;by_cases h:k=0;·subst h;rfl
 ·have I:Nat.beq k 0=false:=by
   cases D:Nat.beq k 0 with
   |false=>rfl
   |true=>exact absurd (fe D) h
  rw[I,if_neg h]
  by_cases u:k%2=1
  ·rw[if_pos u,u];rfl
  ·have E:Nat.beq (k%2) 1=false:=by
    cases D:Nat.beq (k%2) 1 with
    |false=>rfl
    |true=>exact absurd (fe D) u
   rw[E,if_neg u]
theorem Hp {u:Type}(b:Bool) (x y:u): @Bool.rec (fun _=>u) x y b=if b=true then y else x:=by cases b<;>rfl
theorem rT {u:Type}(k l:Nat) (x y:u): @Bool.rec (fun _=>u) x y (Nat.beq k l)=if k=l then y else x:=by
 rw[Hp];by_cases h:k=l;·subst h;rw[if_pos (vT k),if_pos rfl]
 ·rw[if_neg h,if_neg (fun e=>h (fe e))]
theorem Tr.one_get {v x:α}: ∀(f k k':Nat),(Tr.one v f k).get k'=some x->k'=k/\x=v:=by
 intro f;induction f with
 |zero=>intro k k' h;cases h
 |succ f u=>
  intro k k' h;have h:(@Bool.rec (fun _=>Tr α) (@Bool.rec (fun _=>Tr α) (.n .e none (Tr.one v f (k/2))) (.n (Tr.one v f (k/2)) none .e) (Nat.beq (k%2) 1)) (.n .e (some v) .e) (Nat.beq k 0)).get k'=some x:=h;rw[rT,rT] at h;split at h
  ·rename_i J;rw[Tr.get_n] at h;split at h;·rename_i E;injection h with h;exact⟨by omega,h.symm⟩
   ·split at h<;>cases h
  ·rename_i J;split at h
   ·rename_i I;rw[Tr.get_n] at h;split at h;·cases h
    ·split at h;·rename_i D;have:=u _ _ h;exact⟨by omega,this.2⟩
     ·cases h
   ·rename_i I;rw[Tr.get_n] at h;split at h;·cases h
    ·split at h;·cases h
     ·rename_i D;have:=u _ _ h;exact⟨by omega,this.2⟩
theorem Tr.set_get {v x:α}: ∀(t:Tr α) (k k':Nat),(t.set v k).get k'=some x->(k'=k/\x=v)\/(k'≠k/\t.get k'=some x):=by
 intro t;induction t with
 |e=>intro k k' h;exact .inl (Tr.one_get 40 k k' h)
 |n l o r R J=>
  intro k k' h;have h:(@Bool.rec (fun _=>Tr α) (@Bool.rec (fun _=>Tr α) (.n l o (r.set v (k/2))) (.n (l.set v (k/2)) o r) (Nat.beq (k%2) 1)) (.n l (some v) r) (Nat.beq k 0)).get k'=some x:=h;rw[rT,rT] at h;rw[Tr.get_n];split at h
  ·rename_i W;rw[Tr.get_n] at h;split at h;·rename_i u;injection h with h;exact .inl ⟨by omega,h.symm⟩
   ·rename_i u;refine .inr ⟨by omega,?_⟩;rw[if_neg u];exact h
  ·rename_i W;split at h
   ·rename_i K;rw[Tr.get_n] at h;split at h;·rename_i u;refine .inr ⟨by omega,?_⟩;rw[if_pos u];exact h
    ·rename_i u;split at h
     ·rename_i D;rcases R _ _ h with⟨I,E⟩|⟨I,E⟩;·exact .inl ⟨by omega,E⟩
      ·refine .inr ⟨by intro e;subst e;exact I rfl,?_⟩;rw[if_neg u,if_pos D];exact E
     ·rename_i D;refine .inr ⟨by intro e;subst e;exact D K,?_⟩;rw[if_neg u,if_neg D];exact h
   ·rename_i K;rw[Tr.get_n] at h;split at h;·rename_i u;refine .inr ⟨by omega,?_⟩;rw[if_pos u];exact h
    ·rename_i u;split at h;·rename_i D;refine .inr ⟨by intro e;subst e;exact K D,?_⟩;rw[if_neg u,if_pos D];exact h
     ·rename_i D;rcases J _ _ h with⟨I,E⟩|⟨I,E⟩;·exact .inl ⟨by omega,E⟩
      ·refine .inr ⟨by intro e;subst e;exact I rfl,?_⟩;rw[if_neg u,if_neg D];exact E
theorem Tr.del_get {x:α}: ∀(t:Tr α) (k k':Nat),(t.del k).get k'=some x->k'≠k/\t.get k'=some x:=by
 intro t;induction t with
 |e=>intro k k' h;cases h
 |n l o r R E=>
  intro k k' h;have h:(@Bool.rec (fun _=>Tr α) (@Bool.rec (fun _=>Tr α) (.n l o (r.del (k/2))) (.n (l.del (k/2)) o r) (Nat.beq (k%2) 1)) (.n l none r) (Nat.beq k 0)).get k'=some x:=h;rw[rT,rT] at h;rw[Tr.get_n];split at h
  ·rename_i W;rw[Tr.get_n] at h;split at h;·cases h
   ·rename_i u;refine⟨by omega,?_⟩;rw[if_neg u];exact h
  ·rename_i W;split at h
   ·rename_i K;rw[Tr.get_n] at h;split at h;·rename_i u;refine⟨by omega,?_⟩;rw[if_pos u];exact h
    ·rename_i u;split at h
     ·rename_i D;obtain⟨J,I⟩:=R _ _ h;refine⟨by intro e;subst e;exact J rfl,?_⟩;rw[if_neg u,if_pos D];exact I
     ·rename_i D;refine⟨by intro e;subst e;exact D K,?_⟩;rw[if_neg u,if_neg D];exact h
   ·rename_i K;rw[Tr.get_n] at h;split at h;·rename_i u;refine⟨by omega,?_⟩;rw[if_pos u];exact h
    ·rename_i u;split at h;·rename_i D;refine⟨by intro e;subst e;exact K D,?_⟩;rw[if_neg u,if_pos D];exact h
     ·rename_i D;obtain⟨J,I⟩:=E _ _ h;refine⟨by intro e;subst e;exact J rfl,?_⟩;rw[if_neg u,if_neg D];exact I
theorem CM {x:α}: ∀(l:List (Nat×α)) (k:Nat),(TW l).get k=some x->(k,x)∈l
 |[],k,h=>by cases h
 |(j,v)::r,k,h=>by
  rcases Tr.set_get (TW r) j k h with⟨D,u⟩|⟨_,h⟩;·subst D u;exact f7 ..
  ·exact gF _ (CM r k h)
end
def Rp.ok:Rp->Prop
 | .e=>True
 | .c _=>True
 | .n ls pu l r=>ls=l.flat.length/\l.ok/\r.ok/\(pu=true-> ∀x∈l.flat++r.flat,puA x=true)
theorem AZ: ∀ {r:Rp},r.ok->puR r=true-> ∀x∈r.flat,puA x=true
 | .e,_,_,x,hx=>by cases hx
 | .c y,_,h,x,hx=>by
   have:x=y:=by simpa [Rp.flat] using hx
   subst this;exact h
 | .n ls pu l r,ho,h,x,hx=>ho.2.2.2 h x hx
theorem y9 {l:Rp}(h:ls=l.flat.length) (hl:l.ok) (E:r.ok):(Uc ls l r).ok:=by
 refine⟨h,hl,E,fun D x u=>?_⟩;rw[Sj,de] at D;rcases iN.1 u with u|u;·exact AZ hl D.1 x u
 ·exact AZ E D.2 x u
theorem jM {l:Rp}(h:ls=l.flat.length) (hl:l.ok) (u:r.ok):(iE ls l r).ok/\(iE ls l r).flat=l.flat++r.flat:=by
 cases l with
 |e=>exact⟨u,rfl⟩
 |c x=>
  cases r with
  |e=>exact⟨hl,by simp[Rp.flat];rfl⟩
  |c y=>exact⟨y9 h hl u,rfl⟩
  |n _ _ _ _=>exact⟨y9 h hl u,rfl⟩
 |n a b c d=>
  cases r with
  |e=>exact⟨hl,by show(Rp.n a b c d).flat=(Rp.n a b c d).flat++[];simp⟩
  |c y=>exact⟨y9 h hl u,rfl⟩
  |n _ _ _ _=>exact⟨y9 h hl u,rfl⟩
theorem dN {a b:Nat}:Nat.ble a b=true↔a<=b:=by rw[Nat.ble_eq]
theorem jW: ∀(r:Rp) (u off n:Nat),r.ok->u=r.flat.length->off+n<=u->(iB r u off n).ok/\(iB r u off n).flat=(r.flat.drop off).take n:=by
 intro r;induction r with
 |e=>intro u off n _ ht h;exact⟨trivial,by simp[iB,Rp.flat]⟩
 |c x=>
  intro u off n _ ht h;simp[Rp.flat] at ht;show(bI (Nat.beq n 0) Rp.e (.c x)).ok/\(bI (Nat.beq n 0) Rp.e (.c x)).flat=([x].drop off).take n;by_cases hn:n=0;·subst hn;exact⟨trivial,by simp[bI,Rp.flat]⟩
  ·have I:n=1:=by omega
   have W:off=0:=by omega
   subst I W;exact⟨trivial,rfl⟩
 |n ls pu l r a0 K=>
  intro u off n ho ht h;obtain⟨I,W,h3,h4⟩:=ho;have a1:u=l.flat.length+r.flat.length:=by rw[ht];simp[Rp.flat]
  show(bI (Nat.beq n u) (Rp.n ls pu l r) (bI (Nat.ble (off+n) ls) (iB l ls off n) (bI (Nat.ble ls off) (iB r (u-ls) (off-ls) n) (iE (ls-off) (iB l ls off (ls-off)) (iB r (u-ls) 0 (off+n-ls)))))).ok/\
   (bI (Nat.beq n u) (Rp.n ls pu l r) (bI (Nat.ble (off+n) ls) (iB l ls off n) (bI (Nat.ble ls off) (iB r (u-ls) (off-ls) n) (iE (ls-off) (iB l ls off (ls-off)) (iB r (u-ls) 0 (off+n-ls)))))).flat=_
  rw[ig,ig,ig];show _/\_=((l.flat++r.flat).drop off).take n;split
  ·rename_i E;have:=fe E;have h0:off=0:=by omega
   subst h0;refine⟨⟨I,W,h3,h4⟩,?_⟩;show l.flat++r.flat=_;rw[lE,f9 (by simp;omega)]
  ·split
   ·rename_i E;rw[dN] at E;obtain⟨R,D⟩:=a0 ls off n W I E;refine⟨R,?_⟩;rw[D,ui (by omega),sM (by simp;omega)]
   ·rename_i E;rw[dN] at E;split
    ·rename_i hc;rw[dN] at hc;obtain⟨R,D⟩:=K (u-ls) (off-ls) n h3 (by omega) (by omega);refine⟨R,?_⟩;rw[D,List.drop_append,yw (i:=off) (l:=l.flat) (by omega),rI,I]
    ·rename_i hc;rw[dN] at hc;obtain⟨R,D⟩:=a0 ls off (ls-off) W I (by omega);obtain⟨k1,k2⟩:=K (u-ls) 0 (off+n-ls) h3 (by omega) (by omega);have J:ls-off=(iB l ls off (ls-off)).flat.length:=by rw[D];simp;omega
     obtain⟨j1,j2⟩:=jM J R k1;refine⟨j1,?_⟩;rw[j2,D,k2,ui (by omega),List.take_append,f9 (by simp;omega),f9 (l:=l.flat.drop off) (by simp;omega)];rw[lE];congr 1;congr 1;simp;omega
theorem va (hd:d.ok): ∀(r:Rp) (u off n:Nat),r.ok->u=r.flat.length->n=d.flat.length->off+n<=u->(updR d r u off n).ok/\(updR d r u off n).flat=r.flat.take off++d.flat++r.flat.drop (off+n):=by
 intro r;induction r with
 |e=>
  intro u off n _ R K h;simp[Rp.flat] at R;have:d.flat=[]:=iv.1 (by omega);exact⟨trivial,by simp[updR,Rp.flat,this]⟩
 |c x=>
  intro u off n _ R K h;simp[Rp.flat] at R;show(bI (Nat.beq n 0) (.c x) d).ok/\(bI (Nat.beq n 0) (.c x) d).flat=[x].take off++d.flat++[x].drop (off+n);by_cases h0:n=0
  ·subst h0;have:d.flat=[]:=iv.1 (by omega);refine⟨trivial,?_⟩;rw[this];show[x]=_;simp
  ·have E:n=1:=by omega
   have W:off=0:=by omega
   rw[E,W];exact⟨hd,by show d.flat=_;simp⟩
 |n ls pu l r a1 a0=>
  intro u off n ho R K h;obtain⟨E,W,h3,h4⟩:=ho;have a2:u=l.flat.length+r.flat.length:=by rw[R];simp[Rp.flat]
  show(bI (Nat.beq n u) d (bI (Nat.ble (off+n) ls) (Uc ls (updR d l ls off n) r) (bI (Nat.ble ls off) (Uc ls l (updR d r (u-ls) (off-ls) n)) (iE off (iB l ls 0 off) (iE n d (iB r (u-ls) (off+n-ls) (u-(off+n)))))))).ok/\
   (bI (Nat.beq n u) d (bI (Nat.ble (off+n) ls) (Uc ls (updR d l ls off n) r) (bI (Nat.ble ls off) (Uc ls l (updR d r (u-ls) (off-ls) n)) (iE off (iB l ls 0 off) (iE n d (iB r (u-ls) (off+n-ls) (u-(off+n)))))))).flat=_
  rw[ig,ig,ig];show _/\_=(l.flat++r.flat).take off++d.flat++(l.flat++r.flat).drop (off+n);split
  ·rename_i J;have:=fe J;have h0:off=0:=by omega
   subst h0;refine⟨hd,?_⟩;rw[List.take_zero,yw (by simp;omega)];simp
  ·split
   ·rename_i J;rw[dN] at J;obtain⟨g1,I⟩:=a1 ls off n W E K J;have D:ls=(updR d l ls off n).flat.length:=by rw[I];simp;omega
    refine⟨y9 D g1 h3,?_⟩;show(updR d l ls off n).flat++r.flat=_;rw[I,sM (by omega),ui (by omega)];simp
   ·rename_i J;rw[dN] at J;split
    ·rename_i hc;rw[dN] at hc;obtain⟨g1,I⟩:=a0 (u-ls) (off-ls) n h3 (by omega) K (by omega);refine⟨y9 E W g1,?_⟩;show l.flat++(updR d r (u-ls) (off-ls) n).flat=_;rw[I,List.take_append,f9 (i:=off) (l:=l.flat) (by omega),List.drop_append,yw (i:=off+n) (l:=l.flat) (by omega)];simp only[rI,ro,E];congr 3;rw[show off+n-l.flat.length=off-l.flat.length+n by omega]
    ·rename_i hc;rw[dN] at hc;obtain⟨g1,I⟩:=jW l ls 0 off W E (by omega);obtain⟨k1,k2⟩:=jW r (u-ls) (off+n-ls) (u-(off+n)) h3 (by omega) (by omega);obtain⟨j1,j2⟩:=jM K hd k1;have D:off=(iB l ls 0 off).flat.length:=by rw[I];simp;omega
     obtain⟨i1,i2⟩:=jM D g1 j1;refine⟨i1,?_⟩;rw[i2,j2,I,k2,lE,sM (by omega),List.drop_append,yw (i:=off+n) (l:=l.flat) (by omega),rI,f9 (l:=r.flat.drop (off+n-ls)) (by simp;omega),E];simp
theorem qE: ∀(r:Rp) (off:Nat),r.ok->qw r off=r.flat[off]? :=by
 intro r;induction r with
 |e=>intro off _;simp[qw,Rp.flat]
 |c x=>
  intro off _;show @Bool.rec (fun _=>Option AV) none (some x) (Nat.beq off 0)=[x][off]?;rw[rT];split;·rename_i h;subst h;rfl
  ·rename_i h;cases off with
   |zero=>exact absurd rfl h
   |succ n=>simp
 |n ls W l r E D=>
  intro off J;obtain⟨K,R,I,_⟩:=J;show @Bool.rec (fun _=>Option AV) (qw r (off-ls)) (qw l off) (Nat.blt off ls)=(l.flat++r.flat)[off]?;rw[Hp];split
  ·rename_i u;rw[cJ] at u;rw[E off R,uJ (by omega)]
  ·rename_i u;rw[cJ] at u;rw[D _ I,tL (by omega),K]
theorem nv: ∀(l:List AV),(th l).ok/\(th l).flat=l
 |[]=>⟨trivial,rfl⟩
 |x::l=>by obtain⟨D,u⟩:=nv l;have:=jM (ls:=1) (l:=.c x) (r:=th l) rfl trivial D;refine⟨this.1,?_⟩;show(iE 1 (.c x) (th l)).flat=_;rw[this.2,u];rfl
def yA (zs:List AV):Nat->List AV
 |0=>[]
 |n+1=>zs++yA zs n
theorem tW (zs:List AV): ∀n,(yA zs n).length=n*zs.length
 |0=>by simp[yA]
 |n+1=>by rw[yA,dc,tW zs n,Nat.succ_mul,Nat.add_comm]
theorem qH {m:Nat}{z:Rp}(D:m=z.flat.length) (u:z.ok): ∀n,(pj m z n).ok/\(pj m z n).flat=yA z.flat n
 |0=>⟨trivial,rfl⟩
 |n+1=>by obtain⟨E,I⟩:=qH D u n;have:=jM D u E;refine⟨this.1,?_⟩;show(iE m z (pj m z n)).flat=_;rw[this.2,I];rfl
def TS (m:Nat) (L:LX) (T:Tr XV):TX:=fun t=>bif m.testBit t then BB t L else T.get t
def HS (H:Tr Bx):HF:=fun k=>(H.get k).map fun b=>(b.U,b.r.flat)
def jp (H:Tr Bx):Prop:= ∀k b,H.get k=some b->b.r.ok/\b.n=b.r.flat.length
def jx (N:Nat) (H:Tr Bx):Prop:= ∀k b,H.get k=some b->k<N
def BM:XD->Prop
 | .c _=>True
 | .a n r=>r.ok/\n=r.flat.length
def Ai:XV->Prop
 | .c _=>True
 | .a n r=>r.ok/\n=r.flat.length
 | .t ds=> ∀d∈ds,BM d
 | .u=>True
def lm (T:TX):Prop:= ∀t x,T t=some x->Ai x
def e0:HF:=fun _=>none
section
variable {P:Program}{ops:Array Oper}{o:Oper}{TT:TX}{m N:Nat}{L:LX}{T:Tr XV}{H:Tr Bx}{x:XV}
def acY (P:Program) (ops:Array Oper) (o:Oper) (T:TX) (e:Evt):Prop:= ∀V A β a w,(∀k,A k-> ¬(e.N<=k/\k<e.N'))->Mem V A e.Hv β w->yN A (Zs V e.Hv β) w β (d6 ops o) T a->
 Gives P o a w fun v w'=> ∃D u,(∀k,A k->D k)/\(∀k,D k->Ad A e.N e.N' k)/\Mem V D e.Hv' u w'/\Hst e.N e.N' A e.Hv β w e.Hv' u w'/\RdX2 D (Zs V e.Hv' u) w' u v e.x
def Foot (N N':Nat) (H H':Tr Bx) (D u:HF):Lg->Prop
 | .p=>D=e0/\u=e0/\N'=N
 | .r k=>(∀j,j≠k->D j=none)/\u=D/\N'=N/\(HS H k).isSome=true
 | .w k=>(∀j,j≠k->D j=none/\u j=none)/\N'=N
 | .nw k=>k=N/\N'=N+1/\D=e0/\ ∀j,j≠k->u j=none
 | .c K K'=>D=HS K/\u=HS K'/\K=H/\K'=H'
def gz (P:Program) (ops:Array Oper) (o:Oper) (TT:TX) (N:Nat) (H:Tr Bx) (x:XV) (N':Nat) (H':Tr Bx) (g:Lg):Prop:=
 N<=N'/\Ai x/\jp H'/\jx N' H'/\ ∃D u,acY P ops o TT ⟨x,D,u,N,N'⟩/\(∀k c,D k=some c->HS H k=some c)/\(∀k c,HS H' k=some c->gU (HS H) D u k=some c)/\Foot N N' H H' D u g
theorem Fv {H:HF}:gU H e0 e0=H:=by funext k;rfl
theorem bq (u:jp H) (K:jx N H) (D:Ai x) (h: ∀A Z w β a,yN A Z w β (d6 ops o) TT a-> ∃v,(execOp a.eval o).run P w=.ok (.value v) w/\RdX2 A Z w β v x):gz P ops o TT N H x N H .p:=by
 have E:Foot N N H H e0 e0 .p:=⟨rfl,rfl,rfl⟩;have W: ∀k c,e0 k=some c->HS H k=some c:=fun k c h=>by cases h
 have h2: ∀k c,HS H k=some c->gU (HS H) e0 e0 k=some c:=fun k c h=>by rw[Fv];exact h
 refine⟨Nat.le_refl _,D,u,K,e0,e0,fun V A β a w _ R J=>?_,W,h2,E⟩;obtain⟨v,e,I⟩:=h _ _ w β a J;unfold Gives;rw[e];exact⟨A,β,fun _ h=>h,fun _ h=>.inl h,R,Hst.refl,I⟩
theorem KP {t:Nat}{v:XV}(u:cO m (.tmp t)=some xo) (D:xo.get L T=some v):TS m L T t=some v:=by
 have u:(bif m.testBit t then some (XO.l t) else some (XO.t t))=some xo:=u;show(bif m.testBit t then BB t L else T.get t)=some v;cases E:m.testBit t with
 |true=>rw[E] at u;injection u with u;subst u;exact D
 |false=>rw[E] at u;injection u with u;subst u;exact D
section
variable {A Z:Nat->Prop}{w:World}{β:Nat->Pl}{a:Act}
theorem tw {y:AV}(h:mF v=some y):RdA A Z w β v y:=by
 cases v with
 |bool b=>simp[mF] at h;subst h;exact .b b
 |int k n=>simp[mF] at h;subst h;exact .i k n
 |slice u n c=>
  cases u with
  |some u=>simp[mF] at h
  |none=>
   cases n with
   |zero=>
    cases c with
    |zero=>simp[mF] at h;subst h;exact .z
    |succ c=>simp[mF] at h
   |succ n=>simp[mF] at h
 |pointer p=>
  cases p with
  |none=>simp[mF] at h;subst h;exact .np
  |some p=>simp[mF] at h
 |_=>simp[mF] at h
theorem wJ {D u:Type}{f:D->Option u}: ∀(l:List D) (r:List u),kS f l=some r->l.length=r.length
 |[],r,h=>by injection h with h;subst h;rfl
 |x::l,r,h=>by
  unfold kS at h;split at h;·cases h
  ·split at h;·cases h
   ·rename_i ys E;injection h with h;subst h;simp[wJ l ys E]
theorem AH {D u:Type}{f:D->Option u}: ∀(l:List D) (r:List u),kS f l=some r-> ∀(j:Nat) (x:D) (y:u),l[j]? =some x->r[j]? =some y->f x=some y
 |[],r,h,j,x,y,hx,_=>by simp at hx
 |z::l,r,h,j,x,y,hx,hy=>by
  unfold kS at h;split at h;·cases h
  ·rename_i J E;split at h;·cases h
   ·rename_i ys I;injection h with h;subst h;cases j with
    |zero=>simp at hx hy;subst hx hy;exact E
    |succ j=>simp at hx hy;exact AH l ys I j x y hx hy
theorem ya {vs:List Value}{xs:List AV}(h:kS mF vs=some xs):RdAs A Z w β vs xs:=
 ⟨wJ _ _ h,fun j v x u D=>tw (AH _ _ h j v x u D)⟩
theorem BG {d:XV}(h:R2 v=some d):RdX2 A Z w β v d/\Ai d:=by
 unfold R2 at h;split at h
 ·rename_i cs;cases D:kS mF cs.toList with
  |none=>rw[D] at h;cases h
  |some us=>
   rw[D] at h;injection h with h;subst h;obtain⟨I,E⟩:=nv us;exact⟨⟨cs,rfl,by rw[E];exact ya D⟩,I,by rw[E]⟩
 ·cases D:mF v with
  |none=>rw[D] at h;cases h
  |some u=>rw[D] at h;injection h with h;subst h;exact⟨tw D,trivial⟩
theorem aM {v:XV}(hy:y∈o.op.operands) (u:cO m y=some xo) (D:xo.get L T=some v) (W:yN A Z w β (d6 ops o) (TS m L T) a):RdX2 A Z w β (a.eval y) v:=by
 cases y with
 |tmp t=>
  have hl:d6 ops o t:=yz _ (List.mem_filterMap.2 ⟨.tmp t,by simpa using hy,rfl⟩);obtain⟨J,e,R⟩:=W t v hl (KP u D);have:a.eval (.tmp t)=J:=by show a.tmps.getD t undef=J;obtain⟨E,e⟩:=ll.1 e;simp[Array.getD,E,e]
  rw[this];exact R
 |const c=>
  cases I:R2 c with
  |none=>simp[cO,I] at u
  |some d=>
   simp[cO,I] at u;subst u;injection D with D;subst D;exact(BG I).1
 |func g=>
  simp[cO] at u;subst u;injection D with D;subst D;exact .f g #[] [] (.f0 g) rfl rfl (fun j v x K=>by simp at K)
 |global g=>simp[cO] at u
theorem tE {v:XV}(I:lm (TS m L T)) (D:cO m y=some xo) (u:xo.get L T=some v):Ai v:=by
 cases y with
 |tmp t=>exact I t v (KP D u)
 |const c=>
  cases E:R2 c with
  |none=>simp[cO,E] at D
  |some d=>
   simp[cO,E] at D;subst D;injection u with u;subst u;exact(BG (A:=fun _=>False) (Z:=fun _=>False) (w:=default) (β:=fun _=>⟨0,0⟩) E).2
 |func g=>
  simp[cO] at D;subst D;injection u with u;subst u;trivial
 |global g=>simp[cO] at D
theorem RdA.b_eq {b:Bool}(h:RdA A Z w β v (.b b)):v=.bool b:=by
 cases h with
 |b _=>rfl
 |f _ _ _ _ u=>cases u
theorem RdA.i_eq {k:IntKind}{n:Int}(h:RdA A Z w β v (.i k n)):v=.int k n:=by
 cases h with
 |i _ _=>rfl
 |f _ _ _ _ u=>cases u
theorem RdA.z_eq (h:RdA A Z w β v .z):v=.slice none 0 0:=by
 cases h with
 |z=>rfl
 |f _ _ _ _ u=>cases u
theorem RdA.p_eq (h:RdA A Z w β v (.p k off)):v=.pointer (some ⟨(β k).b,off,none⟩)/\A k:=by
 cases h with
 |p _ _ h=>exact⟨rfl,h⟩
 |f _ _ _ _ u=>cases u
theorem RdA.s_eq {lo u:Nat}(h:RdA A Z w β v (.s k off n lo ex u)): ∃c,v=.slice (some ⟨(β k).b,off,none⟩) n c/\A k/\n<=lo/\lo<=c/\c<=maxLen/\(ex=true->c=lo)/\off+c*u<=(β k).z:=by
 cases h with
 |s _ _ _ _ _ _ c h J K D R I=>exact⟨c,rfl,h,J,K,D,R,I⟩
 |f _ _ _ _ E=>cases E
theorem RdA.ev_eq (h:RdA A Z w β v .ev): ∃a c,v=.slice a 0 c/\c<=maxLen/\ ∀u,a=some u->u.spot=none:=by
 cases h with
 |ev a c h D=>exact⟨a,c,rfl,h,D⟩
 |f _ _ _ _ E=>cases E
end
variable {N':Nat}{H':Tr Bx}{g:Lg}{call:fF}
variable {dst:Option Nat}{ty:TypeId}{pos:String}{af:Array Edge}{gd:Option (Nat×Bool)}
theorem cg {x y:XV}{N N':Nat}{H H':Tr Bx}{g:Lg}(h:pR x N H=some (.mk y N' H' g)):y=x/\N'=N/\H'=H/\g=.p:=by unfold pR at h;injection h with h;injection h with D E u I;exact⟨D.symm,E.symm,u.symm,I.symm⟩
theorem fZ {f:XO->oD}{k:oD}(h:o1 m f y=some k): ∃xo,cO m y=some xo/\k=f xo:=by
 unfold o1 at h;cases u:cO m y with
 |none=>rw[u] at h;cases h
 |some xo=>rw[u] at h;injection h with h;exact⟨xo,rfl,h.symm⟩
theorem lG {f:XO->XO->oD}{k:oD}(h:o2 m f y z=some k): ∃xo yo,cO m y=some xo/\cO m z=some yo/\k=f xo yo:=by
 unfold o2 at h;split at h
 ·rename_i a b u D;injection h with h;exact⟨a,b,u,D,h.symm⟩
 ·cases h
theorem aag (K:lm (TS m L T)) (I:jp H) (E:jx N H) {x:XV}(D:cO m y=some xo) (h:VQ xo call L T N H=some (.mk x N' H' g)):gz P ops ⟨dst,.move y,ty,pos,af,gd⟩ (TS m L T) N H x N' H' g:=by obtain⟨v,u,h⟩:=aC h;obtain⟨rfl,rfl,rfl,rfl⟩:=cg h;exact bq I E (tE K D u) fun A Z w β a J=>⟨a.eval y,rfl,aM (o:=⟨dst,.move y,ty,pos,af,gd⟩) (by simp[Op.operands]) D u J⟩
theorem RC (K:lm (TS m L T)) (I:jp H) (E:jx N H) {x:XV}(D:cO m y=some xo) (h:VQ xo call L T N H=some (.mk x N' H' g)):gz P ops ⟨dst,.assign y,ty,pos,af,gd⟩ (TS m L T) N H x N' H' g:=by obtain⟨v,u,h⟩:=aC h;obtain⟨rfl,rfl,rfl,rfl⟩:=cg h;exact bq I E (tE K D u) fun A Z w β a J=>⟨a.eval y,rfl,aM (o:=⟨dst,.assign y,ty,pos,af,gd⟩) (by simp[Op.operands]) D u J⟩
theorem ZV (I:lm (TS m L T)) (W:jp H) (hL:jx N H) {c:Operand}{J:XO}{x:XV}(h1:cO m c=some J) (K:cO m y=some xo) (E:cO m z=some yo) (h:S7 J xo yo call L T N H=some (.mk x N' H' g)):gz P ops ⟨dst,.pick c y z,ty,pos,af,gd⟩ (TS m L T) N H x N' H' g:=by
 obtain⟨v,R,h⟩:=aC h;obtain⟨t,rfl,h⟩:=sn h;obtain⟨v2,u,h⟩:=aC h;obtain⟨rfl,rfl,rfl,rfl⟩:=cg h;rw[ig] at u;refine bq W hL ?_ fun A Z w β a D=>?_
 ·split at u;·exact tE I K u
  ·exact tE I E u
 ·have e1:a.eval c=.bool t:=RdA.b_eq (aM (o:=⟨dst,.pick c y z,ty,pos,af,gd⟩) (by simp[Op.operands]) h1 R D);refine⟨if t then a.eval y else a.eval z,?_,?_⟩;·simp[execOp,e1,asBool]
  ·split at u;·rename_i q;rw[if_pos q];exact aM (o:=⟨dst,.pick c y z,ty,pos,af,gd⟩) (by simp[Op.operands]) K u D
   ·rename_i q;rw[if_neg q];exact aM (o:=⟨dst,.pick c y z,ty,pos,af,gd⟩) (by simp[Op.operands]) E u D
theorem aaO (_R:lm (TS m L T)) (I:jp H) (E:jx N H) {x:XV}(J:cO m y=some xo) (h:Ql xo call L T N H=some (.mk x N' H' g)):gz P ops ⟨dst,.nilCheck y,ty,pos,af,gd⟩ (TS m L T) N H x N' H' g:=by obtain⟨v,D,h⟩:=aC h;obtain⟨k,off,rfl,h⟩:=p8 h;obtain⟨rfl,rfl,rfl,rfl⟩:=cg h;refine bq I E trivial fun A Z w β a K=>?_;have u:RdA A Z w β (a.eval y) (.p k off):=aM (o:=⟨dst,.nilCheck y,ty,pos,af,gd⟩) (by simp[Op.operands]) J D K;refine⟨a.eval y,?_,u⟩;simp[execOp,u.p_eq.1]
theorem adk (_R:lm (TS m L T)) (E:jp H) (D:jx N H) {x:XV}(I:cO m y=some xo) (h:XY xo call L T N H=some (.mk x N' H' g)):gz P ops ⟨dst,.unOp .not t y,ty,pos,af,gd⟩ (TS m L T) N H x N' H' g:=by obtain⟨v,u,h⟩:=aC h;obtain⟨b,rfl,h⟩:=sn h;obtain⟨rfl,rfl,rfl,rfl⟩:=cg h;refine bq E D trivial fun A Z w β a K=>?_;have J:a.eval y=.bool b:=RdA.b_eq (aM (o:=⟨dst,.unOp .not t y,ty,pos,af,gd⟩) (by simp[Op.operands]) I u K);exact⟨.bool (!b),by simp[execOp,J,Op.unary],by cases b<;>exact .b _⟩
theorem rr (k:IntKind) (n:Int):zL k n=k.wrap n:=by
 unfold zL;rw[ig,ig];split
 ·rename_i h;split
  ·rename_i u;have h:=fe h;have E:k=.i64:=by cases k<;>simp[kN] at h<;>rfl
   subst E;have u:n.natAbs<9223372036854775808:=by simpa [Nat.blt,Nat.ble_eq,Nat.lt_iff_add_one_le] using u
   show n=if (true&&decide (n%18446744073709551616>=9223372036854775808))=true then n%18446744073709551616-18446744073709551616 else n%18446744073709551616;split<;>rename_i D<;>simp at D<;>omega
  ·rfl
 ·rfl
theorem adM (_R:lm (TS m L T)) (E:jp H) (D:jx N H) {x:XV}(I:cO m y=some xo) (h:Zb xo call L T N H=some (.mk x N' H' g)):gz P ops ⟨dst,.unOp .neg t y,ty,pos,af,gd⟩ (TS m L T) N H x N' H' g:=by obtain⟨v,u,h⟩:=aC h;obtain⟨k,n,rfl,h⟩:=mn h;obtain⟨rfl,rfl,rfl,rfl⟩:=cg h;refine bq E D trivial fun A Z w β a K=>?_;have J:a.eval y=.int k n:=RdA.i_eq (aM (o:=⟨dst,.unOp .neg t y,ty,pos,af,gd⟩) (by simp[Op.operands]) I u K);exact⟨.int k (k.wrap (0-n)),by simp[execOp,J,Op.unary,Op.intArith],by rw[rr];exact .i _ _⟩
theorem aaY (_hT:lm (TS m L T)) (J:jp H) (W:jx N H) {d:TypeId}{k:IntKind}{x:XV}(hs:Xm P s=some k0) (u:Xm P d=some k) (K:cO m y=some xo) (h:PT k xo call L T N H=some (.mk x N' H' g)):gz P ops ⟨dst,.convert s d y,ty,pos,af,gd⟩ (TS m L T) N H x N' H' g:=by
 obtain⟨v,I,h⟩:=aC h;obtain⟨k1,n,rfl,h⟩:=mn h;obtain⟨rfl,rfl,rfl,rfl⟩:=cg h;refine bq J W trivial fun A Z w β a R=>?_;have e1:a.eval y=.int k1 n:=RdA.i_eq (aM (o:=⟨dst,.convert s d y,ty,pos,af,gd⟩) (by simp[Op.operands]) K I R);have D:P.underlying s=some (.int k0):=by
  unfold Xm at hs;split at hs;·rename_i q;injection hs with hs;subst hs;exact q
  ·cases hs
 have E:P.underlying d=some (.int k):=by
  unfold Xm at u;split at u;·rename_i q;injection u with u;subst u;exact q
  ·cases u
 exact⟨.int k (k.wrap n),by simp[execOp,e1,convert,run_underlying D,run_underlying E,Conv.intToInt],by rw[rr];exact .i _ _⟩
end
section
variable {P:Program}{ops:Array Oper}{o:Oper}{TT:TX}{m N:Nat}{L:LX}{T:Tr XV}{H:Tr Bx}{x:XV}
variable {N':Nat}{H':Tr Bx}{g:Lg}{call:fF}
variable {dst:Option Nat}{ty:TypeId}{pos:String}{af:Array Edge}{gd:Option (Nat×Bool)}
theorem OY {k:IntKind}(h:Nat.beq (kN k) (kN k')=true):k=k':=by have h:=fe h;cases k<;>cases k'<;>simp[kN] at h<;>rfl
theorem mQ (x y:Int):wb x y=decide (x<y):=by
 unfold wb;show @Int.rec (fun _=>Bool) (fun _=>false) (fun _=>true) (x-y)=_;cases h:x-y with
 |ofNat n=>
  have:(Int.ofNat n)=(n:Int):=rfl;show false=_;symm;simp;omega
 |negSucc n=>
  have:Int.negSucc n<0:=BK n;show true=_;symm;simp;omega
theorem Cd (x y:Int):JB x y=(x==y):=by
 unfold JB;show @Int.rec (fun _=>Bool) (fun n=>Nat.beq n 0) (fun _=>false) (x-y)=_;cases h:x-y with
 |ofNat n=>
  have h:x-y=(n:Int):=h;show Nat.beq n 0=_;cases n with
  |zero=>
   have:x=y:=by omega
   subst this;simp
  |succ n=>
   have:x≠y:=by omega
   show false=_;symm;simpa using this
 |negSucc n=>
  have:Int.negSucc n<0:=BK n;have:x≠y:=by omega
  show false=_;symm;simpa using this
theorem Vi (I:Wn op=some f) {k:IntKind}{a b:Int}{r:AV}(u:f k a b=some r) (xt:TypeId) (x y:Operand) (w:World) (A Z:Nat->Prop) (β:Nat->Pl):
 ∃v,(do eqGuard op xt x y (.int k a) (.int k b);binOp op xt (.int k a) (.int k b):Go.Sem Value).run P w=.ok v w/\RdA A Z w β v r:=by
 have E: ∀ {b c:Bool},b=c->RdA A Z w β (.bool b) (.b c):=fun e=>by subst e;exact .b _
 cases op<;>simp[Wn] at I<;>subst I
 ·injection u with u;subst u;rw[rr];exact⟨.int k (k.wrap (a+b)),by simp[eqGuard,binOp,Op.intArith],.i _ _⟩
 ·injection u with u;subst u;rw[rr];exact⟨.int k (k.wrap (a-b)),by simp[eqGuard,binOp,Op.intArith],.i _ _⟩
 ·injection u with u;subst u;rw[rr];exact⟨.int k (k.wrap (a*b)),by simp[eqGuard,binOp,Op.intArith],.i _ _⟩
 ·unfold aeG at u
  rw[ig,Cd] at u
  split at u
  ·cases u
  ·rename_i D
   injection u with u;subst u;rw[rr]
   have D:b≠0:=by simpa using D
   exact⟨.int k (k.wrap (a.tdiv b)),by simp[eqGuard,binOp,Op.intDiv,D],.i _ _⟩
 ·unfold adG at u
  rw[ig,Cd] at u
  split at u
  ·cases u
  ·rename_i D
   injection u with u;subst u
   have D:b≠0:=by simpa using D
   exact⟨.int k (a.tmod b),by simp[eqGuard,binOp,Op.intDiv,D],.i _ _⟩
 ·injection u with u;subst u;exact⟨_,by simp[eqGuard,binOp,Op.intBits],.i _ _⟩
 ·injection u with u;subst u;exact⟨_,by simp[eqGuard,binOp,Op.intBits],.i _ _⟩
 ·injection u with u;subst u;exact⟨_,by simp[eqGuard,binOp,Op.intBits],.i _ _⟩
 ·injection u with u;subst u;exact⟨.bool (a==b),by simp[eqGuard,binOp,Op.intCmp],E (Cd a b).symm⟩
 ·injection u with u;subst u;exact⟨.bool (a !=b),by simp[eqGuard,binOp,Op.intCmp],E (by rw[ig,Cd];cases h:(a==b)<;>simp[bne,h])⟩
 ·injection u with u;subst u;exact⟨.bool (a<b),by simp[eqGuard,binOp,Op.intCmp],E (mQ a b).symm⟩
 ·injection u with u;subst u;exact⟨.bool (a<=b),by simp[eqGuard,binOp,Op.intCmp],E (by rw[ig,mQ];by_cases h:b<a<;>simp[h]<;>omega)⟩
 ·injection u with u;subst u;exact⟨.bool (a>b),by simp[eqGuard,binOp,Op.intCmp],E (mQ b a).symm⟩
 ·injection u with u;subst u;exact⟨.bool (a>=b),by simp[eqGuard,binOp,Op.intCmp],E (by rw[ig,mQ];by_cases h:a<b<;>simp[h]<;>omega)⟩
theorem aeD (_hT:lm (TS m L T)) (R:jp H) (hL:jx N H) {x:XV}(W:Wn op=some f) (h1:cO m y=some xo) (h2:cO m z=some yo)
 (h:Yr f xo yo call L T N H=some (.mk x N' H' g)):gz P ops ⟨dst,.binOp op xt y z yt,ty,pos,af,gd⟩ (TS m L T) N H x N' H' g:=by
 obtain⟨v,K,h⟩:=aC h
 obtain⟨v2,E,h⟩:=aC h
 obtain⟨k,a,q1,h⟩:=mn h
 obtain⟨k',b,q2,h⟩:=mn h
 subst q1 q2
 obtain⟨D,h⟩:=bv h
 obtain⟨r,hr,h⟩:=aC h
 obtain⟨rfl,rfl,rfl,rfl⟩:=cg h
 have D:=OY D
 subst D
 refine bq R hL trivial fun A Z w β ac J=>?_
 have e1:ac.eval y=.int k a:=RdA.i_eq (aM (o:=⟨dst,.binOp op xt y z yt,ty,pos,af,gd⟩) (by simp[Op.operands]) h1 K J)
 have e2:ac.eval z=.int k b:=RdA.i_eq (aM (o:=⟨dst,.binOp op xt y z yt,ty,pos,af,gd⟩) (by simp[Op.operands]) h2 E J)
 obtain⟨v,u,I⟩:=Vi (P:=P) W hr xt y z w A Z β
 refine⟨v,?_,I⟩
 show(do let r <-(do eqGuard op xt y z (ac.eval y) (ac.eval z);binOp op xt (ac.eval y) (ac.eval z):Go.Sem Value);pure (Next.value r):Go.Sem Next).run P w=_
 rw[e1,e2,fq,u]
 rfl
theorem afd (_hT:lm (TS m L T)) (hO:jp H) (hL:jx N H) {x:XV}(I:abf op=some f) (h1:cO m y=some xo) (h2:cO m z=some yo)
 (h:X4 f xo yo call L T N H=some (.mk x N' H' g)):gz P ops ⟨dst,.binOp op xt y z yt,ty,pos,af,gd⟩ (TS m L T) N H x N' H' g:=by
 obtain⟨v,W,h⟩:=aC h
 obtain⟨v2,E,h⟩:=aC h
 obtain⟨k,a,q1,h⟩:=mn h
 obtain⟨k',b,q2,h⟩:=mn h
 subst q1 q2
 obtain⟨r,u,h⟩:=aC h
 obtain⟨rfl,rfl,rfl,rfl⟩:=cg h
 refine bq hO hL trivial fun A Z w β ac J=>?_
 have R:ac.eval y=.int k a:=RdA.i_eq (aM (o:=⟨dst,.binOp op xt y z yt,ty,pos,af,gd⟩) (by simp[Op.operands]) h1 W J)
 have K:ac.eval z=.int k' b:=RdA.i_eq (aM (o:=⟨dst,.binOp op xt y z yt,ty,pos,af,gd⟩) (by simp[Op.operands]) h2 E J)
 cases op<;>simp[abf] at I<;>subst I
 ·unfold ado at u
  rw[ig,mQ] at u
  split at u
  ·cases u
  ·rename_i D
   injection u with u;subst u
   have D: ¬b<0:=by simpa using D
   exact⟨.int k (k.wrap (a*2^(min b.toNat k.bits))),by simp[execOp,R,K,eqGuard,binOp,Op.shift,D],.i _ _⟩
 ·unfold acW at u
  rw[ig,mQ] at u
  split at u
  ·cases u
  ·rename_i D
   injection u with u;subst u
   have D: ¬b<0:=by simpa using D
   exact⟨.int k (a.fdiv (2^(min b.toNat k.bits))),by simp[execOp,R,K,eqGuard,binOp,Op.shift,D],.i _ _⟩
theorem adn (_hT:lm (TS m L T)) (K:jp H) (W:jx N H) {x:XV}(R:P.underlying xt=some .bool) (D:cO m y=some xo) (E:cO m z=some yo)
 (h:LD false xo yo call L T N H=some (.mk x N' H' g)):gz P ops ⟨dst,.binOp .eql xt y z yt,ty,pos,af,gd⟩ (TS m L T) N H x N' H' g:=by
 obtain⟨v,J,h⟩:=aC h
 obtain⟨v2,u,h⟩:=aC h
 obtain⟨a,q1,h⟩:=sn h
 obtain⟨b,q2,h⟩:=sn h
 subst q1 q2
 obtain⟨rfl,rfl,rfl,rfl⟩:=cg h
 refine bq K W trivial fun A Z w β ac I=>?_
 have e1:ac.eval y=.bool a:=RdA.b_eq (aM (o:=⟨dst,.binOp .eql xt y z yt,ty,pos,af,gd⟩) (by simp[Op.operands]) D J I)
 have e2:ac.eval z=.bool b:=RdA.b_eq (aM (o:=⟨dst,.binOp .eql xt y z yt,ty,pos,af,gd⟩) (by simp[Op.operands]) E u I)
 refine⟨.bool (a==b),?_,.b _⟩
 have D:(eqGuard .eql xt y z (.bool a) (.bool b)).run P w=.ok () w:=rfl
 have E:binOp .eql xt (.bool a) (.bool b)=(do pure (.bool (<-Op.equal xt (.bool a) (.bool b)))):=rfl
 simp only[execOp,e1,e2,fq,D,dd,E,mj R,dx]
theorem aeP (_hT:lm (TS m L T)) (K:jp H) (W:jx N H) {x:XV}(R:P.underlying xt=some .bool) (D:cO m y=some xo) (E:cO m z=some yo)
 (h:LD true xo yo call L T N H=some (.mk x N' H' g)):gz P ops ⟨dst,.binOp .neq xt y z yt,ty,pos,af,gd⟩ (TS m L T) N H x N' H' g:=by
 obtain⟨v,J,h⟩:=aC h
 obtain⟨v2,u,h⟩:=aC h
 obtain⟨a,q1,h⟩:=sn h
 obtain⟨b,q2,h⟩:=sn h
 subst q1 q2
 obtain⟨rfl,rfl,rfl,rfl⟩:=cg h
 refine bq K W trivial fun A Z w β ac I=>?_
 have e1:ac.eval y=.bool a:=RdA.b_eq (aM (o:=⟨dst,.binOp .neq xt y z yt,ty,pos,af,gd⟩) (by simp[Op.operands]) D J I)
 have e2:ac.eval z=.bool b:=RdA.b_eq (aM (o:=⟨dst,.binOp .neq xt y z yt,ty,pos,af,gd⟩) (by simp[Op.operands]) E u I)
 refine⟨.bool (!(a==b)),?_,.b _⟩
 have D:(eqGuard .neq xt y z (.bool a) (.bool b)).run P w=.ok () w:=rfl
 have E:binOp .neq xt (.bool a) (.bool b)=(do pure (.bool (!(<-Op.equal xt (.bool a) (.bool b))))):=rfl
 simp only[execOp,e1,e2,fq,D,dd,E,mj R,dx]
theorem vO (u:P.underlying xt=some (.slice e)):(Op.equal xt (.slice b n c) (.slice none 0 0)).run P w=.ok b.isNone w:=by unfold Op.equal Op.maxDepth;rw[show(10000:Nat)=9999+1 from rfl,Op.equalIn];simp only[fq,run_underlying u,dd];cases b<;>rfl
theorem aeh (_hT:lm (TS m L T)) (K:jp H) (R:jx N H) {x:XV}(W:P.underlying xt=some (.slice e)) (E:cO m y=some xo)
 (h:LQ false xo call L T N H=some (.mk x N' H' g)):gz P ops ⟨dst,.binOp .eql xt y (.const (.slice none 0 0)) yt,ty,pos,af,gd⟩ (TS m L T) N H x N' H' g:=by
 obtain⟨v,J,h⟩:=aC h
 obtain⟨a,rfl,h⟩:=il h
 have u: ∀(ac:Act) (w:World) (b:Option Addr) (n c:Nat),ac.eval y=.slice b n c->(execOp ac.eval ⟨dst,.binOp .eql xt y (.const (.slice none 0 0)) yt,ty,pos,af,gd⟩).run P w=.ok (.value (.bool b.isNone)) w:=by intro ac w b n c D;have E:(eqGuard .eql xt y (.const (.slice none 0 0)) (.slice b n c) (.slice none 0 0)).run P w=.ok () w:=rfl;have h2:binOp .eql xt (.slice b n c) (.slice none 0 0)=(do pure (.bool (<-Op.equal xt (.slice b n c) (.slice none 0 0)))):=rfl;have e2:ac.eval (.const (.slice none 0 0))=.slice none 0 0:=rfl;simp only[execOp,D,e2,fq,E,dd,h2,vO W,dx]
 rcases kO h with⟨k,off,n,lo,ex,m',rfl,h⟩|⟨rfl,h⟩|⟨rfl,h⟩
 ·obtain⟨rfl,rfl,rfl,rfl⟩:=cg h
  refine bq K R trivial fun A Z w β ac I=>?_
  obtain⟨c,D,_⟩:=RdA.s_eq (aM (o:=⟨dst,.binOp .eql xt y (.const (.slice none 0 0)) yt,ty,pos,af,gd⟩) (by simp[Op.operands]) E J I)
  exact⟨_,u ac w _ _ _ D,.b _⟩
 ·obtain⟨rfl,rfl,rfl,rfl⟩:=cg h
  refine bq K R trivial fun A Z w β ac I=>?_
  have D:=RdA.z_eq (aM (o:=⟨dst,.binOp .eql xt y (.const (.slice none 0 0)) yt,ty,pos,af,gd⟩) (by simp[Op.operands]) E J I)
  exact⟨_,u ac w _ _ _ D,.b _⟩
 ·cases h
theorem aeA (_hT:lm (TS m L T)) (K:jp H) (R:jx N H) {x:XV}(W:P.underlying xt=some (.slice e)) (E:cO m y=some xo)
 (h:LQ true xo call L T N H=some (.mk x N' H' g)):gz P ops ⟨dst,.binOp .neq xt y (.const (.slice none 0 0)) yt,ty,pos,af,gd⟩ (TS m L T) N H x N' H' g:=by
 obtain⟨v,J,h⟩:=aC h
 obtain⟨a,rfl,h⟩:=il h
 have u: ∀(ac:Act) (w:World) (b:Option Addr) (n c:Nat),ac.eval y=.slice b n c->(execOp ac.eval ⟨dst,.binOp .neq xt y (.const (.slice none 0 0)) yt,ty,pos,af,gd⟩).run P w=.ok (.value (.bool (!b.isNone))) w:=by intro ac w b n c D;have E:(eqGuard .neq xt y (.const (.slice none 0 0)) (.slice b n c) (.slice none 0 0)).run P w=.ok () w:=rfl;have h2:binOp .neq xt (.slice b n c) (.slice none 0 0)=(do pure (.bool (!(<-Op.equal xt (.slice b n c) (.slice none 0 0))))):=rfl;have e2:ac.eval (.const (.slice none 0 0))=.slice none 0 0:=rfl;simp only[execOp,D,e2,fq,E,dd,h2,vO W,dx]
 rcases kO h with⟨k,off,n,lo,ex,m',rfl,h⟩|⟨rfl,h⟩|⟨rfl,h⟩
 ·obtain⟨rfl,rfl,rfl,rfl⟩:=cg h
  refine bq K R trivial fun A Z w β ac I=>?_
  obtain⟨c,D,_⟩:=RdA.s_eq (aM (o:=⟨dst,.binOp .neq xt y (.const (.slice none 0 0)) yt,ty,pos,af,gd⟩) (by simp[Op.operands]) E J I)
  exact⟨_,u ac w _ _ _ D,.b _⟩
 ·obtain⟨rfl,rfl,rfl,rfl⟩:=cg h
  refine bq K R trivial fun A Z w β ac I=>?_
  have D:=RdA.z_eq (aM (o:=⟨dst,.binOp .neq xt y (.const (.slice none 0 0)) yt,ty,pos,af,gd⟩) (by simp[Op.operands]) E J I)
  exact⟨_,u ac w _ _ _ D,.b _⟩
 ·cases h
theorem agz (_hT:lm (TS m L T)) (D:jp H) (K:jx N H) {f:Nat}{x:XV}(R:Nk P U f=some o') (h1:cO m y=some xo)
 (h:aeI o' xo call L T N H=some (.mk x N' H' g)):gz P ops ⟨dst,.fieldAddr U y f,ty,pos,af,gd⟩ (TS m L T) N H x N' H' g:=by
 obtain⟨v,u,h⟩:=aC h
 obtain⟨k,off,rfl,h⟩:=p8 h
 obtain⟨rfl,rfl,rfl,rfl⟩:=cg h
 refine bq D K trivial fun A Z w β ac J=>?_
 obtain⟨e1,I⟩:=RdA.p_eq (aM (o:=⟨dst,.fieldAddr U y f,ty,pos,af,gd⟩) (by simp[Op.operands]) h1 u J)
 obtain⟨fs,fd,g1,E,g3,W⟩:=FE R
 refine⟨.pointer (some ⟨(β k).b,off+o',none⟩),?_,.p _ _ I⟩
 simp only[execOp,Instr.fieldAt,e1,Instr.sureAddr,fq,dx,dd,run_underlying g1,E,W,d8]
theorem Lr {f:Nat}{b:Bool}(h:fd2 P U f=some (b,off,n)): ∃D u,P.underlying U=some (.struct D)/\D[f]? =some u/\u.offset=off/\mv P u.type=some (b,n):=by
 unfold fd2 at h;split at h
 ·rename_i D K;split at h
  ·rename_i u R;split at h
   ·rename_i b' n' I;injection h with h;injection h with W E;injection E with E J;subst W E J;exact⟨D,u,K,R,rfl,I⟩
   ·cases h
  ·cases h
 ·cases h
theorem aef (hT:lm (TS m L T)) (hO:jp H) (hL:jx N H) {f:Nat}{x:XV}(hU:fd2 P U f=some (true,o',n)) (R:cO m y=some xo)
 (h:YU o' n xo call L T N H=some (.mk x N' H' g)):gz P ops ⟨dst,.field U y f,ty,pos,af,gd⟩ (TS m L T) N H x N' H' g:=by
 obtain⟨v,J,W⟩:=aC h
 cases v with
 |a u r=>
  obtain⟨I,h3⟩:=bv (show bT (Nat.ble (Nat.add o' n) u) (pR (.a n (iB r u o' n)) N H)=some (.mk x N' H' g) from W)
  obtain⟨rfl,rfl,rfl,rfl⟩:=cg h3
  rw[dN] at I
  obtain⟨E,D⟩:=tE hT R J
  obtain⟨g1,K⟩:=jW r u o' n E D I
  have a0:o'+n<=r.flat.length:=by rw[<-D];exact I
  refine bq hO hL ⟨g1,by rw[K];simp;omega⟩ fun A Z w β ac ht=>?_
  obtain⟨cs,e1,hr⟩:=aM (o:=⟨dst,.field U y f,ty,pos,af,gd⟩) (by simp[Op.operands]) R J ht
  obtain⟨fs,fd,k1,k2,k3,k4⟩:=Lr hU
  obtain⟨k5,k6⟩:=mO k4 w
  refine⟨.agg (cs.extract o' (o'+n)),?_,_,rfl,?_⟩
  ·simp only[execOp,Instr.field,e1,fq,dx,dd,run_underlying k1,k2,part,asAgg,k5,k6,k3,if_true]
  ·rw[K]
   have:=(hr.drop o').take n
   simpa [Array.toList_extract,List.extract_eq_take_drop] using this
 |_=>cases W
theorem acR (hT:lm (TS m L T)) (hO:jp H) (hL:jx N H) {f:Nat}{x:XV}(hU:fd2 P U f=some (false,o',n)) (R:cO m y=some xo)
 (h:Zq o' xo call L T N H=some (.mk x N' H' g)):gz P ops ⟨dst,.field U y f,ty,pos,af,gd⟩ (TS m L T) N H x N' H' g:=by
 obtain⟨v,K,W⟩:=aC h
 cases v with
 |a a1 r=>
  obtain⟨c,u,h3⟩:=aC (show oO (qw r o') (fun a=>pR (.c a) N H)=some (.mk x N' H' g) from W)
  obtain⟨rfl,rfl,rfl,rfl⟩:=cg h3
  obtain⟨I,a0⟩:=tE hT R K
  rw[qE r o' I] at u
  refine bq hO hL trivial fun A Z w β ac ht=>?_
  obtain⟨cs,e1,hr⟩:=aM (o:=⟨dst,.field U y f,ty,pos,af,gd⟩) (by simp[Op.operands]) R K ht
  obtain⟨fs,fd,k1,k2,k3,k4⟩:=Lr hU
  obtain⟨k5,_⟩:=mO k4 w
  have D:o'<cs.toList.length:=by rw[hr.1];exact(fb.1 u).1
  have E:cs.toList[o']? =some (cs.toList[o']'D):=dY _
  refine⟨_,?_,hr.2 o' _ c E u⟩
  have J:cs[o']? =some (cs.toList[o']'D):=by rw[<-kj];exact E
  simp only[execOp,Instr.field,e1,fq,dx,dd,run_underlying k1,k2,part,asAgg,k5,k3,J]
  rfl
 |_=>cases W
theorem adc (hT:lm (TS m L T)) (hO:jp H) (hL:jx N H) {i:Nat}{x:XV}(h1:cO m y=some xo)
 (h:Za xo i call L T N H=some (.mk x N' H' g)):gz P ops ⟨dst,.extract y i,ty,pos,af,gd⟩ (TS m L T) N H x N' H' g:=by
 obtain⟨v,E,h⟩:=aC h
 obtain⟨D,rfl,h⟩:=UE h
 obtain⟨d,J,h⟩:=aC h
 obtain⟨rfl,rfl,rfl,rfl⟩:=cg h
 have u: ∀(D:List XD) (i:Nat),U9 D i=D[i]? :=by
  intro D;induction D with
  |nil=>intro i;simp[U9]
  |cons d D ih=>
   intro i;show @Bool.rec (fun _=>Option XD) (U9 D (Nat.pred i)) (some d) (Nat.beq i 0)=_;rw[rT];cases i with
   |zero=>rfl
   |succ i=>rw[if_neg (by omega)];simpa using ih i
 rw[u] at J
 have a0: ∀d∈D,BM d:=tE hT h1 E
 have W:=a0 d (sC J)
 refine bq hO hL (by cases d<;>exact W) fun A Z w β ac ht=>?_
 obtain⟨vs,e1,K⟩:=aM (o:=⟨dst,.extract y i,ty,pos,af,gd⟩) (by simp[Op.operands]) h1 E ht
 have I:i<D.length:=(fb.1 J).1
 have E:vs.toList[i]? =some (vs.toList[i]'(by rw[K.1];exact I)):=dY _
 have R:=K.2 i _ d E J
 rw[kj] at E
 refine⟨vs.toList[i]'(by rw[K.1];exact I),?_,?_⟩
 ·simp only[execOp,e1,Instr.extract,E,fq,dx,dd]
 ·cases d<;>exact R
theorem acN (_hT:lm (TS m L T)) (J:jp H) (K:jx N H) {x:XV}(R:om P U=some sz) (W:cO m y=some xo)
 (h:ZA xo call L T N H=some (.mk x N' H' g)):gz P ops ⟨dst,.call ⟨.builtin .len,#[y],#[U]⟩,ty,pos,af,gd⟩ (TS m L T) N H x N' H' g:=by
 obtain⟨v,I,h⟩:=aC h
 obtain⟨a,rfl,h⟩:=il h
 have u: ∀(ac:Act) (w:World) (b:Option Addr) (n c:Nat),ac.eval y=.slice b n c->(execOp ac.eval ⟨dst,.call ⟨.builtin .len,#[y],#[U]⟩,ty,pos,af,gd⟩).run P w=.ok (.value (.int .i64 n)) w:=by
  intro ac w b n c e;unfold om at R;split at R
  ·rename_i el hu;simp[execOp,resolve,invoke,builtin,Builtin.len_,e,run_underlying hu,goInt]
  ·cases R
 rcases kO h with⟨k,off,n,lo,ex,m',rfl,h⟩|⟨rfl,h⟩|⟨rfl,h⟩
 ·obtain⟨rfl,rfl,rfl,rfl⟩:=cg h
  refine bq J K trivial fun A Z w β ac D=>?_
  obtain⟨c,E,_⟩:=RdA.s_eq (aM (o:=⟨dst,.call ⟨.builtin .len,#[y],#[U]⟩,ty,pos,af,gd⟩) (by simp[Op.operands,Call.operands]) W I D)
  exact⟨_,u ac w _ _ _ E,.i _ _⟩
 ·obtain⟨rfl,rfl,rfl,rfl⟩:=cg h
  refine bq J K trivial fun A Z w β ac D=>?_
  have E:=RdA.z_eq (aM (o:=⟨dst,.call ⟨.builtin .len,#[y],#[U]⟩,ty,pos,af,gd⟩) (by simp[Op.operands,Call.operands]) W I D)
  exact⟨_,u ac w _ _ _ E,.i _ _⟩
 ·obtain⟨rfl,rfl,rfl,rfl⟩:=cg h
  refine bq J K trivial fun A Z w β ac D=>?_
  obtain⟨b,c,E,_⟩:=RdA.ev_eq (aM (o:=⟨dst,.call ⟨.builtin .len,#[y],#[U]⟩,ty,pos,af,gd⟩) (by simp[Op.operands,Call.operands]) W I D)
  exact⟨_,u ac w _ _ _ E,.i _ _⟩
theorem aen (_hT:lm (TS m L T)) (hO:jp H) (W:jx N H) {x:XV}(K:om P U=some sz) (h1:cO m y=some xo)
 (h:Zh xo call L T N H=some (.mk x N' H' g)):gz P ops ⟨dst,.call ⟨.builtin .cap,#[y],#[U]⟩,ty,pos,af,gd⟩ (TS m L T) N H x N' H' g:=by
 obtain⟨v,R,h⟩:=aC h
 obtain⟨a,rfl,h⟩:=il h
 have u: ∀(ac:Act) (w:World) (b:Option Addr) (n c:Nat),ac.eval y=.slice b n c->(execOp ac.eval ⟨dst,.call ⟨.builtin .cap,#[y],#[U]⟩,ty,pos,af,gd⟩).run P w=.ok (.value (.int .i64 c)) w:=by
  intro ac w b n c e;unfold om at K;split at K
  ·rename_i el hu;simp[execOp,resolve,invoke,builtin,Builtin.cap_,e,run_underlying hu,goInt]
  ·cases K
 rcases kO h with⟨k,off,n,lo,ex,m',rfl,h⟩|⟨rfl,h⟩|⟨rfl,h⟩
 ·obtain⟨E,h⟩:=bv h
  obtain⟨rfl,rfl,rfl,rfl⟩:=cg h
  refine bq hO W trivial fun A Z w β ac D=>?_
  obtain⟨c,I,_,_,_,_,J,_⟩:=RdA.s_eq (aM (o:=⟨dst,.call ⟨.builtin .cap,#[y],#[U]⟩,ty,pos,af,gd⟩) (by simp[Op.operands,Call.operands]) h1 R D)
  have J:=J E
  subst J
  exact⟨_,u ac w _ _ _ I,.i _ _⟩
 ·obtain⟨rfl,rfl,rfl,rfl⟩:=cg h
  refine bq hO W trivial fun A Z w β ac D=>?_
  have I:=RdA.z_eq (aM (o:=⟨dst,.call ⟨.builtin .cap,#[y],#[U]⟩,ty,pos,af,gd⟩) (by simp[Op.operands,Call.operands]) h1 R D)
  exact⟨_,u ac w _ _ _ I,.i _ _⟩
 ·cases h
theorem ag6 (_hT:lm (TS m L T)) (hO:jp H) (hL:jx N H) {x:XV}(D:om P U=some sz) (h1:cO m y=some xo) (h2:cO m z=some yo)
 (h:acU sz xo yo call L T N H=some (.mk x N' H' g)):gz P ops ⟨dst,.indexAddr U y z,ty,pos,af,gd⟩ (TS m L T) N H x N' H' g:=by
 obtain⟨v,hv,h⟩:=aC h
 obtain⟨v2,K,h⟩:=aC h
 obtain⟨a,rfl,h⟩:=il h
 obtain⟨ki,j,rfl,h⟩:=ru h
 rcases kO h with⟨k,off,n,lo,ex,m',rfl,h⟩|⟨rfl,h⟩|⟨rfl,h⟩
 ·obtain⟨hj,h⟩:=bv h
  obtain⟨hm,h⟩:=bv h
  obtain⟨rfl,rfl,rfl,rfl⟩:=cg h
  rw[cJ] at hj
  refine bq hO hL trivial fun A Z w β ac W=>?_
  obtain⟨c,e1,hk,_⟩:=RdA.s_eq (aM (o:=⟨dst,.indexAddr U y z,ty,pos,af,gd⟩) (by simp[Op.operands]) h1 hv W)
  have e2:=RdA.i_eq (aM (o:=⟨dst,.indexAddr U y z,ty,pos,af,gd⟩) (by simp[Op.operands]) h2 K W)
  refine⟨.pointer (some ⟨(β k).b,off+j*sz,none⟩),?_,.p _ _ hk⟩
  unfold om at D
  split at D
  case h_2=>cases D
  rename_i el E
  cases u:P.info? el with
  |none=>rw[u] at D;cases D
  |some a0=>
   rw[u] at D
   simp at D
   have J: ∀w,(sizeOf el).run P w=.ok sz w:=fun w=>by unfold sizeOf typeInfo;simp[program,Sem.run,u,D]
   have I:(0:Int)<=(j:Int):=by omega
   have R:(j:Int)<(n:Int):=by omega
   simp[execOp,Instr.indexAt,e1,e2,asIntOf,run_underlying E,I,J,d8,hj]
 ·cases h
 ·cases h
end
section
variable {P:Program}{ops:Array Oper}{o:Oper}{TT:TX}{m N:Nat}{L:LX}{T:Tr XV}{H:Tr Bx}{x:XV}
variable {N':Nat}{H':Tr Bx}{g:Lg}{call:fF}
variable {dst:Option Nat}{ty:TypeId}{pos:String}{af:Array Edge}{gd:Option (Nat×Bool)}
theorem L3 (D:om P U=some sz): ∃E,P.underlying U=some (.slice E)/\ ∀w,(sizeOf E).run P w=.ok sz w:=by
 unfold om at D;split at D;case h_2=>cases D
 rename_i E I;cases u:P.info? E with
 |none=>rw[u] at D;cases D
 |some J=>
  rw[u] at D;simp at D;exact⟨E,I,fun w=>by unfold sizeOf typeInfo;simp[program,Sem.run,u,D]⟩
theorem sJ {d:Nat}{y:Option Operand}{yo:Option XO}(u:E6 m y=some yo) (D:zW L T d yo=some l) (hy: ∀z,y=some z->z∈o.op.operands)
 (W:yN A Z w β (d6 ops o) (TS m L T) a):(y=none/\l=d)\/ ∃z k,y=some z/\a.eval z=.int k (l:Int):=by
 cases y with
 |none=>
  injection u with u
  subst u
  injection D with D
  exact .inl ⟨rfl,D.symm⟩
 |some z=>
  cases K:cO m z with
  |none=>simp[E6,K] at u
  |some zo=>
   simp[E6,K] at u
   subst u
   obtain⟨v,R,E⟩:=aC (show oO (zo.get L T) (fun v=>xN v some)=some l from D)
   obtain⟨k,j,q,J⟩:=ru E
   injection J with I
   subst q I
   exact .inr ⟨z,k,rfl,RdA.i_eq (aM (hy z rfl) K R W)⟩
theorem D3 (hU:om P U=some sz) (e:a.eval y=.slice b n c)
 (I:(lo=none/\l=0)\/ ∃z k,lo=some z/\a.eval z=.int k (l:Int)) (E:(hi=none/\h=n)\/ ∃z k,hi=some z/\a.eval z=.int k (h:Int)) (K:l<=h) (h2:h<=c):
 (execOp a.eval ⟨dst,.slice U y lo hi none,ty,pos,af,gd⟩).run P w=.ok (.value (.slice (if c=l then b else b.map (·.add (l*sz))) (h-l) (c-l))) w:=by
 obtain⟨el,u,D⟩:=L3 hU
 have i1:(0:Int)<=(l:Int):=by omega
 have J:(l:Int)<=(h:Int):=by omega
 have i3:(0:Int)<=(h:Int):=by omega
 have R:(h:Int)<=(c:Int):=by omega
 rcases I with⟨rfl,rfl⟩|⟨z,k,rfl,e1⟩<;>rcases E with⟨rfl,rfl⟩|⟨z2,k2,rfl,W⟩
 ·simp[execOp,Instr.sliceAt,Instr.slice,run_underlying u,e,Instr.sliceBounds,D]
 ·simp[execOp,Instr.sliceAt,Instr.slice,run_underlying u,e,W,Instr.sliceBounds,Instr.sliceBound,asIntOf,h2,D]
 ·simp[execOp,Instr.sliceAt,Instr.slice,run_underlying u,e,e1,Instr.sliceBounds,Instr.sliceBound,asIntOf,K,D]
 ·simp[execOp,Instr.sliceAt,Instr.slice,run_underlying u,e,e1,W,Instr.sliceBounds,Instr.sliceBound,asIntOf,K,h2,D]
theorem aey (_hT:lm (TS m L T)) (hO:jp H) (hL:jx N H) {x:XV}(hU:om P U=some sz) (h1:cO m y=some xo) (h2:E6 m lo=some lo') (h3:E6 m hi=some hi')
 (h:ZF sz xo lo' hi' call L T N H=some (.mk x N' H' g)):gz P ops ⟨dst,.slice U y lo hi none,ty,pos,af,gd⟩ (TS m L T) N H x N' H' g:=by
 obtain⟨v,hv,h⟩:=aC h
 obtain⟨a,rfl,h⟩:=il h
 have R: ∀z,lo=some z->z∈(Op.slice U y lo hi none).operands:=fun z e=>by subst e;simp[Op.operands]
 have a0: ∀z,hi=some z->z∈(Op.slice U y lo hi none).operands:=fun z e=>by subst e;simp[Op.operands]
 have W:y∈(Op.slice U y lo hi none).operands:=by simp[Op.operands]
 rcases kO h with⟨k,off,n,lb,ex,m',rfl,h⟩|⟨rfl,h⟩|⟨rfl,h⟩
 ·obtain⟨l,hl,h⟩:=aC h
  obtain⟨K,J,h⟩:=aC h
  obtain⟨hm,h⟩:=bv h
  obtain⟨r,D,h⟩:=aC h
  obtain⟨rfl,rfl,rfl,rfl⟩:=cg h
  have hm:=fe hm
  subst hm
  obtain⟨g1,D⟩:=bv D
  obtain⟨g2,D⟩:=bv D
  rw[dN] at g1 g2
  refine bq hO hL trivial fun A Z w β ac E=>?_
  obtain⟨c,e1,hk,c1,c2,c3,c4,c5⟩:=RdA.s_eq (aM (o:=⟨dst,.slice U y lo hi none,ty,pos,af,gd⟩) W h1 hv E)
  have el:=sJ (o:=⟨dst,.slice U y lo hi none,ty,pos,af,gd⟩) h2 hl R E
  have eh:=sJ (o:=⟨dst,.slice U y lo hi none,ty,pos,af,gd⟩) h3 J a0 E
  refine⟨_,D3 (dst:=dst) (ty:=ty) (pos:=pos) (af:=af) (gd:=gd) hU e1 el eh g1 (fw g2 c2),?_⟩
  rw[ig,ig] at D
  split at D
  ·rename_i I
   rw[cJ] at I
   injection D with D
   subst D
   rw[if_neg (by omega)]
   show RdA A Z w β (.slice (some ((⟨(β k).b,off,none⟩:Addr).add (l*sz))) (K-l) (c-l)) _
   rw[d8]
   refine .s k (off+l*sz) (K-l) (lb-l) ex sz (c-l) hk (by omega) (by omega) (by omega) (fun e=>by rw[c4 e]) ?_
   have:l*sz+(c-l)*sz=c*sz:=by rw[<-iP];congr 1;omega
   omega
  ·rename_i I
   rw[cJ] at I
   have a2:l=lb:=by omega
   split at D
   ·rename_i a1
    injection D with D
    subst D
    have hc:=c4 a1
    rw[if_pos (by omega),show K-l=0 by omega,show c-l=0 by omega]
    exact .s k off 0 0 true sz 0 hk (bd _) (bd _) (by decide) (fun _=>rfl) (by omega)
   ·injection D with D
    subst D
    rw[show K-l=0 by omega]
    refine .ev _ _ (by omega) (fun ad u=>?_)
    split at u
    ·injection u with u;subst u;rfl
    ·have u:some ((⟨(β k).b,off,none⟩:Addr).add (l*sz))=some ad:=u
     rw[d8] at u
     injection u with u;subst u;rfl
 ·obtain⟨l,hl,h⟩:=aC h
  obtain⟨K,J,h⟩:=aC h
  obtain⟨q1,h⟩:=bv h
  obtain⟨q2,h⟩:=bv h
  obtain⟨rfl,rfl,rfl,rfl⟩:=cg h
  have q1:=fe q1
  have q2:=fe q2
  subst q1 q2
  refine bq hO hL trivial fun A Z w β ac E=>?_
  have e1:=RdA.z_eq (aM (o:=⟨dst,.slice U y lo hi none,ty,pos,af,gd⟩) W h1 hv E)
  have el:=sJ (o:=⟨dst,.slice U y lo hi none,ty,pos,af,gd⟩) h2 hl R E
  have eh:=sJ (o:=⟨dst,.slice U y lo hi none,ty,pos,af,gd⟩) h3 J a0 E
  refine⟨_,D3 (dst:=dst) (ty:=ty) (pos:=pos) (af:=af) (gd:=gd) hU e1 el eh (bd _) (bd _),?_⟩
  exact .z
 ·cases h
theorem KX (hU:om P U=some sz) {M:Nat}(e:a.eval y=.slice b n c)
 (E:(lo=none/\l=0)\/ ∃z k,lo=some z/\a.eval z=.int k (l:Int)) (J:a.eval zh=.int kh (h:Int)) (K:a.eval zM=.int kM (M:Int)) (h1:l<=h) (h2:h<=M) (I:M<=c):
 (execOp a.eval ⟨dst,.slice U y lo (some zh) (some zM),ty,pos,af,gd⟩).run P w=.ok (.value (.slice (if M=l then b else b.map (·.add (l*sz))) (h-l) (M-l))) w:=by
 obtain⟨el,u,D⟩:=L3 hU
 have i1:(0:Int)<=(l:Int):=by omega
 have i2:(l:Int)<=(h:Int):=by omega
 have i3:(0:Int)<=(h:Int):=by omega
 have R:(h:Int)<=(M:Int):=by omega
 have i5:(0:Int)<=(M:Int):=by omega
 have W:(M:Int)<=(c:Int):=by omega
 rcases E with⟨rfl,rfl⟩|⟨z,k,rfl,e1⟩
 ·simp[execOp,Instr.sliceAt,Instr.slice,run_underlying u,e,J,K,Instr.sliceBounds,Instr.sliceBound,asIntOf,h2,I,D]
 ·simp[execOp,Instr.sliceAt,Instr.slice,run_underlying u,e,e1,J,K,Instr.sliceBounds,Instr.sliceBound,asIntOf,h1,h2,I,D]
theorem afa (_hT:lm (TS m L T)) (hO:jp H) (hL:jx N H) {ho Mo:XO}{x:XV}(hU:om P U=some sz) (h1:cO m y=some xo) (h2:E6 m lo=some lo') (h3:cO m zh=some ho) (h4:cO m zM=some Mo)
 (h:Ym sz xo lo' ho Mo call L T N H=some (.mk x N' H' g)):gz P ops ⟨dst,.slice U y lo (some zh) (some zM),ty,pos,af,gd⟩ (TS m L T) N H x N' H' g:=by
 obtain⟨v,hv,h⟩:=aC h
 obtain⟨a,rfl,h⟩:=il h
 have K: ∀z,lo=some z->z∈(Op.slice U y lo (some zh) (some zM)).operands:=fun z e=>by subst e;simp[Op.operands]
 have a1:y∈(Op.slice U y lo (some zh) (some zM)).operands:=by simp[Op.operands]
 have a2: ∀z,(some zh)=some z->z∈(Op.slice U y lo (some zh) (some zM)).operands:=fun z e=>by injection e with e;subst e;simp[Op.operands]
 have J: ∀z,(some zM)=some z->z∈(Op.slice U y lo (some zh) (some zM)).operands:=fun z e=>by injection e with e;subst e;simp[Op.operands]
 rcases kO h with⟨k,off,n,lb,ex,m',rfl,h⟩|⟨rfl,h⟩|⟨rfl,h⟩
 ·obtain⟨l,hl,h⟩:=aC h
  obtain⟨I,a0,h⟩:=aC h
  obtain⟨M,hM,h⟩:=aC h
  obtain⟨hm,h⟩:=bv h
  obtain⟨r,u,h⟩:=aC h
  obtain⟨rfl,rfl,rfl,rfl⟩:=cg h
  have hm:=fe hm
  subst hm
  obtain⟨g1,u⟩:=bv u
  obtain⟨g2,u⟩:=bv u
  obtain⟨g3,u⟩:=bv u
  rw[dN] at g1 g2 g3
  refine bq hO hL trivial fun A Z w β ac E=>?_
  obtain⟨c,e1,hk,c1,c2,c3,c4,c5⟩:=RdA.s_eq (aM (o:=⟨dst,.slice U y lo (some zh) (some zM),ty,pos,af,gd⟩) a1 h1 hv E)
  have el:=sJ (o:=⟨dst,.slice U y lo (some zh) (some zM),ty,pos,af,gd⟩) h2 hl K E
  have R:=sJ (o:=⟨dst,.slice U y lo (some zh) (some zM),ty,pos,af,gd⟩) (y:=some zh) (yo:=some ho) (by simp[E6,h3]) a0 a2 E
  have W:=sJ (o:=⟨dst,.slice U y lo (some zh) (some zM),ty,pos,af,gd⟩) (y:=some zM) (yo:=some Mo) (by simp[E6,h4]) hM J E
  obtain⟨q,_⟩|⟨z,kh,q,R⟩:=R
  ·cases q
  injection q with q
  subst q
  obtain⟨q,_⟩|⟨z,kM,q,W⟩:=W
  ·cases q
  injection q with q
  subst q
  refine⟨_,KX (dst:=dst) (ty:=ty) (pos:=pos) (af:=af) (gd:=gd) hU e1 el R W g1 g2 (fw g3 c2),?_⟩
  have a3:M*sz<=c*sz:=mE _ (fw g3 c2)
  rw[ig] at u
  split at u
  ·rename_i D
   rw[cJ] at D
   injection u with u
   subst u
   rw[if_neg (by omega)]
   show RdA A Z w β (.slice (some ((⟨(β k).b,off,none⟩:Addr).add (l*sz))) (I-l) (M-l)) _
   rw[d8]
   refine .s k (off+l*sz) (I-l) (M-l) true sz (M-l) hk (by omega) (by omega) (by omega) (fun _=>rfl) ?_
   have:l*sz+(M-l)*sz=M*sz:=by rw[<-iP];congr 1;omega
   omega
  ·rename_i D
   rw[cJ] at D
   injection u with u
   subst u
   rw[if_pos (by omega),show I-l=0 by omega,show M-l=0 by omega]
   exact .s k off 0 0 true sz 0 hk (bd _) (bd _) (by decide) (fun _=>rfl) (by omega)
 ·cases h
 ·cases h
theorem zD: ∀ {xs:List XO}{vs:List XV},Jh xs L T=some vs->vs.length=xs.length/\ ∀(j:Nat) (xo:XO) (v:XV),xs[j]? =some xo->vs[j]? =some v->xo.get L T=some v
 |[],vs,h=>by have h:some []=some vs:=h;injection h with h;subst h;exact⟨rfl,fun j xo v u=>by simp at u⟩
 |x::xs,vs,h=>by
  obtain⟨v,I,h⟩:=aC (show oO (x.get L T) (fun v=>oO (Jh xs L T) fun vs=>some (v::vs))=some vs from h);obtain⟨K,D,h⟩:=aC h;injection h with h;subst h;obtain⟨R,W⟩:=zD D;refine⟨by simp[R],fun j xo J u E=>?_⟩;cases j with
  |zero=>simp at u E;subst u E;exact I
  |succ j=>exact W j xo J (by simpa using u) (by simpa using E)
def Di (A Z:Nat->Prop) (w:World) (β:Nat->Pl) (vs:List Value) (xs:List XV):Prop:=vs.length=xs.length/\ ∀(j:Nat) (v:Value) (x:XV),vs[j]? =some v->xs[j]? =some x->RdX2 A Z w β v x
theorem oZ {ys:List Operand}(W: ∀y∈ys,y∈o.op.operands) (I:kS (cO m) ys=some xs) (K:Jh xs L T=some vs)
 (ht:yN A Z w β (d6 ops o) (TS m L T) a):Di A Z w β (ys.map a.eval) vs:=by
 obtain⟨h1,h2⟩:=zD K
 have hl:=wJ _ _ I
 refine⟨by simp[hl,h1],fun j v x u R=>?_⟩
 have J:j<ys.length:=by have:=(fb.1 u).1;simpa using this
 have D:ys[j]? =some ys[j]:=dY J
 have E:xs[j]? =some (xs[j]'(by omega)):=dY (by omega)
 have e:v=a.eval ys[j]:=by rw[lu,D] at u;injection u with u;exact u.symm
 rw[e]
 exact aM (W _ (y8 J)) (AH _ _ I j _ _ D E) (h2 j _ _ E R) ht
theorem Ng {ys:List Operand}(R:lm (TS m L T)) (u:kS (cO m) ys=some xs) (I:Jh xs L T=some vs): ∀v∈vs,Ai v:=by obtain⟨W,K⟩:=zD I;have hl:=wJ _ _ u;intro v E;obtain⟨j,D⟩:=yI E;have J:=(fb.1 D).1;exact tE R (AH _ _ u j _ _ (dY (by omega)) (dY (by omega))) (K j _ _ (dY (by omega)) D)
theorem DN: ∀ {vs:List XV}{y:AV}{f:FuncId},aaR f vs=some y-> ∃cs,y.fn=some (f,cs)/\vs=cs.map XV.c
 |[],y,f,h=>by have h:some (AV.f0 f)=some y:=h;injection h with h;subst h;exact⟨[],rfl,rfl⟩
 |v::vs,y,f,h=>by obtain⟨a,rfl,h⟩:=il (show xC v (fun a=>oO (aaR f vs) fun y=>some (.fc a y))=some y from h);obtain⟨y',u,h⟩:=aC h;injection h with h;subst h;obtain⟨cs,D,E⟩:=DN u;exact⟨a::cs,by simp[AV.fn,D],by rw[E];rfl⟩
theorem adL (_hT:lm (TS m L T)) (R:jp H) (hL:jx N H) {f:FuncId}{cs:Array Operand}{x:XV}(u:first.isEmpty=true) (hc:kS (cO m) cs.toList=some xs)
 (h:YF f xs call L T N H=some (.mk x N' H' g)):gz P ops ⟨dst,.makeFunc (.func f) first cs,ty,pos,af,gd⟩ (TS m L T) N H x N' H' g:=by
 obtain⟨vs,D,h⟩:=aC h
 obtain⟨y,E,h⟩:=aC h
 obtain⟨rfl,rfl,rfl,rfl⟩:=cg h
 have u:first= #[]:=Array.isEmpty_iff.1 u
 subst u
 obtain⟨us,h1,K⟩:=DN E
 refine bq R hL trivial fun A Z w β ac ht=>?_
 have J:=oZ (o:=⟨dst,.makeFunc (.func f) #[] cs,ty,pos,af,gd⟩) (fun y E=>by simp[Op.operands];simpa using E) hc D ht
 refine⟨.func (.func f) #[] (cs.map ac.eval),by simp[execOp,Instr.makeFunc],?_⟩
 refine .f f (cs.map ac.eval) us y h1 ?_ (fun j v x I W=>?_)
 ·have:=J.1;rw[K] at this;simpa using this
 ·refine J.2 j v (.c x) ?_ ?_
  ·rw[<-kj] at I;simpa using I
  ·rw[K,lu,W];rfl
end
section
variable {P:Program}{ops:Array Oper}{o:Oper}{TT:TX}{m N:Nat}{L:LX}{T:Tr XV}{H:Tr Bx}{x:XV}
variable {N':Nat}{H':Tr Bx}{g:Lg}{call:fF}
variable {dst:Option Nat}{ty:TypeId}{pos:String}{af:Array Edge}{gd:Option (Nat×Bool)}
theorem ph {b:Bx}{c}(h:HS (H.set b k) j=some c):(j=k/\c=(b.U,b.r.flat))\/(j≠k/\HS H j=some c):=by
 unfold HS at h⊢;cases u:(H.set b k).get j with
 |none=>rw[u] at h;cases h
 |some I=>
  rw[u] at h;injection h with h;rcases Tr.set_get H k j u with⟨E,D⟩|⟨E,D⟩;·subst D;exact .inl ⟨E,h.symm⟩
  ·refine .inr ⟨E,?_⟩;rw[D,<-h];rfl
theorem n9 {b:Bx}(E:jp H) (I:b.r.ok) (J:b.n=b.r.flat.length):jp (H.set b k):=fun j D K=>by
 rcases Tr.set_get H k j K with⟨_,u⟩|⟨_,u⟩;·subst u;exact⟨I,J⟩
 ·exact E j D u
theorem oA {b:Bx}(D:jx N H) (J:N<=N') (R:k<N'):jx N' (H.set b k):=fun j u I=>by
 rcases Tr.set_get H k j I with⟨K,_⟩|⟨_,E⟩;·omega
 ·have:=D j u E;omega
theorem DX {u:Type}{c:u}(h:(if k=l then some c else none)≠none):k=l:=by apply jZ;intro e;rw[if_neg e] at h;exact h rfl
theorem qh {b:Bx}(h:H.get k=some b):HS H k=some (b.U,b.r.flat):=by unfold HS;rw[h];rfl
theorem wR (hO:jp H) (hL:jx N H) {U:Nat}{y:AV}(hr:r.ok) (hn:n=r.flat.length)
 (h: ∀A Z w β a,yN A Z w β (d6 ops o) TT a-> ∃v,∃vs:Array Value,(execOp a.eval o).run P w=.ok (.value v) (w.alloc (.cells vs U))/\RdAs A Z w β vs.toList r.flat/\ ∀A' Z' w' I,A' N->I N=⟨w.heap.size,vs.size⟩->RdA A' Z' w' I v y):
 gz P ops o TT N H (.c y) (N+1) (H.set ⟨U,n,r⟩ N) (.nw N):=by
 have hf:Foot N (N+1) H (H.set ⟨U,n,r⟩ N) e0 (fun k=>if k=N then some (U,r.flat) else none) (.nw N):=⟨rfl,rfl,rfl,fun j hj=>if_neg hj⟩
 refine⟨Nat.le_succ _,trivial,n9 hO hr hn,oA hL (qd _) (wl _),e0,fun k=>if k=N then some (U,r.flat) else none,?_,fun k c h=>(by cases h),?_,hf⟩
 ·intro V A β a w hA W ht
  obtain⟨v,vs,J,R,hv⟩:=h _ _ w β a ht
  unfold Gives
  rw[J]
  have hN: ∀k,A k->k≠N:=fun k u e=>hA k u ⟨Nat.le_of_eq e.symm,by show k<N+1;omega⟩
  have a0:vs.size=r.flat.length:=by rw[<-R.1];simp
  have hH:Hst N (N+1) A e0 β w (fun k=>if k=N then some (U,r.flat) else none) (fun k=>if k=N then⟨w.heap.size,vs.size⟩ else β k) (w.alloc (.cells vs U)):=by
   refine⟨rfl,rfl,rfl,by simp,fun b hb _=>vN _ _ _ hb,fun k u=>if_neg (hN k u),fun k u=>?_,fun k u=>?_⟩
   ·by_cases e:k=N;·rw[if_pos e];exact .inl (bd _)
    ·exact absurd (DX u) e
   ·by_cases e:k=N;·exact .inr ⟨Nat.le_of_eq e.symm,by omega⟩
    ·exact absurd (DX u) e
  have E:=hH.keep W
  refine⟨fun k=>A k\/k=N,fun k=>if k=N then⟨w.heap.size,vs.size⟩ else β k,fun k u=>.inl u,fun k u=>?_,?_,hH,hv _ _ _ _ (.inr rfl) (if_pos rfl)⟩
  ·rcases u with u|u
   ·exact .inl u
   ·exact .inr ⟨Nat.le_of_eq u.symm,by show k<N+1;omega⟩
  ·refine⟨fun b hb=>by rw[dA];exact Nat.lt_succ_of_lt (W.vlt b hb),fun k u=>?_,fun k u=>?_,fun k l u hl _=>?_,fun k u K=>?_,fun k U' cs u=>?_⟩
   ·by_cases e:k=N
    ·exact .inr e
    ·exact absurd (DX u) e
   ·rw[dA]
    rcases u with u|u
    ·rw[if_neg (hN k u)];exact Nat.lt_succ_of_lt (W.lt k u)
    ·rw[if_pos u];exact wl _
   ·by_cases e:k=N
    ·by_cases e2:l=N
     ·rw[e,e2]
     ·exact absurd (DX hl) e2
    ·exact absurd (DX u) e
   ·by_cases e:k=N
    ·rw[if_pos e] at K
     have:=W.vlt _ K
     exact Nat.lt_irrefl _ this
    ·exact absurd (DX u) e
   ·by_cases e:k=N
    ·have D:(if k=N then some (U,r.flat) else none)=some (U',cs):=u
     rw[if_pos e] at D
     injection D with D
     injection D with h1 h2
     subst h1 h2
     rw[if_pos e]
     refine⟨vs,heap_alloc_new w _,rfl,by omega,?_⟩
     rw[f9 (by simp;omega)]
     exact R.mono E (fun _ h=>.inl h) hH.same
    ·have D:(if k=N then some (U,r.flat) else none)=some (U',cs):=u
     rw[if_neg e] at D;cases D
 ·intro k c u
  rcases ph u with⟨e,hc⟩|⟨e,hc⟩
  ·show gU (HS H) e0 _ k=_
   unfold gU
   show(match (if k=N then some (U,r.flat) else none),(none:Option (TypeId×List AV)) with|some c,_=>some c|none,some _=>none|none,none=>HS H k)=some c
   rw[if_pos e,hc]
  ·show gU (HS H) e0 _ k=_
   unfold gU
   show(match (if k=N then some (U,r.flat) else none),(none:Option (TypeId×List AV)) with|some c,_=>some c|none,some _=>none|none,none=>HS H k)=some c
   rw[if_neg e];exact hc
theorem xO {y x:XV}{U:Nat}(h:nwB y U n r N H=some (.mk x N' H' g)):x=y/\N'=N+1/\H'=H.set ⟨U,n,r⟩ N/\g=.nw N:=by unfold nwB at h;injection h with h;injection h with D E u I;exact⟨D.symm,E.symm,u.symm,I.symm⟩
theorem Ko {z:Value}(h:aaA z=some zs):RdAs A Z w β z.cells.toList zs:=by
 unfold aaA at h;split at h;·exact ya h
 ·rename_i E;cases u:mF z with
  |none=>rw[u] at h;cases h
  |some I=>
   rw[u] at h;injection h with h;subst h;have D:RdA A Z w β z I:=tw u;rw[D.one.1];exact RdAs.cons D RdAs.nil
theorem yW (h:zcA P U=some zs): ∃u z,P.info? U=some u/\u.zero=some z/\ ∀A Z w β,RdAs A Z w β z.cells.toList zs:=by
 unfold zcA at h;cases hi:P.info? U with
 |none=>rw[hi] at h;cases h
 |some u=>
  rw[hi] at h;dsimp only at h;cases D:u.zero with
  |none=>rw[D] at h;cases h
  |some z=>
   rw[D] at h;exact⟨u,z,rfl,D,fun A Z w β=>Ko h⟩
theorem Vl (R:jp H) (hL:jx N H) {x:XV}(u:zcA P U=some zs)
 (h:Lt U zs.length (th zs) call L T N H=some (.mk x N' H' g)):gz P ops ⟨dst,.alloc U,ty,pos,af,gd⟩ (TS m L T) N H x N' H' g:=by
 obtain⟨rfl,rfl,rfl,rfl⟩:=xO h
 obtain⟨h1,I⟩:=nv zs
 refine wR R hL h1 (by rw[I]) fun A Z w β a _=>?_
 obtain⟨it,z,hi,u,hr⟩:=yW u
 refine⟨.pointer (some ⟨w.heap.size,0,none⟩),z.cells,?_,by rw[I];exact hr _ _ _ _,fun K W w' E J D=>?_⟩
 ·simp[execOp,Instr.alloc,zeroValue,typeInfo,program,Sem.run,hi,u,newVar,newRow,newObj]
  try rfl
 ·have:=RdA.p (A:=K) (Z:=W) (w:=w') (β:=E) N 0 J
  rw[D] at this;exact this
theorem CO {y:XV}(h:RdX2 A Z w β v y) (D:y.rp=some (n,r)):RdAs A Z w β v.cells.toList r.flat:=by
 cases y with
 |c a=>injection D with D;injection D with E I;subst E I;exact RdD.cells (d:=.c a) h
 |a n' J=>injection D with D;injection D with E I;subst E I;exact RdD.cells (d:=.a n' J) h
 |t K=>cases D
 |u=>cases D
theorem QT {y:XV}(h:Ai y) (D:y.rp=some (n,r)):r.ok/\n=r.flat.length:=by
 cases y with
 |c a=>injection D with D;injection D with E I;subst E I;exact⟨trivial,rfl⟩
 |a n' K=>injection D with D;injection D with E I;subst E I;exact h
 |t J=>cases D
 |u=>cases D
theorem aeS (hT:lm (TS m L T)) (W:jp H) (hL:jx N H) {x:XV}(J:cO m y=some xo)
 (h:YW U xo call L T N H=some (.mk x N' H' g)):gz P ops ⟨dst,.box U y,ty,pos,af,gd⟩ (TS m L T) N H x N' H' g:=by
 obtain⟨v,I,h⟩:=aC h
 obtain⟨n,r,u,h⟩:=Gv h
 obtain⟨rfl,rfl,rfl,rfl⟩:=xO h
 obtain⟨h1,h2⟩:=QT (tE hT J I) u
 refine wR W hL h1 h2 fun A Z w β a ht=>?_
 refine⟨.pointer (some ⟨w.heap.size,0,none⟩),(a.eval y).cells,?_,CO (aM (o:=⟨dst,.box U y,ty,pos,af,gd⟩) (by simp[Op.operands]) J I ht) u,fun R Z' w' E K D=>?_⟩
 ·simp[execOp,Instr.box,Sem.run,newVar,newRow,newObj]
  try rfl
 ·have:=RdA.p (A:=R) (Z:=Z') (w:=w') (β:=E) N 0 K
  rw[D] at this;exact this
def oz (H:Tr Bx) (k:Nat):HF:=fun j=>if j=k then HS H k else none
theorem Cs {c}(h:oz H k j=some c):HS H j=some c:=by
 unfold oz at h;split at h;·rename_i e;rw[e];exact h
 ·cases h
theorem uU:oz H k k=HS H k:=if_pos rfl
theorem DA (E:jp H) (hL:jx N H) {b:Bx}(hb:H.get k=some b) (I:Ai x)
 (h: ∀V A β a w,Mem V A (oz H k) β w->yN A (Zs V (oz H k) β) w β (d6 ops o) TT a-> ∃v,(execOp a.eval o).run P w=.ok (.value v) w/\RdX2 A (Zs V (oz H k) β) w β v x):
 gz P ops o TT N H x N H (.r k):=by
 have J:Foot N N H H (oz H k) (oz H k) (.r k):=⟨fun j W=>if_neg W,rfl,rfl,by rw[qh hb];rfl⟩
 have hp:gU (HS H) (oz H k) (oz H k)=HS H:=by
  funext j;unfold gU;cases h:oz H k j with
  |none=>rfl
  |some c=>exact(Cs h).symm
 refine⟨Nat.le_refl _,I,E,hL,oz H k,oz H k,?_,fun j c h=>Cs h,fun j c h=>(by rw[hp];exact h),J⟩
 intro V A β a w _ D R
 obtain⟨v,u,K⟩:=h V A β a w D R
 unfold Gives
 rw[u]
 exact⟨A,β,fun _ h=>h,fun _ h=>.inl h,D,Hst.refl,K⟩
theorem acV (_hT:lm (TS m L T)) (hO:jp H) (hL:jx N H) {x:XV}(hU:mv P U=some (true,n)) (hc:cO m y=some xo)
 (h:Zp n xo call L T N H=some (.mk x N' H' g)):gz P ops ⟨dst,.load U y,ty,pos,af,gd⟩ (TS m L T) N H x N' H' g:=by
 obtain⟨v,u,h⟩:=aC h
 obtain⟨k,off,rfl,h⟩:=p8 h
 obtain⟨b,R,h⟩:=aC h
 obtain⟨K,h⟩:=bv h
 rw[dN] at K
 injection h with h
 injection h with h1 h2 h3 h4
 subst h1 h2 h3 h4
 obtain⟨W,I⟩:=hO k b R
 obtain⟨g1,g2⟩:=jW b.r b.n off n W I K
 have a0:off+n<=b.r.flat.length:=by rw[<-I];exact K
 refine DA hO hL R ⟨g1,by rw[g2];simp;omega⟩ fun V A β a w hm ht=>?_
 obtain⟨e1,hk⟩:=RdA.p_eq (aM (o:=⟨dst,.load U y,ty,pos,af,gd⟩) (by simp[Op.operands]) hc u ht)
 obtain⟨vs,ev,hz,hl,hr⟩:=hm.box k b.U b.r.flat (by rw[uU];exact qh R)
 have E:=(hr.drop off).take n
 have D:((vs.toList.take b.r.flat.length).drop off).take n=((vs.toList.drop off).take n):=by rw[tz,uj,dK (by omega)]
 rw[D] at E
 have J:=jm (P:=P) (w:=w) hU (b:=(β k).b) (off:=off) (vs:=(vs.toList.drop off).take n) (by simp;omega) (fun j v u=>by
  rw[j6] at u;split at u;·rw[bE ev,<-u];simp
  ·cases u)
 refine⟨.agg ((vs.toList.drop off).take n).toArray,?_,((vs.toList.drop off).take n).toArray,rfl,by rw[g2];simpa using E⟩
 simp only[execOp,Instr.loadAt,e1,Instr.sureAddr,fq,dx,dd,J]
theorem aem (_hT:lm (TS m L T)) (W:jp H) (hL:jx N H) {x:XV}(hU:mv P U=some (false,n)) (hc:cO m y=some xo)
 (h:ZG xo call L T N H=some (.mk x N' H' g)):gz P ops ⟨dst,.load U y,ty,pos,af,gd⟩ (TS m L T) N H x N' H' g:=by
 obtain⟨v,hv,h⟩:=aC h
 obtain⟨k,off,rfl,h⟩:=p8 h
 obtain⟨b,I,h⟩:=aC h
 obtain⟨c,u,h⟩:=aC h
 injection h with h
 injection h with h1 h2 h3 h4
 subst h1 h2 h3 h4
 obtain⟨J,a0⟩:=W k b I
 rw[qE b.r off J] at u
 have K:=(fb.1 u).1
 refine DA W hL I trivial fun V A β a w hm ht=>?_
 obtain⟨e1,hk⟩:=RdA.p_eq (aM (o:=⟨dst,.load U y,ty,pos,af,gd⟩) (by simp[Op.operands]) hc hv ht)
 obtain⟨vs,ev,hz,hl,hr⟩:=hm.box k b.U b.r.flat (by rw[uU];exact qh I)
 have E:vs.toList[off]? =some (vs.toList[off]'(by simp;omega)):=dY _
 have R:=hr.2 off (vs.toList[off]'(by simp;omega)) c (by rw[j6,if_pos K];exact E) u
 have D:=je (P:=P) (w:=w) hU (b:=(β k).b) (off:=off) (by rw[bE ev,<-kj,E])
 refine⟨_,?_,R⟩
 simp only[execOp,Instr.loadAt,e1,Instr.sureAddr,fq,dx,dd,D]
theorem vf {E:HF}{cs:List AV}(J:Mem V A E β w) (hk:E k=some (U,cs0)) {vs:Array Value}(hz:vs.size=(β k).z)
 (hh:w'.heap=w.heap.setIfInBounds (β k).b (.cells vs U (0,0))) (ho:w'.os=w.os) (ht:w'.tape=w.tape) (hu:w'.output=w.output) (hl:cs.length<=vs.size)
 (hr:RdAs A (Zs V E β) w β (vs.toList.take cs.length) cs):Mem V A (fun j=>if j=k then some (U,cs) else E j) β w'/\Hst N N A E β w (fun j=>if j=k then some (U,cs) else E j) β w':=by
 have D: ∀j,(if j=k then some (U,cs) else E j)≠none↔E j≠none:=by
  intro j;by_cases e:j=k;·subst e;rw[if_pos rfl,hk];simp
  ·rw[if_neg e]
 have a0:w'.heap.size=w.heap.size:=by rw[hh];simp
 have a2:(β k).b<w.heap.size:=J.lt k (J.dom k (by rw[hk];simp))
 have K: ∀b,b≠(β k).b->w'.heap[b]? =w.heap[b]? :=fun b R=>by rw[hh,Array.getElem?_setIfInBounds_ne (Ne.symm R)]
 have hZ:Zs V (fun j=>if j=k then some (U,cs) else E j) β=Zs V E β:=by funext b;unfold Zs;simp only[D]
 have hH:Hst N N A E β w (fun j=>if j=k then some (U,cs) else E j) β w':=
  ⟨ho,ht,hu,by omega,fun b _ R=>K b (fun e=>R k (by rw[hk];simp) e.symm),fun _ _=>rfl,fun j u=>.inr ⟨j,(D j).1 u,rfl⟩,fun j u=>.inl ((D j).1 u)⟩
 have I:=hH.keep J
 refine⟨⟨fun b R=>by rw[a0];exact J.vlt b R,fun j u=>J.dom j ((D j).1 u),fun j u=>by rw[a0];exact J.lt j u,fun j l u hl=>J.inj j l ((D j).1 u) ((D l).1 hl),fun j u=>J.clr j ((D j).1 u),fun j U' W u=>?_⟩,hH⟩
 have u:(if j=k then some (U,cs) else E j)=some (U',W):=u
 by_cases e:j=k
 ·subst e
  rw[if_pos rfl] at u
  injection u with u
  injection u with h1 h2
  subst h1 h2
  exact⟨vs,by rw[hh];simp[a2],hz,hl,hr.mono I (fun _ h=>h) (fun _ _=>rfl)⟩
 ·rw[if_neg e] at u
  obtain⟨a1,e1,e2,e3,e4⟩:=J.box j U' W u
  refine⟨a1,(K _ (fun q=>e (J.inj j k (by rw[u];simp) (by rw[hk];simp) q))).trans e1,e2,e3,e4.mono I (fun _ h=>h) (fun _ _=>rfl)⟩
theorem af0 (hT:lm (TS m L T)) (hO:jp H) (hL:jx N H) {x:XV}(hU:mv P U=some (q,n)) (hc:cO m y=some xo) (W:cO m z=some yo)
 (h:adJ n xo yo call L T N H=some (.mk x N' H' g)):gz P ops ⟨dst,.store U y z,ty,pos,af,gd⟩ (TS m L T) N H x N' H' g:=by
 obtain⟨v,hv,h⟩:=aC h
 obtain⟨v2,a2,h⟩:=aC h
 obtain⟨k,off,q1,h⟩:=p8 h
 subst q1
 obtain⟨b,hb,h⟩:=aC h
 obtain⟨n',d,a1,h⟩:=Gv h
 obtain⟨hn,h⟩:=bv h
 obtain⟨E,h⟩:=bv h
 have hn:=fe hn
 subst hn
 rw[dN] at E
 injection h with h
 injection h with h1 h2 h3 h4
 subst h1 h2 h3 h4
 obtain⟨a4,D⟩:=hO k b hb
 obtain⟨a6,a3⟩:=QT (tE hT W a2) a1
 obtain⟨g1,g2⟩:=va a6 b.r b.n off n' a4 D a3 E
 have b0:off+n'<=b.r.flat.length:=by rw[<-D];exact E
 have u:b.n=(updR d b.r b.n off n').flat.length:=by rw[g2,D];simp;omega
 have hf:Foot N N H (H.set ⟨b.U,b.n,updR d b.r b.n off n'⟩ k) (oz H k) (fun j=>if j=k then some (b.U,(updR d b.r b.n off n').flat) else oz H k j) (.w k):=⟨fun j K=>⟨if_neg K,(if_neg K).trans (if_neg K)⟩,rfl⟩
 have R:=qh hb
 refine⟨Nat.le_refl _,trivial,n9 hO g1 u,oA hL (bd _) (hL k b hb),oz H k,fun j=>if j=k then some (b.U,(updR d b.r b.n off n').flat) else oz H k j,?_,fun j c h=>Cs h,fun j c K=>?_,hf⟩
 ·intro V A β a w _ hm ht
  obtain⟨e1,hk⟩:=RdA.p_eq (aM (o:=⟨dst,.store U y z,ty,pos,af,gd⟩) (by simp[Op.operands]) hc hv ht)
  have I:=CO (aM (o:=⟨dst,.store U y z,ty,pos,af,gd⟩) (by simp[Op.operands]) W a2 ht) a1
  obtain⟨vs,ev,hz,hl,hr⟩:=hm.box k b.U b.r.flat (uU.trans R)
  obtain⟨_,a9⟩:=mO hU w
  have J:(a.eval z).cells.size=n':=by rw[a3,<-I.1];simp
  have a5:=run_storeCells_at (P:=P) (β k).b off b.U (a.eval z).cells.toList 0 vs w ev (by simp;omega) I.one
  have a0:(execOp a.eval ⟨dst,.store U y z,ty,pos,af,gd⟩).run P w=.ok .skip (w.setRow (β k).b (vs.toList.take (off+0)++(a.eval z).cells.toList++vs.toList.drop (off+0+(a.eval z).cells.toList.length)).toArray):=by simp only[execOp,Instr.storeAt,e1,Instr.sureAddr,storeVar,fq,dx,dd,a9];rw[if_neg (by simp[J])];rw[a5];rfl
  unfold Gives
  rw[a0]
  have el:(a.eval z).cells.toList.length=n':=by simpa using J
  simp only[um,el]
  obtain⟨m1,m2⟩:=vf (N:=N) (cs:=(updR d b.r b.n off n').flat) hm (uU.trans R) (vs:=(vs.toList.take off++(a.eval z).cells.toList++vs.toList.drop (off+n')).toArray) (by simp;omega) (fK ev) rfl rfl rfl
   (by rw[<-u,D];simp;omega) (by
    rw[<-u,g2];have hw:=xi (xi (hr.take off) I) (hr.drop (off+n'));have e3:(vs.toList.take b.r.flat.length).take off=vs.toList.take off:=by rw[uj,dK (by omega)]
    rw[e3] at hw;have e4:((vs.toList.take off++(a.eval z).cells.toList++vs.toList.drop (off+n')).toArray).toList.take b.n=vs.toList.take off++(a.eval z).cells.toList++(vs.toList.take b.r.flat.length).drop (off+n'):=by show(vs.toList.take off++(a.eval z).cells.toList++vs.toList.drop (off+n')).take b.n=_;rw[List.take_append,f9 (l:=vs.toList.take off++(a.eval z).cells.toList) (by simp;omega),tz];congr 2;simp;omega
    rw[e4];exact hw)
  exact⟨A,β,fun _ h=>h,fun _ h=>.inl h,m1,m2,rfl⟩
 ·show gU (HS H) (oz H k) (fun j=>if j=k then some (b.U,(updR d b.r b.n off n').flat) else oz H k j) j=some c
  unfold gU
  rcases ph K with⟨e,hc⟩|⟨e,hc⟩
  ·show(match (if j=k then some (b.U,(updR d b.r b.n off n').flat) else oz H k j),oz H k j with|some c,_=>some c|none,some _=>none|none,none=>HS H j)=some c
   rw[if_pos e,hc]
  ·show(match (if j=k then some (b.U,(updR d b.r b.n off n').flat) else oz H k j),oz H k j with|some c,_=>some c|none,some _=>none|none,none=>HS H j)=some c
   rw[if_neg e,show oz H k j=none from if_neg e];exact hc
end
structure CallP (P:Program) (f:FuncId) (vs:List XV) (x:XV):Prop where
 cal:fv P f=true
 ok:Ai x
 run: ∀(Z A:Nat->Prop) (β:Nat->Pl) (args:Array Value) (w:World),(∀b,Z b->b<w.heap.size)->Di A Z w β args.toList vs->
  Calls P f args w fun e w'=> ∃v,e=.returned v/\(∀A' β',RdX2 A' Z w' β' v x)/\Below w.heap.size w w'
structure CallH (P:Program) (f:FuncId) (vs:List XV) (N:Nat) (H:Tr Bx) (x:XV) (N':Nat) (H':Tr Bx):Prop where
 le:N<=N'
 cal:fv P f=true
 ok:Ai x
 hok:jp H'
 hlt:jx N' H'
 run: ∀(V A:Nat->Prop) (β:Nat->Pl) (args:Array Value) (w:World),(∀k,A k-> ¬(N<=k/\k<N'))->Mem V A (HS H) β w->Di A (Zs V (HS H) β) w β args.toList vs->
  Calls P f args w fun e w'=> ∃v A' β',e=.returned v/\(∀k,A k->A' k)/\(∀k,A' k->Ad A N N' k)/\Mem V A' (HS H') β' w'/\Hst N N' A (HS H) β w (HS H') β' w'/\RdX2 A' (Zs V (HS H') β') w' β' v x
def jK (P:Program) (call:fF):Prop:= ∀f vs N H,(∀v∈vs,Ai v)->jp H->jx N H->(∀x,call f vs N H=.p x->CallP P f vs x)/\ ∀x N' H',call f vs N H=.h x N' H'->CallH P f vs N H x N' H'
section
variable {P:Program}{ops:Array Oper}{o:Oper}{TT:TX}{m N:Nat}{L:LX}{T:Tr XV}{H:Tr Bx}{x:XV}
variable {N':Nat}{H':Tr Bx}{g:Lg}{call:fF}
variable {dst:Option Nat}{ty:TypeId}{pos:String}{af:Array Edge}{gd:Option (Nat×Bool)}
theorem ads:Zs V e0 β=V:=by
 funext b;refine propext ⟨?_,.inl⟩;rintro(h|⟨k,u,_⟩);·exact h
 ·exact absurd rfl u
theorem Om (E:Mem V A e0 β w) (D:Below w.heap.size w w'):Mem V A e0 β w'/\Hst N N A e0 β w e0 β w':=by refine⟨⟨fun b h=>kE (E.vlt b h) D.size,fun k u=>absurd rfl u,fun k u=>kE (E.lt k u) D.size,fun k l u=>absurd rfl u,fun k u=>absurd rfl u,fun k U cs u=>by cases u⟩,D.os,D.tape,D.output,D.size,fun b h _=>D.block b h,fun _ _=>rfl,fun k u=>absurd rfl u,fun k u=>absurd rfl u⟩
theorem EA (hO:jp H) (hL:jx N H) (D:jK P call) {f:FuncId}(a1: ∀v∈vs,Ai v) (h:crR H N (call f vs N H)=some (.mk x N' H' g))
 (u:fv P f=true-> ∀A Z w β a,yN A Z w β (d6 ops o) TT a-> ∃args:Array Value,(execOp a.eval o).run P w=.ok (.enter f args) w/\Di A Z w β args.toList vs):gz P ops o TT N H x N' H' g:=by
 obtain⟨hp,hh⟩:=D f vs N H a1 hO hL
 cases hc:call f vs N H with
 |no=>rw[hc] at h;cases h
 |p y=>
  rw[hc] at h
  have h:some (Rs.mk y N H .p)=some (.mk x N' H' g):=h
  injection h with h
  injection h with J R W I
  subst J R W I
  have hP:=hp y hc
  have hf:Foot N N H H e0 e0 .p:=⟨rfl,rfl,rfl⟩
  refine⟨Nat.le_refl _,hP.ok,hO,hL,e0,e0,fun V A β a w _ hm ht=>?_,fun k c h=>(by cases h),fun k c h=>(by rw[Fv];exact h),hf⟩
  obtain⟨args,e1,hr⟩:=u hP.cal _ _ w β a ht
  unfold Gives
  rw[e1]
  refine(hP.run (Zs V e0 β) A β args w (by rw[ads];exact hm.vlt) hr).mono ?_
  rintro e w' ⟨v,rfl,hx,hb⟩
  obtain⟨m1,m2⟩:=Om (N:=N) hm hb
  exact⟨v,rfl,A,β,fun _ h=>h,fun _ h=>.inl h,m1,m2,hx A β⟩
 |h y M K=>
  rw[hc] at h
  have h:some (Rs.mk y M K (.c H K))=some (.mk x N' H' g):=h
  injection h with h
  injection h with J R W I
  subst J R W I
  have E:=hh y M K hc
  have hf:Foot N M H K (HS H) (HS K) (.c H K):=⟨rfl,rfl,rfl,rfl⟩
  refine⟨E.le,E.ok,E.hok,E.hlt,HS H,HS K,fun V A β a w hA hm ht=>?_,fun k c h=>h,fun k c h=>?_,hf⟩
  ·obtain⟨args,e1,hr⟩:=u E.cal _ _ w β a ht
   unfold Gives
   rw[e1]
   refine(E.run V A β args w hA hm hr).mono ?_
   rintro e w' ⟨v,A',a0,rfl,J,R,W,I,h5⟩
   exact⟨v,rfl,A',a0,J,R,W,I,h5⟩
  ·unfold gU;rw[h]
theorem D9 {f:FuncId}(u:fv P f=true) {c:Call}(K:c.callee=.value fo) (J:a.eval fo=.func (.func f) #[] cs) (R:args=c.args.map a.eval++cs):
 (execOp a.eval ⟨dst,.call c,ty,pos,af,gd⟩).run P w=.ok (.enter f args) w:=by
 subst R
 unfold fv at u
 cases D:P.funcs[f]? with
 |none=>rw[D] at u;cases u
 |some fn=>
  rw[D] at u
  simp only[de,bne_iff_ne,ne_eq,wa] at u
  have I:fn.body≠none:=by have:=u.2;cases E:fn.body with
   |none=>rw[E] at this;cases this
   |some c=>simp
  simp[execOp,resolve,K,J,Deferred.ofValue,invoke,callFunc,program,Sem.run,D,u.1,I]
theorem aaP (hT:lm (TS m L T)) (K:jp H) (hL:jx N H) (u:jK P call) {f:FuncId}{x:XV}(J:kS (cO m) ys.toList=some xs)
 (h:JM f xs call L T N H=some (.mk x N' H' g)):gz P ops ⟨dst,.call ⟨.value (.func f),ys,ats⟩,ty,pos,af,gd⟩ (TS m L T) N H x N' H' g:=by
 obtain⟨vs,E,h⟩:=aC h
 refine EA K hL u (Ng hT J E) h fun D A Z w β a W=>?_
 have R:=oZ (o:=⟨dst,.call ⟨.value (.func f),ys,ats⟩,ty,pos,af,gd⟩) (fun y hy=>by have I:=yx.1 hy;simp[Op.operands,Call.operands,I]) J E W
 exact⟨ys.map a.eval,D9 D rfl (cs:= #[]) rfl (by simp),by simpa using R⟩
theorem Sm: ∀ {y:AV}{u:List XV}{k:FuncId->List XV->Option Rs}{r:Rs},fnX y u k=some r-> ∃f cs,y.fn=some (f,cs)/\k f (u.reverse++cs.map .c)=some r:=by
 intro y;induction y with
 |f0 g=>intro u k r h;exact⟨g,[],rfl,by simpa using(show k g u.reverse=some r from h)⟩
 |fc a y _ D=>
  intro u k r h;obtain⟨f,cs,E,I⟩:=D (show fnX y (.c a::u) k=some r from h);exact⟨f,a::cs,by simp[AV.fn,E],by simpa using I⟩
 |_=>intro u k r h;cases h
theorem RdA.fn_eq {y:AV}{f:FuncId}{xs:List AV}(h:RdA A Z w β v y) (u:y.fn=some (f,xs)): ∃cs:Array Value,v=.func (.func f) #[] cs/\RdAs A Z w β cs.toList xs:=by
 cases h with
 |f g cs ys _ J K W=>
  rw[J] at u;injection u with u;injection u with I R;subst I R;exact⟨cs,rfl,by simpa using K,fun j v x D E=>W j v x (by rw[<-kj];exact D) E⟩
 |_=>cases u
theorem abL (hT:lm (TS m L T)) (hO:jp H) (hL:jx N H) (I:jK P call) {t:Nat}{fo:XO}{x:XV}(a0:cO m (.tmp t)=some fo) (hc:kS (cO m) ys.toList=some xs)
 (h:Pd fo xs call L T N H=some (.mk x N' H' g)):gz P ops ⟨dst,.call ⟨.value (.tmp t),ys,ats⟩,ty,pos,af,gd⟩ (TS m L T) N H x N' H' g:=by
 obtain⟨v,u,h⟩:=aC h
 obtain⟨y,q,h⟩:=il h
 subst q
 obtain⟨vs,R,h⟩:=aC h
 obtain⟨f,cs,hf,h⟩:=Sm h
 rw[List.reverse_reverse] at h
 refine EA hO hL I (fun v u=>?_) h fun K A Z w β a ht=>?_
 ·rcases iN.1 u with u|u
  ·exact Ng hT hc R v u
  ·obtain⟨c,_,rfl⟩:=nC.1 u
   trivial
 ·have hr:=oZ (o:=⟨dst,.call ⟨.value (.tmp t),ys,ats⟩,ty,pos,af,gd⟩) (fun y hy=>by have W:=yx.1 hy;simp[Op.operands,Call.operands,W]) hc R ht
  obtain⟨us,e1,hu⟩:=RdA.fn_eq (aM (o:=⟨dst,.call ⟨.value (.tmp t),ys,ats⟩,ty,pos,af,gd⟩) (by simp[Op.operands,Call.operands]) a0 u ht) hf
  refine⟨ys.map a.eval++us,D9 K rfl e1 rfl,?_,fun j v x u D=>?_⟩
  ·have J:=hr.1
   have h2:=hu.1
   simp at J h2
   simp[J,h2]
  ·have J:=hr.1
   simp only[Array.toList_append,yH] at u
   by_cases hj:j<vs.length
   ·rw[uJ (by rw[J];exact hj)] at u
    rw[uJ hj] at D
    exact hr.2 j v x u D
   ·rw[tL (by rw[J];omega)] at u
    rw[tL (by omega),lu] at D
    rw[J] at u
    cases E:cs[j-vs.length]? with
    |none=>rw[E] at D;cases D
    |some c=>
     rw[E] at D
     injection D with D
     subst D
     exact hu.2 _ v c u E
theorem Gh {pl:Nat->Option (Nat×Nat)}(hT:lm (TS m L T)) {D:Nat}: ∀ {ps:List (Nat×Operand)}{qs:List (Nat×Nat×XO)}{r I:Rp},cPs m pl ps=some qs->Lo L T D qs r=some I->r.ok->D=r.flat.length->I.ok/\D=I.flat.length/\
 ∀A Z w β a (cells:Array Value),(∀p∈ps,p.2∈o.op.operands)->yN A Z w β (d6 ops o) (TS m L T) a->RdAs A Z w β cells.toList r.flat-> ∃u,Instr.fill pl cells (ps.map fun(i,y)=>(i,a.eval y))=some u/\RdAs A Z w β u.toList I.flat
 |[],qs,r,I,h,E,hr,ht=>by injection h with h;subst h;have E:some r=some I:=E;injection E with E;subst E;exact⟨hr,ht,fun A Z w β a cells _ _ W=>⟨cells,rfl,W⟩⟩
 |(i,y)::ps,qs,r,I,h,E,hr,ht=>by
  unfold cPs at h;split at h;case h_2=>cases h
  rename_i off sz y' ys h1 h2 h3;injection h with h;subst h;obtain⟨v,hv,E⟩:=aC (show oO (y'.get L T) (fun v=>xD v fun n d=>bT (Nat.beq n sz) (bT (Nat.ble (Nat.add off n) D) (Lo L T D ys (updR d r D off n))))=some I from E);obtain⟨n,d,a0,a9⟩:=Gv E;obtain⟨hn,b2⟩:=bv a9;obtain⟨J,a6⟩:=bv b2;have hn:=fe hn;subst hn;rw[dN] at J;obtain⟨b0,a3⟩:=QT (tE hT h2 hv) a0;have a1:off+n<=D:=J;obtain⟨g1,g2⟩:=va b0 r D off n hr ht a3 a1;obtain⟨k1,k2,k3⟩:=Gh hT h3 a6 g1 (by rw[g2];simp;omega);refine⟨k1,k2,fun A Z w β a cells hy K W=>?_⟩;have R:=CO (aM (o:=o) (hy (i,y) (by simp)) h2 hv K) a0;have a2:(a.eval y).cells.size=n:=by rw[a3,<-R.1];simp
  have b3:cells.size=D:=by rw[ht,<-W.1];simp
  have a4:=wc off (a.eval y).cells.toList 0 cells (by simp;omega);have b1:RdAs A Z w β (((a.eval y).cells.zipIdx.foldl (fun(cs:Array Value) (p:Value×Nat)=>cs.setIfInBounds (off+p.2) p.1) cells)).toList (updR d r D off n).flat:=by
   rw[<-Array.foldl_toList];have:(a.eval y).cells.zipIdx.toList=(a.eval y).cells.toList.zipIdx:=by simp
   rw[this,a4,g2];refine xi (xi (by simpa using W.take off) R) ?_;have:=W.drop (off+n);simpa [a2] using this
  obtain⟨u,e,a5⟩:=k3 A Z w β a _ (fun p hp=>hy p (by simp[hp])) K b1;refine⟨u,?_,a5⟩;show Instr.fill pl cells ((i,a.eval y)::ps.map fun(i,y)=>(i,a.eval y))=_;unfold Instr.fill;rw[h1];dsimp only;rw[if_neg (by simp[a2];omega)];exact e
theorem VA (hT:lm (TS m L T)) (hO:jp H) (hL:jx N H) {ps:Array (Nat×Operand)}{W:List (Nat×Nat)}{R:List (Nat×Nat×XO)}{x:XV}(u:FJ P U=some W) (E:zcA P U=some zs) (J:cPs m (fun i=>W[i]?) ps.toList=some R)
 (h:Ml zs.length (th zs) R call L T N H=some (.mk x N' H' g)):gz P ops ⟨dst,.build U ps,ty,pos,af,gd⟩ (TS m L T) N H x N' H' g:=by
 obtain⟨r,hr,h⟩:=aC h
 obtain⟨rfl,rfl,rfl,rfl⟩:=cg h
 obtain⟨z1,z2⟩:=nv zs
 obtain⟨k1,k2,k3⟩:=Gh (ops:=ops) (o:=⟨dst,.build U ps,ty,pos,af,gd⟩) hT J hr z1 (by rw[z2])
 refine bq hO hL ⟨k1,k2⟩ fun A Z w β a ht=>?_
 obtain⟨it,z,hi,E,I⟩:=yW E
 obtain⟨cells,D,K⟩:=k3 A Z w β a z.cells (fun p J=>by simp only[Op.operands,List.mem_toArray,nC];exact⟨p,J,rfl⟩) ht (by rw[z2];exact I _ _ _ _)
 refine⟨.agg cells,?_,cells,rfl,K⟩
 unfold FJ at u
 split at u
 ·rename_i fs hu
  have:=run_build (P:=P) w U (ps.map fun(i,x)=>(i,a.eval x)) cells (by unfold Program.built;simp only[hi,hu,E,u];simpa using D)
  simp[execOp,this]
 ·cases u
end
end
end Go.Proofs.YtegeknjkgadehaaGreat
