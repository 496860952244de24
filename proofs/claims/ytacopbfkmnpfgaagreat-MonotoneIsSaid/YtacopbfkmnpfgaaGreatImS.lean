/-A run on known values:what its small parts come to. -/
import Derived.Test.YtacopbfkmnpfgaaGreatImR
namespace Go.Proofs.YtacopbfkmnpfgaaGreat
open Go Go.RowKit
section
variable {α β:Type}
theorem aK {x:Option α}{f:α→Option β}{y:β}(h:oO x f=some y): ∃v,x=some v∧f v=some y:=by
 cases x with
 |none=>cases h
 |some v=>exact⟨v,rfl,h⟩
theorem bp {b:Bool}{x:Option β}{y:β}(h:bT b x=some y):b=true∧x=some y:=by
 cases b with
 |false=>cases h
 |true=>exact⟨rfl,h⟩
theorem fh (b:Bool) (x y:β):bI b x y=if b=true then x else y:=by cases b<;>rfl
theorem FC (a b:Bool):bA a b=(a&&b):=by cases a<;>rfl
theorem fi {x:XV}{f:AV→Option β}{y:β}(h:xC x f=some y): ∃a,x=.c a∧f a=some y:=by
 cases x with
 |c a=>exact⟨a,rfl,h⟩
 |_=>cases h
theorem K0 {x:XV}{f:List XD→Option β}{y:β}(h:xT x f=some y): ∃ds,x=.t ds∧f ds=some y:=by
 cases x with
 |t ds=>exact⟨ds,rfl,h⟩
 |_=>cases h
theorem rV {x:AV}{f:Bool→Option β}{y:β}(h:aB x f=some y): ∃b,x=.b b∧f b=some y:=by
 cases x with
 |b v=>exact⟨v,rfl,h⟩
 |_=>cases h
theorem KK {x:AV}{f:IntKind→Int→Option β}{y:β}(h:aI x f=some y): ∃k n,x=.i k n∧f k n=some y:=by
 cases x with
 |i k n=>exact⟨k,n,rfl,h⟩
 |_=>cases h
theorem J8 {x:AV}{f:Nat→Nat→Option β}{y:β}(h:aP x f=some y): ∃k off,x=.p k off∧f k off=some y:=by
 cases x with
 |p k off=>exact⟨k,off,rfl,h⟩
 |_=>cases h
theorem gN {x:AV}{f:Nat→Nat→Nat→Nat→Bool→Nat→Option β}{z ev:Option β}{y:β}(h:aS x f z ev=some y):
 (∃k off n lo ex m,x=.s k off n lo ex m∧f k off n lo ex m=some y)∨(x=.z∧z=some y)∨(x=.ev∧ev=some y):=by
 cases x with
 |s k off n lo ex m=>exact .inl ⟨k,off,n,lo,ex,m,rfl,h⟩
 |z=>exact .inr (.inl ⟨rfl,h⟩)
 |ev=>exact .inr (.inr ⟨rfl,h⟩)
 |_=>cases h
theorem Li {i:Int}{f:Nat→Option β}{y:β}(h:T3 i f=some y): ∃n:Nat,i=(n:Int)∧f n=some y:=by
 cases i with
 |ofNat n=>exact⟨n,rfl,h⟩
 |negSucc n=>cases h
theorem ml {x:XV}{f:Bool→Option β}{y:β}(h:xB x f=some y): ∃b,x=.c (.b b)∧f b=some y:=by
 obtain⟨a,rfl,h⟩:=fi h
 obtain⟨b,rfl,h⟩:=rV h
 exact⟨b,rfl,h⟩
theorem iC {x:XV}{f:IntKind→Int→Option β}{y:β}(h:xI x f=some y): ∃k n,x=.c (.i k n)∧f k n=some y:=by
 obtain⟨a,rfl,h⟩:=fi h
 obtain⟨k,n,rfl,h⟩:=KK h
 exact⟨k,n,rfl,h⟩
theorem kg {x:XV}{f:Nat→Nat→Option β}{y:β}(h:xP x f=some y): ∃k off,x=.c (.p k off)∧f k off=some y:=by
 obtain⟨a,rfl,h⟩:=fi h
 obtain⟨k,n,rfl,h⟩:=J8 h
 exact⟨k,n,rfl,h⟩
theorem lK {x:XV}{f:Nat→Option β}{y:β}(h:xN x f=some y): ∃(k:IntKind) (n:Nat),x=.c (.i k (n:Int))∧f n=some y:=by
 obtain⟨k,i,rfl,h⟩:=iC h
 obtain⟨n,rfl,h⟩:=Li h
 exact⟨k,n,rfl,h⟩
def XV.rp (x:XV):Option (Nat×Rp):=match x with
 |XV.c y=>some (1,Rp.c y)
 |XV.a n r=>some (n,r)
 |XV.t _=>none
 |XV.u=>none
theorem vN {x:XV}{f:Nat→Rp→Option β}{y:β}(h:xD x f=some y): ∃n r,x.rp=some (n,r)∧f n r=some y:=by
 cases x with
 |c a=>exact⟨1,.c a,rfl,h⟩
 |a n r=>exact⟨n,r,rfl,h⟩
 |_=>cases h
theorem Tr.get_n (l:Tr α) (v:Option α) (r:Tr α) (k:Nat):(Tr.n l v r).get k=if k=0 then v else if k%2=1 then l.get (k/2) else r.get (k/2):=by
 show @Bool.rec (fun _=>Option α) (@Bool.rec (fun _=>Option α) (r.get (k/2)) (l.get (k/2)) (Nat.beq (k%2) 1)) v (Nat.beq k 0)=_
 by_cases h:k=0
 ·subst h;rfl
 ·have h1:Nat.beq k 0=false:=by
   cases hb:Nat.beq k 0 with
   |false=>rfl
   |true=>exact absurd (Nat.eq_of_beq_eq_true hb) h
  rw[h1,if_neg h]
  by_cases h2:k%2=1
  ·rw[if_pos h2,h2];rfl
  ·have h3:Nat.beq (k%2) 1=false:=by
    cases hb:Nat.beq (k%2) 1 with
    |false=>rfl
    |true=>exact absurd (Nat.eq_of_beq_eq_true hb) h2
   rw[h3,if_neg h2]
theorem yY {γ:Type}(b:Bool) (x y:γ): @Bool.rec (fun _=>γ) x y b=if b=true then y else x:=by cases b<;>rfl
theorem lQ {γ:Type}(k l:Nat) (x y:γ): @Bool.rec (fun _=>γ) x y (Nat.beq k l)=if k=l then y else x:=by
 rw[yY]
 by_cases h:k=l
 ·subst h;rw[if_pos (Nat.beq_refl k),if_pos rfl]
 ·rw[if_neg h,if_neg (fun e=>h (Nat.eq_of_beq_eq_true e))]
theorem Tr.one_get {v x:α}: ∀(f k k':Nat),(Tr.one v f k).get k'=some x→k'=k∧x=v:=by
 intro f
 induction f with
 |zero=>intro k k' h;cases h
 |succ f ih=>
  intro k k' h
  have h:(@Bool.rec (fun _=>Tr α) (@Bool.rec (fun _=>Tr α) (.n .e none (Tr.one v f (k/2))) (.n (Tr.one v f (k/2)) none .e) (Nat.beq (k%2) 1)) (.n .e (some v) .e) (Nat.beq k 0)).get k'=some x:=h
  rw[lQ,lQ] at h
  split at h
  ·rename_i hk
   rw[Tr.get_n] at h
   split at h
   ·rename_i hk';injection h with h;exact⟨by omega,h.symm⟩
   ·split at h<;>cases h
  ·rename_i hk
   split at h
   ·rename_i h2
    rw[Tr.get_n] at h
    split at h
    ·cases h
    ·split at h
     ·rename_i h3;have:=ih _ _ h;exact⟨by omega,this.2⟩
     ·cases h
   ·rename_i h2
    rw[Tr.get_n] at h
    split at h
    ·cases h
    ·split at h
     ·cases h
     ·rename_i h3;have:=ih _ _ h;exact⟨by omega,this.2⟩
theorem Tr.set_get {v x:α}: ∀(t:Tr α) (k k':Nat),(t.set v k).get k'=some x→(k'=k∧x=v)∨(k'≠k∧t.get k'=some x):=by
 intro t
 induction t with
 |e=>intro k k' h;exact .inl (Tr.one_get 40 k k' h)
 |n l o r ihl ihr=>
  intro k k' h
  have h:(@Bool.rec (fun _=>Tr α) (@Bool.rec (fun _=>Tr α) (.n l o (r.set v (k/2))) (.n (l.set v (k/2)) o r) (Nat.beq (k%2) 1)) (.n l (some v) r) (Nat.beq k 0)).get k'=some x:=h
  rw[lQ,lQ] at h
  rw[Tr.get_n]
  split at h
  ·rename_i hk
   rw[Tr.get_n] at h
   split at h
   ·rename_i hk';injection h with h;exact .inl ⟨by omega,h.symm⟩
   ·rename_i hk';refine .inr ⟨by omega,?_⟩;rw[if_neg hk'];exact h
  ·rename_i hk
   split at h
   ·rename_i h2
    rw[Tr.get_n] at h
    split at h
    ·rename_i hk';refine .inr ⟨by omega,?_⟩;rw[if_pos hk'];exact h
    ·rename_i hk'
     split at h
     ·rename_i h3
      rcases ihl _ _ h with⟨e1,e2⟩|⟨e1,e2⟩
      ·exact .inl ⟨by omega,e2⟩
      ·refine .inr ⟨by intro e;subst e;exact e1 rfl,?_⟩;rw[if_neg hk',if_pos h3];exact e2
     ·rename_i h3;refine .inr ⟨by intro e;subst e;exact h3 h2,?_⟩;rw[if_neg hk',if_neg h3];exact h
   ·rename_i h2
    rw[Tr.get_n] at h
    split at h
    ·rename_i hk';refine .inr ⟨by omega,?_⟩;rw[if_pos hk'];exact h
    ·rename_i hk'
     split at h
     ·rename_i h3;refine .inr ⟨by intro e;subst e;exact h2 h3,?_⟩;rw[if_neg hk',if_pos h3];exact h
     ·rename_i h3
      rcases ihr _ _ h with⟨e1,e2⟩|⟨e1,e2⟩
      ·exact .inl ⟨by omega,e2⟩
      ·refine .inr ⟨by intro e;subst e;exact e1 rfl,?_⟩;rw[if_neg hk',if_neg h3];exact e2
theorem Tr.del_get {x:α}: ∀(t:Tr α) (k k':Nat),(t.del k).get k'=some x→k'≠k∧t.get k'=some x:=by
 intro t
 induction t with
 |e=>intro k k' h;cases h
 |n l o r ihl ihr=>
  intro k k' h
  have h:(@Bool.rec (fun _=>Tr α) (@Bool.rec (fun _=>Tr α) (.n l o (r.del (k/2))) (.n (l.del (k/2)) o r) (Nat.beq (k%2) 1)) (.n l none r) (Nat.beq k 0)).get k'=some x:=h
  rw[lQ,lQ] at h
  rw[Tr.get_n]
  split at h
  ·rename_i hk
   rw[Tr.get_n] at h
   split at h
   ·cases h
   ·rename_i hk';refine⟨by omega,?_⟩;rw[if_neg hk'];exact h
  ·rename_i hk
   split at h
   ·rename_i h2
    rw[Tr.get_n] at h
    split at h
    ·rename_i hk';refine⟨by omega,?_⟩;rw[if_pos hk'];exact h
    ·rename_i hk'
     split at h
     ·rename_i h3
      obtain⟨e1,e2⟩:=ihl _ _ h
      refine⟨by intro e;subst e;exact e1 rfl,?_⟩;rw[if_neg hk',if_pos h3];exact e2
     ·rename_i h3;refine⟨by intro e;subst e;exact h3 h2,?_⟩;rw[if_neg hk',if_neg h3];exact h
   ·rename_i h2
    rw[Tr.get_n] at h
    split at h
    ·rename_i hk';refine⟨by omega,?_⟩;rw[if_pos hk'];exact h
    ·rename_i hk'
     split at h
     ·rename_i h3;refine⟨by intro e;subst e;exact h2 h3,?_⟩;rw[if_neg hk',if_pos h3];exact h
     ·rename_i h3
      obtain⟨e1,e2⟩:=ihr _ _ h
      refine⟨by intro e;subst e;exact e1 rfl,?_⟩;rw[if_neg hk',if_neg h3];exact e2
theorem sA {x:α}: ∀(l:List (Nat×α)) (k:Nat),(Ib l).get k=some x→(k,x)∈l
 |[],k,h=>by cases h
 |(j,v)::r,k,h=>by
  rcases Tr.set_get (Ib r) j k h with⟨e1,e2⟩|⟨_,h⟩
  ·subst e1 e2;exact List.mem_cons_self ..
  ·exact List.mem_cons_of_mem _ (sA r k h)
end
def Rp.ok:Rp→Prop
 | .e=>True
 | .c _=>True
 | .n ls pu l r=>ls=l.flat.length∧l.ok∧r.ok∧(pu=true→ ∀x∈l.flat++r.flat,PH x=true)
theorem s5: ∀ {r:Rp},r.ok→SB r=true→ ∀x∈r.flat,PH x=true
 | .e,_,_,x,hx=>by cases hx
 | .c y,_,h,x,hx=>by
   have:x=y:=by simpa [Rp.flat] using hx
   subst this;exact h
 | .n ls pu l r,ho,h,x,hx=>ho.2.2.2 h x hx
theorem qV {ls:Nat}{l r:Rp}(h:ls=l.flat.length) (hl:l.ok) (hr:r.ok):(EX ls l r).ok:=by
 refine⟨h,hl,hr,fun hp x hx=>?_⟩
 rw[FC,Bool.and_eq_true] at hp
 rcases List.mem_append.1 hx with hx|hx
 ·exact s5 hl hp.1 x hx
 ·exact s5 hr hp.2 x hx
theorem f9 {ls:Nat}{l r:Rp}(h:ls=l.flat.length) (hl:l.ok) (hr:r.ok):(fm ls l r).ok∧(fm ls l r).flat=l.flat++r.flat:=by
 cases l with
 |e=>exact⟨hr,rfl⟩
 |c x=>
  cases r with
  |e=>exact⟨hl,by simp[Rp.flat];rfl⟩
  |c y=>exact⟨qV h hl hr,rfl⟩
  |n _ _ _ _=>exact⟨qV h hl hr,rfl⟩
 |n a b c d=>
  cases r with
  |e=>exact⟨hl,by show(Rp.n a b c d).flat=(Rp.n a b c d).flat++[];simp⟩
  |c y=>exact⟨qV h hl hr,rfl⟩
  |n _ _ _ _=>exact⟨qV h hl hr,rfl⟩
theorem dt {a b:Nat}:Nat.ble a b=true↔a≤b:=by rw[Nat.ble_eq]
theorem gg: ∀(r:Rp) (tot off n:Nat),r.ok→tot=r.flat.length→off+n≤tot→(fr r tot off n).ok∧(fr r tot off n).flat=(r.flat.drop off).take n:=by
 intro r
 induction r with
 |e=>intro tot off n _ ht h;exact⟨trivial,by simp[fr,Rp.flat]⟩
 |c x=>
  intro tot off n _ ht h
  simp[Rp.flat] at ht
  show(bI (Nat.beq n 0) Rp.e (.c x)).ok∧(bI (Nat.beq n 0) Rp.e (.c x)).flat=([x].drop off).take n
  by_cases hn:n=0
  ·subst hn;exact⟨trivial,by simp[bI,Rp.flat]⟩
  ·have h1:n=1:=by omega
   have h2:off=0:=by omega
   subst h1 h2
   exact⟨trivial,rfl⟩
 |n ls pu l r ihl ihr=>
  intro tot off n ho ht h
  obtain⟨h1,h2,h3,h4⟩:=ho
  have htl:tot=l.flat.length+r.flat.length:=by rw[ht];simp[Rp.flat]
  show(bI (Nat.beq n tot) (Rp.n ls pu l r) (bI (Nat.ble (off+n) ls) (fr l ls off n) (bI (Nat.ble ls off) (fr r (tot-ls) (off-ls) n) (fm (ls-off) (fr l ls off (ls-off)) (fr r (tot-ls) 0 (off+n-ls)))))).ok∧
   (bI (Nat.beq n tot) (Rp.n ls pu l r) (bI (Nat.ble (off+n) ls) (fr l ls off n) (bI (Nat.ble ls off) (fr r (tot-ls) (off-ls) n) (fm (ls-off) (fr l ls off (ls-off)) (fr r (tot-ls) 0 (off+n-ls)))))).flat=_
  rw[fh,fh,fh]
  show _∧_=((l.flat++r.flat).drop off).take n
  split
  ·rename_i hb
   have:=Nat.eq_of_beq_eq_true hb
   have h0:off=0:=by omega
   subst h0
   refine⟨⟨h1,h2,h3,h4⟩,?_⟩
   show l.flat++r.flat=_
   rw[List.drop_zero,List.take_of_length_le (by simp;omega)]
  ·split
   ·rename_i hb
    rw[dt] at hb
    obtain⟨g1,g2⟩:=ihl ls off n h2 h1 hb
    refine⟨g1,?_⟩
    rw[g2,List.drop_append_of_le_length (by omega),List.take_append_of_le_length (by simp;omega)]
   ·rename_i hb
    rw[dt] at hb
    split
    ·rename_i hc
     rw[dt] at hc
     obtain⟨g1,g2⟩:=ihr (tot-ls) (off-ls) n h3 (by omega) (by omega)
     refine⟨g1,?_⟩
     rw[g2,List.drop_append,List.drop_of_length_le (i:=off) (l:=l.flat) (by omega),List.nil_append,h1]
    ·rename_i hc
     rw[dt] at hc
     obtain⟨g1,g2⟩:=ihl ls off (ls-off) h2 h1 (by omega)
     obtain⟨k1,k2⟩:=ihr (tot-ls) 0 (off+n-ls) h3 (by omega) (by omega)
     have hlen:ls-off=(fr l ls off (ls-off)).flat.length:=by rw[g2];simp;omega
     obtain⟨j1,j2⟩:=f9 hlen g1 k1
     refine⟨j1,?_⟩
     rw[j2,g2,k2,List.drop_append_of_le_length (by omega),List.take_append,List.take_of_length_le (by simp;omega),List.take_of_length_le (l:=l.flat.drop off) (by simp;omega)]
     rw[List.drop_zero]
     congr 1
     congr 1
     simp;omega
theorem nZ {d:Rp}(hd:d.ok): ∀(r:Rp) (tot off n:Nat),r.ok→tot=r.flat.length→n=d.flat.length→off+n≤tot→(iw d r tot off n).ok∧(iw d r tot off n).flat=r.flat.take off++d.flat++r.flat.drop (off+n):=by
 intro r
 induction r with
 |e=>
  intro tot off n _ ht hn h
  simp[Rp.flat] at ht
  have:d.flat=[]:=List.length_eq_zero_iff.1 (by omega)
  exact⟨trivial,by simp[iw,Rp.flat,this]⟩
 |c x=>
  intro tot off n _ ht hn h
  simp[Rp.flat] at ht
  show(bI (Nat.beq n 0) (.c x) d).ok∧(bI (Nat.beq n 0) (.c x) d).flat=[x].take off++d.flat++[x].drop (off+n)
  by_cases h0:n=0
  ·subst h0
   have:d.flat=[]:=List.length_eq_zero_iff.1 (by omega)
   refine⟨trivial,?_⟩
   rw[this];show[x]=_;simp
  ·have h1:n=1:=by omega
   have h2:off=0:=by omega
   rw[h1,h2]
   exact⟨hd,by show d.flat=_;simp⟩
 |n ls pu l r ihl ihr=>
  intro tot off n ho ht hn h
  obtain⟨h1,h2,h3,h4⟩:=ho
  have htl:tot=l.flat.length+r.flat.length:=by rw[ht];simp[Rp.flat]
  show(bI (Nat.beq n tot) d (bI (Nat.ble (off+n) ls) (EX ls (iw d l ls off n) r) (bI (Nat.ble ls off) (EX ls l (iw d r (tot-ls) (off-ls) n)) (fm off (fr l ls 0 off) (fm n d (fr r (tot-ls) (off+n-ls) (tot-(off+n)))))))).ok∧
   (bI (Nat.beq n tot) d (bI (Nat.ble (off+n) ls) (EX ls (iw d l ls off n) r) (bI (Nat.ble ls off) (EX ls l (iw d r (tot-ls) (off-ls) n)) (fm off (fr l ls 0 off) (fm n d (fr r (tot-ls) (off+n-ls) (tot-(off+n)))))))).flat=_
  rw[fh,fh,fh]
  show _∧_=(l.flat++r.flat).take off++d.flat++(l.flat++r.flat).drop (off+n)
  split
  ·rename_i hb
   have:=Nat.eq_of_beq_eq_true hb
   have h0:off=0:=by omega
   subst h0
   refine⟨hd,?_⟩
   rw[List.take_zero,List.drop_of_length_le (by simp;omega)];simp
  ·split
   ·rename_i hb
    rw[dt] at hb
    obtain⟨g1,g2⟩:=ihl ls off n h2 h1 hn hb
    have hlen:ls=(iw d l ls off n).flat.length:=by rw[g2];simp;omega
    refine⟨qV hlen g1 h3,?_⟩
    show(iw d l ls off n).flat++r.flat=_
    rw[g2,List.take_append_of_le_length (by omega),List.drop_append_of_le_length (by omega)];simp
   ·rename_i hb
    rw[dt] at hb
    split
    ·rename_i hc
     rw[dt] at hc
     obtain⟨g1,g2⟩:=ihr (tot-ls) (off-ls) n h3 (by omega) hn (by omega)
     refine⟨qV h1 h2 g1,?_⟩
     show l.flat++(iw d r (tot-ls) (off-ls) n).flat=_
     rw[g2,List.take_append,List.take_of_length_le (i:=off) (l:=l.flat) (by omega),List.drop_append,List.drop_of_length_le (i:=off+n) (l:=l.flat) (by omega)]
     simp only[List.nil_append,List.append_assoc,h1]
     congr 3
     rw[show off+n-l.flat.length=off-l.flat.length+n by omega]
    ·rename_i hc
     rw[dt] at hc
     obtain⟨g1,g2⟩:=gg l ls 0 off h2 h1 (by omega)
     obtain⟨k1,k2⟩:=gg r (tot-ls) (off+n-ls) (tot-(off+n)) h3 (by omega) (by omega)
     obtain⟨j1,j2⟩:=f9 hn hd k1
     have hlen:off=(fr l ls 0 off).flat.length:=by rw[g2];simp;omega
     obtain⟨i1,i2⟩:=f9 hlen g1 j1
     refine⟨i1,?_⟩
     rw[i2,j2,g2,k2,List.drop_zero,List.take_append_of_le_length (by omega),List.drop_append,List.drop_of_length_le (i:=off+n) (l:=l.flat) (by omega),List.nil_append,List.take_of_length_le (l:=r.flat.drop (off+n-ls)) (by simp;omega),h1]
     simp
theorem lk: ∀(r:Rp) (off:Nat),r.ok→kL r off=r.flat[off]? :=by
 intro r
 induction r with
 |e=>intro off _;simp[kL,Rp.flat]
 |c x=>
  intro off _
  show @Bool.rec (fun _=>Option AV) none (some x) (Nat.beq off 0)=[x][off]?
  rw[lQ]
  split
  ·rename_i h;subst h;rfl
  ·rename_i h
   cases off with
   |zero=>exact absurd rfl h
   |succ n=>simp
 |n ls pu l r ihl ihr=>
  intro off ho
  obtain⟨h1,h2,h3,_⟩:=ho
  show @Bool.rec (fun _=>Option AV) (kL r (off-ls)) (kL l off) (Nat.blt off ls)=(l.flat++r.flat)[off]?
  rw[yY]
  split
  ·rename_i hb
   rw[b9] at hb
   rw[ihl off h2,List.getElem?_append_left (by omega)]
  ·rename_i hb
   rw[b9] at hb
   rw[ihr _ h3,List.getElem?_append_right (by omega),h1]
theorem i9: ∀(l:List AV),(nh l).ok∧(nh l).flat=l
 |[]=>⟨trivial,rfl⟩
 |x::l=>by
  obtain⟨h1,h2⟩:=i9 l
  have:=f9 (ls:=1) (l:=.c x) (r:=nh l) rfl trivial h1
  refine⟨this.1,?_⟩
  show(fm 1 (.c x) (nh l)).flat=_
  rw[this.2,h2];rfl
def qQ (zs:List AV):Nat→List AV
 |0=>[]
 |n+1=>zs++qQ zs n
theorem nt (zs:List AV): ∀n,(qQ zs n).length=n*zs.length
 |0=>by simp[qQ]
 |n+1=>by rw[qQ,List.length_append,nt zs n,Nat.succ_mul,Nat.add_comm]
theorem lm {m:Nat}{z:Rp}(hm:m=z.flat.length) (hz:z.ok): ∀n,(j8 m z n).ok∧(j8 m z n).flat=qQ z.flat n
 |0=>⟨trivial,rfl⟩
 |n+1=>by
  obtain⟨h1,h2⟩:=lm hm hz n
  have:=f9 hm hz h1
  refine⟨this.1,?_⟩
  show(fm m z (j8 m z n)).flat=_
  rw[this.2,h2];rfl
noncomputable def TS (m:Nat) (L:LX) (T:Tr XV):TX:=fun t=>bif m.testBit t then sL t L else T.get t
noncomputable def HS (H:Tr Bx):HF:=fun k=>(H.get k).map fun b=>(b.U,b.r.flat)
def fS (H:Tr Bx):Prop:= ∀k b,H.get k=some b→b.r.ok∧b.n=b.r.flat.length
def fZ (N:Nat) (H:Tr Bx):Prop:= ∀k b,H.get k=some b→k<N
def sD:XD→Prop
 | .c _=>True
 | .a n r=>r.ok∧n=r.flat.length
def sM:XV→Prop
 | .c _=>True
 | .a n r=>r.ok∧n=r.flat.length
 | .t ds=> ∀d∈ds,sD d
 | .u=>True
def gW (T:TX):Prop:= ∀t x,T t=some x→sM x
def e0:HF:=fun _=>none
section
variable {P:Program}{ops:Array Oper}{o:Oper}{TT:TX}{m N:Nat}{L:LX}{T:Tr XV}{H:Tr Bx}{x:XV}
def So (P:Program) (ops:Array Oper) (o:Oper) (T:TX) (e:Evt):Prop:= ∀V A β a w,(∀k,A k→ ¬(e.N≤k∧k<e.N'))→Mem V A e.Hv β w→qv A (Zs V e.Hv β) w β (dE ops o) T a→
 Gives P o a w fun v w'=> ∃A' β',(∀k,A k→A' k)∧(∀k,A' k→Ad A e.N e.N' k)∧Mem V A' e.Hv' β' w'∧Hst e.N e.N' A e.Hv β w e.Hv' β' w'∧RdX2 A' (Zs V e.Hv' β') w' β' v e.x
def Foot (N N':Nat) (H H':Tr Bx) (Hv Hv':HF):Lg→Prop
 | .p=>Hv=e0∧Hv'=e0∧N'=N
 | .r k=>(∀j,j≠k→Hv j=none)∧Hv'=Hv∧N'=N∧(HS H k).isSome=true
 | .w k=>(∀j,j≠k→Hv j=none∧Hv' j=none)∧N'=N
 | .nw k=>k=N∧N'=N+1∧Hv=e0∧ ∀j,j≠k→Hv' j=none
 | .c K K'=>Hv=HS K∧Hv'=HS K'∧K=H∧K'=H'
def eP (P:Program) (ops:Array Oper) (o:Oper) (TT:TX) (N:Nat) (H:Tr Bx) (x:XV) (N':Nat) (H':Tr Bx) (g:Lg):Prop:=
 N≤N'∧sM x∧fS H'∧fZ N' H'∧ ∃Hv Hv',So P ops o TT ⟨x,Hv,Hv',N,N'⟩∧(∀k c,Hv k=some c→HS H k=some c)∧(∀k c,HS H' k=some c→e8 (HS H) Hv Hv' k=some c)∧Foot N N' H H' Hv Hv' g
theorem wm {H:HF}:e8 H e0 e0=H:=by funext k;rfl
theorem bk (hO:fS H) (hL:fZ N H) (hx:sM x) (h: ∀A Z w β a,qv A Z w β (dE ops o) TT a→ ∃v,(execOp a.eval o).run P w=.ok (.value v) w∧RdX2 A Z w β v x):eP P ops o TT N H x N H .p:=by
 have hf:Foot N N H H e0 e0 .p:=⟨rfl,rfl,rfl⟩
 have h1: ∀k c,e0 k=some c→HS H k=some c:=fun k c h=>by cases h
 have h2: ∀k c,HS H k=some c→e8 (HS H) e0 e0 k=some c:=fun k c h=>by rw[wm];exact h
 refine⟨Nat.le_refl _,hx,hO,hL,e0,e0,fun V A β a w _ hm ht=>?_,h1,h2,hf⟩
 obtain⟨v,e,hr⟩:=h _ _ w β a ht
 unfold Gives
 rw[e]
 exact⟨A,β,fun _ h=>h,fun _ h=>.inl h,hm,Hst.refl,hr⟩
theorem AN {t:Nat}{xo:XO}{v:XV}(hc:cO m (.tmp t)=some xo) (hg:xo.get L T=some v):TS m L T t=some v:=by
 have hc:(bif m.testBit t then some (XO.l t) else some (XO.t t))=some xo:=hc
 show(bif m.testBit t then sL t L else T.get t)=some v
 cases hb:m.testBit t with
 |true=>rw[hb] at hc;injection hc with hc;subst hc;exact hg
 |false=>rw[hb] at hc;injection hc with hc;subst hc;exact hg
section
variable {A Z:Nat→Prop}{w:World}{β:Nat→Pl}{a:Act}
theorem mM {v:Value}{y:AV}(h:iJ v=some y):RdA A Z w β v y:=by
 cases v with
 |bool b=>simp[iJ] at h;subst h;exact .b b
 |int k n=>simp[iJ] at h;subst h;exact .i k n
 |slice A' n c=>
  cases A' with
  |some A'=>simp[iJ] at h
  |none=>
   cases n with
   |zero=>
    cases c with
    |zero=>simp[iJ] at h;subst h;exact .z
    |succ c=>simp[iJ] at h
   |succ n=>simp[iJ] at h
 |pointer p=>
  cases p with
  |none=>simp[iJ] at h;subst h;exact .np
  |some p=>simp[iJ] at h
 |_=>simp[iJ] at h
theorem pe {γ δ:Type}{f:γ→Option δ}: ∀(l:List γ) (r:List δ),gP f l=some r→l.length=r.length
 |[],r,h=>by injection h with h;subst h;rfl
 |x::l,r,h=>by
  unfold gP at h
  split at h
  ·cases h
  ·split at h
   ·cases h
   ·rename_i ys h2
    injection h with h
    subst h
    simp[pe l ys h2]
theorem rI {γ δ:Type}{f:γ→Option δ}: ∀(l:List γ) (r:List δ),gP f l=some r→ ∀(j:Nat) (x:γ) (y:δ),l[j]? =some x→r[j]? =some y→f x=some y
 |[],r,h,j,x,y,hx,_=>by simp at hx
 |z::l,r,h,j,x,y,hx,hy=>by
  unfold gP at h
  split at h
  ·cases h
  ·rename_i y0 h1
   split at h
   ·cases h
   ·rename_i ys h2
    injection h with h
    subst h
    cases j with
    |zero=>simp at hx hy;subst hx hy;exact h1
    |succ j=>simp at hx hy;exact rI l ys h2 j x y hx hy
theorem pN {vs:List Value}{xs:List AV}(h:gP iJ vs=some xs):RdAs A Z w β vs xs:=
 ⟨pe _ _ h,fun j v x hv hx=>mM (rI _ _ h j v x hv hx)⟩
theorem sP {v:Value}{d:XV}(h:E8 v=some d):RdX2 A Z w β v d∧sM d:=by
 unfold E8 at h
 split at h
 ·rename_i cs
  cases h1:gP iJ cs.toList with
  |none=>rw[h1] at h;cases h
  |some us=>
   rw[h1] at h
   injection h with h
   subst h
   obtain⟨h2,h3⟩:=i9 us
   exact⟨⟨cs,rfl,by rw[h3];exact pN h1⟩,h2,by rw[h3]⟩
 ·cases h1:iJ v with
  |none=>rw[h1] at h;cases h
  |some u=>rw[h1] at h;injection h with h;subst h;exact⟨mM h1,trivial⟩
theorem aT {y:Operand}{xo:XO}{v:XV}(hy:y∈o.op.operands) (hc:cO m y=some xo) (hg:xo.get L T=some v) (ht:qv A Z w β (dE ops o) (TS m L T) a):RdX2 A Z w β (a.eval y) v:=by
 cases y with
 |tmp t=>
  have hl:dE ops o t:=List.mem_append_left _ (List.mem_filterMap.2 ⟨.tmp t,by simpa using hy,rfl⟩)
  obtain⟨v',e,hr⟩:=ht t v hl (AN hc hg)
  have:a.eval (.tmp t)=v':=by
   show a.tmps.getD t undef=v'
   obtain⟨hlt,e⟩:=Array.getElem?_eq_some_iff.1 e
   simp[Array.getD,hlt,e]
  rw[this];exact hr
 |const c=>
  cases h1:E8 c with
  |none=>simp[cO,h1] at hc
  |some d=>
   simp[cO,h1] at hc
   subst hc
   injection hg with hg
   subst hg
   exact(sP h1).1
 |func g=>
  simp[cO] at hc
  subst hc
  injection hg with hg
  subst hg
  exact .f g #[] [] (.f0 g) rfl rfl (fun j v x hv=>by simp at hv)
 |global g=>simp[cO] at hc
theorem nc {y:Operand}{xo:XO}{v:XV}(hT:gW (TS m L T)) (hc:cO m y=some xo) (hg:xo.get L T=some v):sM v:=by
 cases y with
 |tmp t=>exact hT t v (AN hc hg)
 |const c=>
  cases h1:E8 c with
  |none=>simp[cO,h1] at hc
  |some d=>
   simp[cO,h1] at hc
   subst hc
   injection hg with hg
   subst hg
   exact(sP (A:=fun _=>False) (Z:=fun _=>False) (w:=default) (β:=fun _=>⟨0,0⟩) h1).2
 |func g=>
  simp[cO] at hc
  subst hc
  injection hg with hg
  subst hg
  trivial
 |global g=>simp[cO] at hc
theorem RdA.b_eq {v:Value}{b:Bool}(h:RdA A Z w β v (.b b)):v=.bool b:=by
 cases h with
 |b _=>rfl
 |f _ _ _ _ h0=>cases h0
theorem RdA.i_eq {v:Value}{k:IntKind}{n:Int}(h:RdA A Z w β v (.i k n)):v=.int k n:=by
 cases h with
 |i _ _=>rfl
 |f _ _ _ _ h0=>cases h0
theorem RdA.z_eq {v:Value}(h:RdA A Z w β v .z):v=.slice none 0 0:=by
 cases h with
 |z=>rfl
 |f _ _ _ _ h0=>cases h0
theorem RdA.p_eq {v:Value}{k off:Nat}(h:RdA A Z w β v (.p k off)):v=.pointer (some ⟨(β k).b,off,none⟩)∧A k:=by
 cases h with
 |p _ _ h=>exact⟨rfl,h⟩
 |f _ _ _ _ h0=>cases h0
theorem RdA.s_eq {v:Value}{k off n lo m':Nat}{ex:Bool}(h:RdA A Z w β v (.s k off n lo ex m')): ∃c,v=.slice (some ⟨(β k).b,off,none⟩) n c∧A k∧n≤lo∧lo≤c∧c≤maxLen∧(ex=true→c=lo)∧off+c*m'≤(β k).z:=by
 cases h with
 |s _ _ _ _ _ _ c h h1 h2 h3 h4 h5=>exact⟨c,rfl,h,h1,h2,h3,h4,h5⟩
 |f _ _ _ _ h0=>cases h0
theorem RdA.ev_eq {v:Value}(h:RdA A Z w β v .ev): ∃a c,v=.slice a 0 c∧c≤maxLen∧ ∀ad,a=some ad→ad.spot=none:=by
 cases h with
 |ev a c h h2=>exact⟨a,c,rfl,h,h2⟩
 |f _ _ _ _ h0=>cases h0
end
variable {N':Nat}{H':Tr Bx}{g:Lg}{call:fb}
variable {dst:Option Nat}{ty:TypeId}{pos:String}{af:Array Edge}{gd:Option (Nat×Bool)}
theorem bW {x y:XV}{N N':Nat}{H H':Tr Bx}{g:Lg}(h:pR x N H=some (.mk y N' H' g)):y=x∧N'=N∧H'=H∧g=.p:=by
 unfold pR at h
 injection h with h
 injection h with h1 h2 h3 h4
 exact⟨h1.symm,h2.symm,h3.symm,h4.symm⟩
theorem ew {f:XO→jB}{y:Operand}{k:jB}(h:o1 m f y=some k): ∃xo,cO m y=some xo∧k=f xo:=by
 unfold o1 at h
 cases h1:cO m y with
 |none=>rw[h1] at h;cases h
 |some xo=>rw[h1] at h;injection h with h;exact⟨xo,rfl,h.symm⟩
theorem iu {f:XO→XO→jB}{y z:Operand}{k:jB}(h:o2 m f y z=some k): ∃xo yo,cO m y=some xo∧cO m z=some yo∧k=f xo yo:=by
 unfold o2 at h
 split at h
 ·rename_i a b h1 h2
  injection h with h
  exact⟨a,b,h1,h2,h.symm⟩
 ·cases h
theorem Oa (hT:gW (TS m L T)) (hO:fS H) (hL:fZ N H) {y:Operand}{xo:XO}{x:XV}(hc:cO m y=some xo) (h:Ky xo call L T N H=some (.mk x N' H' g)):eP P ops ⟨dst,.move y,ty,pos,af,gd⟩ (TS m L T) N H x N' H' g:=by
 obtain⟨v,hv,h⟩:=aK h
 obtain⟨rfl,rfl,rfl,rfl⟩:=bW h
 exact bk hO hL (nc hT hc hv) fun A Z w β a ht=>⟨a.eval y,rfl,aT (o:=⟨dst,.move y,ty,pos,af,gd⟩) (by simp[Op.operands]) hc hv ht⟩
theorem IQ (hT:gW (TS m L T)) (hO:fS H) (hL:fZ N H) {y:Operand}{xo:XO}{x:XV}(hc:cO m y=some xo) (h:Ky xo call L T N H=some (.mk x N' H' g)):eP P ops ⟨dst,.assign y,ty,pos,af,gd⟩ (TS m L T) N H x N' H' g:=by
 obtain⟨v,hv,h⟩:=aK h
 obtain⟨rfl,rfl,rfl,rfl⟩:=bW h
 exact bk hO hL (nc hT hc hv) fun A Z w β a ht=>⟨a.eval y,rfl,aT (o:=⟨dst,.assign y,ty,pos,af,gd⟩) (by simp[Op.operands]) hc hv ht⟩
theorem O3 (hT:gW (TS m L T)) (hO:fS H) (hL:fZ N H) {c y z:Operand}{co xo yo:XO}{x:XV}(h1:cO m c=some co) (h2:cO m y=some xo) (h3:cO m z=some yo) (h:IA co xo yo call L T N H=some (.mk x N' H' g)):eP P ops ⟨dst,.pick c y z,ty,pos,af,gd⟩ (TS m L T) N H x N' H' g:=by
 obtain⟨v,hv,h⟩:=aK h
 obtain⟨t,rfl,h⟩:=ml h
 obtain⟨v2,hu,h⟩:=aK h
 obtain⟨rfl,rfl,rfl,rfl⟩:=bW h
 rw[fh] at hu
 refine bk hO hL ?_ fun A Z w β a ht=>?_
 ·split at hu
  ·exact nc hT h2 hu
  ·exact nc hT h3 hu
 ·have e1:a.eval c=.bool t:=RdA.b_eq (aT (o:=⟨dst,.pick c y z,ty,pos,af,gd⟩) (by simp[Op.operands]) h1 hv ht)
  refine⟨if t then a.eval y else a.eval z,?_,?_⟩
  ·simp[execOp,e1,asBool]
  ·split at hu
   ·rename_i q;rw[if_pos q];exact aT (o:=⟨dst,.pick c y z,ty,pos,af,gd⟩) (by simp[Op.operands]) h2 hu ht
   ·rename_i q;rw[if_neg q];exact aT (o:=⟨dst,.pick c y z,ty,pos,af,gd⟩) (by simp[Op.operands]) h3 hu ht
theorem Pr (_hT:gW (TS m L T)) (hO:fS H) (hL:fZ N H) {y:Operand}{xo:XO}{x:XV}(hc:cO m y=some xo) (h:Im xo call L T N H=some (.mk x N' H' g)):eP P ops ⟨dst,.nilCheck y,ty,pos,af,gd⟩ (TS m L T) N H x N' H' g:=by
 obtain⟨v,hv,h⟩:=aK h
 obtain⟨k,off,rfl,h⟩:=kg h
 obtain⟨rfl,rfl,rfl,rfl⟩:=bW h
 refine bk hO hL trivial fun A Z w β a ht=>?_
 have hr:RdA A Z w β (a.eval y) (.p k off):=aT (o:=⟨dst,.nilCheck y,ty,pos,af,gd⟩) (by simp[Op.operands]) hc hv ht
 refine⟨a.eval y,?_,hr⟩
 simp[execOp,hr.p_eq.1]
theorem Ry (_hT:gW (TS m L T)) (hO:fS H) (hL:fZ N H) {t:TypeId}{y:Operand}{xo:XO}{x:XV}(hc:cO m y=some xo) (h:Na xo call L T N H=some (.mk x N' H' g)):eP P ops ⟨dst,.unOp .not t y,ty,pos,af,gd⟩ (TS m L T) N H x N' H' g:=by
 obtain⟨v,hv,h⟩:=aK h
 obtain⟨b,rfl,h⟩:=ml h
 obtain⟨rfl,rfl,rfl,rfl⟩:=bW h
 refine bk hO hL trivial fun A Z w β a ht=>?_
 have e1:a.eval y=.bool b:=RdA.b_eq (aT (o:=⟨dst,.unOp .not t y,ty,pos,af,gd⟩) (by simp[Op.operands]) hc hv ht)
 exact⟨.bool (!b),by simp[execOp,e1,Op.unary],by cases b<;>exact .b _⟩
theorem lj (k:IntKind) (n:Int):rh k n=k.wrap n:=by
 unfold rh
 rw[fh,fh]
 split
 ·rename_i h
  split
  ·rename_i h2
   have h:=Nat.eq_of_beq_eq_true h
   have hk:k=.i64:=by cases k<;>simp[kN] at h<;>rfl
   subst hk
   have h2:n.natAbs<9223372036854775808:=by simpa [Nat.blt,Nat.ble_eq,Nat.lt_iff_add_one_le] using h2
   show n=if (true&&decide (n%18446744073709551616≥9223372036854775808))=true then n%18446744073709551616-18446744073709551616 else n%18446744073709551616
   split<;>rename_i h3<;>simp at h3<;>omega
  ·rfl
 ·rfl
theorem RC (_hT:gW (TS m L T)) (hO:fS H) (hL:fZ N H) {t:TypeId}{y:Operand}{xo:XO}{x:XV}(hc:cO m y=some xo) (h:Ms xo call L T N H=some (.mk x N' H' g)):eP P ops ⟨dst,.unOp .neg t y,ty,pos,af,gd⟩ (TS m L T) N H x N' H' g:=by
 obtain⟨v,hv,h⟩:=aK h
 obtain⟨k,n,rfl,h⟩:=iC h
 obtain⟨rfl,rfl,rfl,rfl⟩:=bW h
 refine bk hO hL trivial fun A Z w β a ht=>?_
 have e1:a.eval y=.int k n:=RdA.i_eq (aT (o:=⟨dst,.unOp .neg t y,ty,pos,af,gd⟩) (by simp[Op.operands]) hc hv ht)
 exact⟨.int k (k.wrap (0-n)),by simp[execOp,e1,Op.unary,Op.intArith],by rw[lj];exact .i _ _⟩
theorem Og (_hT:gW (TS m L T)) (hO:fS H) (hL:fZ N H) {s d:TypeId}{k k0:IntKind}{y:Operand}{xo:XO}{x:XV}(hs:K8 P s=some k0) (hd:K8 P d=some k) (hc:cO m y=some xo) (h:GD k xo call L T N H=some (.mk x N' H' g)):eP P ops ⟨dst,.convert s d y,ty,pos,af,gd⟩ (TS m L T) N H x N' H' g:=by
 obtain⟨v,hv,h⟩:=aK h
 obtain⟨k1,n,rfl,h⟩:=iC h
 obtain⟨rfl,rfl,rfl,rfl⟩:=bW h
 refine bk hO hL trivial fun A Z w β a ht=>?_
 have e1:a.eval y=.int k1 n:=RdA.i_eq (aT (o:=⟨dst,.convert s d y,ty,pos,af,gd⟩) (by simp[Op.operands]) hc hv ht)
 have hs2:P.underlying s=some (.int k0):=by
  unfold K8 at hs
  split at hs
  ·rename_i q;injection hs with hs;subst hs;exact q
  ·cases hs
 have hd2:P.underlying d=some (.int k):=by
  unfold K8 at hd
  split at hd
  ·rename_i q;injection hd with hd;subst hd;exact q
  ·cases hd
 exact⟨.int k (k.wrap n),by simp[execOp,e1,convert,run_underlying hs2,run_underlying hd2,Conv.intToInt],by rw[lj];exact .i _ _⟩
end
section
variable {P:Program}{ops:Array Oper}{o:Oper}{TT:TX}{m N:Nat}{L:LX}{T:Tr XV}{H:Tr Bx}{x:XV}
variable {N':Nat}{H':Tr Bx}{g:Lg}{call:fb}
variable {dst:Option Nat}{ty:TypeId}{pos:String}{af:Array Edge}{gd:Option (Nat×Bool)}
theorem IH {k k':IntKind}(h:Nat.beq (kN k) (kN k')=true):k=k':=by
 have h:=Nat.eq_of_beq_eq_true h
 cases k<;>cases k'<;>simp[kN] at h<;>rfl
theorem iR (x y:Int):oX x y=decide (x<y):=by
 unfold oX
 show @Int.rec (fun _=>Bool) (fun _=>false) (fun _=>true) (x-y)=_
 cases h:x-y with
 |ofNat n=>
  have:(Int.ofNat n)=(n:Int):=rfl
  show false=_
  symm;simp;omega
 |negSucc n=>
  have:Int.negSucc n<0:=Int.negSucc_lt_zero n
  show true=_
  symm;simp;omega
theorem sR (x y:Int):Jm x y=(x==y):=by
 unfold Jm
 show @Int.rec (fun _=>Bool) (fun n=>Nat.beq n 0) (fun _=>false) (x-y)=_
 cases h:x-y with
 |ofNat n=>
  have h:x-y=(n:Int):=h
  show Nat.beq n 0=_
  cases n with
  |zero=>
   have:x=y:=by omega
   subst this;simp
  |succ n=>
   have:x≠y:=by omega
   show false=_
   symm;simpa using this
 |negSucc n=>
  have:Int.negSucc n<0:=Int.negSucc_lt_zero n
  have:x≠y:=by omega
  show false=_
  symm;simpa using this
theorem L1 {op:BinOp}{f:IntKind→Int→Int→Option AV}(hf:KY op=some f) {k:IntKind}{a b:Int}{r:AV}(hr:f k a b=some r) (xt:TypeId) (x y:Operand) (w:World) (A Z:Nat→Prop) (β:Nat→Pl):
 ∃v,(do eqGuard op xt x y (.int k a) (.int k b);binOp op xt (.int k a) (.int k b):Go.Sem Value).run P w=.ok v w∧RdA A Z w β v r:=by
 have hb: ∀ {b c:Bool},b=c→RdA A Z w β (.bool b) (.b c):=fun e=>by subst e;exact .b _
 cases op<;>simp[KY] at hf<;>subst hf
 ·injection hr with hr;subst hr;rw[lj];exact⟨.int k (k.wrap (a+b)),by simp[eqGuard,binOp,Op.intArith],.i _ _⟩
 ·injection hr with hr;subst hr;rw[lj];exact⟨.int k (k.wrap (a-b)),by simp[eqGuard,binOp,Op.intArith],.i _ _⟩
 ·injection hr with hr;subst hr;rw[lj];exact⟨.int k (k.wrap (a*b)),by simp[eqGuard,binOp,Op.intArith],.i _ _⟩
 ·unfold QO at hr
  rw[fh,sR] at hr
  split at hr
  ·cases hr
  ·rename_i h0
   injection hr with hr;subst hr;rw[lj]
   have h0:b≠0:=by simpa using h0
   exact⟨.int k (k.wrap (a.tdiv b)),by simp[eqGuard,binOp,Op.intDiv,h0],.i _ _⟩
 ·unfold QQ at hr
  rw[fh,sR] at hr
  split at hr
  ·cases hr
  ·rename_i h0
   injection hr with hr;subst hr
   have h0:b≠0:=by simpa using h0
   exact⟨.int k (a.tmod b),by simp[eqGuard,binOp,Op.intDiv,h0],.i _ _⟩
 ·injection hr with hr;subst hr;exact⟨_,by simp[eqGuard,binOp,Op.intBits],.i _ _⟩
 ·injection hr with hr;subst hr;exact⟨_,by simp[eqGuard,binOp,Op.intBits],.i _ _⟩
 ·injection hr with hr;subst hr;exact⟨_,by simp[eqGuard,binOp,Op.intBits],.i _ _⟩
 ·injection hr with hr;subst hr;exact⟨.bool (a==b),by simp[eqGuard,binOp,Op.intCmp],hb (sR a b).symm⟩
 ·injection hr with hr;subst hr;exact⟨.bool (a !=b),by simp[eqGuard,binOp,Op.intCmp],hb (by rw[fh,sR];cases h:(a==b)<;>simp[bne,h])⟩
 ·injection hr with hr;subst hr;exact⟨.bool (a<b),by simp[eqGuard,binOp,Op.intCmp],hb (iR a b).symm⟩
 ·injection hr with hr;subst hr;exact⟨.bool (a≤b),by simp[eqGuard,binOp,Op.intCmp],hb (by rw[fh,iR];by_cases h:b<a<;>simp[h]<;>omega)⟩
 ·injection hr with hr;subst hr;exact⟨.bool (a>b),by simp[eqGuard,binOp,Op.intCmp],hb (iR b a).symm⟩
 ·injection hr with hr;subst hr;exact⟨.bool (a≥b),by simp[eqGuard,binOp,Op.intCmp],hb (by rw[fh,iR];by_cases h:a<b<;>simp[h]<;>omega)⟩
theorem QK (_hT:gW (TS m L T)) (hO:fS H) (hL:fZ N H) {op:BinOp}{f:IntKind→Int→Int→Option AV}{xt yt:TypeId}{y z:Operand}{xo yo:XO}{x:XV}(hf:KY op=some f) (h1:cO m y=some xo) (h2:cO m z=some yo)
 (h:Nv f xo yo call L T N H=some (.mk x N' H' g)):eP P ops ⟨dst,.binOp op xt y z yt,ty,pos,af,gd⟩ (TS m L T) N H x N' H' g:=by
 obtain⟨v,hv,h⟩:=aK h
 obtain⟨v2,hv2,h⟩:=aK h
 obtain⟨k,a,q1,h⟩:=iC h
 obtain⟨k',b,q2,h⟩:=iC h
 subst q1 q2
 obtain⟨hk,h⟩:=bp h
 obtain⟨r,hr,h⟩:=aK h
 obtain⟨rfl,rfl,rfl,rfl⟩:=bW h
 have hk:=IH hk
 subst hk
 refine bk hO hL trivial fun A Z w β ac ht=>?_
 have e1:ac.eval y=.int k a:=RdA.i_eq (aT (o:=⟨dst,.binOp op xt y z yt,ty,pos,af,gd⟩) (by simp[Op.operands]) h1 hv ht)
 have e2:ac.eval z=.int k b:=RdA.i_eq (aT (o:=⟨dst,.binOp op xt y z yt,ty,pos,af,gd⟩) (by simp[Op.operands]) h2 hv2 ht)
 obtain⟨v,hrun,hrd⟩:=L1 (P:=P) hf hr xt y z w A Z β
 refine⟨v,?_,hrd⟩
 show(do let r ←(do eqGuard op xt y z (ac.eval y) (ac.eval z);binOp op xt (ac.eval y) (ac.eval z):Go.Sem Value);pure (Next.value r):Go.Sem Next).run P w=_
 rw[e1,e2,Sem.run_bind,hrun]
 rfl
theorem P6 (_hT:gW (TS m L T)) (hO:fS H) (hL:fZ N H) {op:BinOp}{f:IntKind→Int→Int→Option AV}{xt yt:TypeId}{y z:Operand}{xo yo:XO}{x:XV}(hf:O7 op=some f) (h1:cO m y=some xo) (h2:cO m z=some yo)
 (h:Mz f xo yo call L T N H=some (.mk x N' H' g)):eP P ops ⟨dst,.binOp op xt y z yt,ty,pos,af,gd⟩ (TS m L T) N H x N' H' g:=by
 obtain⟨v,hv,h⟩:=aK h
 obtain⟨v2,hv2,h⟩:=aK h
 obtain⟨k,a,q1,h⟩:=iC h
 obtain⟨k',b,q2,h⟩:=iC h
 subst q1 q2
 obtain⟨r,hr,h⟩:=aK h
 obtain⟨rfl,rfl,rfl,rfl⟩:=bW h
 refine bk hO hL trivial fun A Z w β ac ht=>?_
 have e1:ac.eval y=.int k a:=RdA.i_eq (aT (o:=⟨dst,.binOp op xt y z yt,ty,pos,af,gd⟩) (by simp[Op.operands]) h1 hv ht)
 have e2:ac.eval z=.int k' b:=RdA.i_eq (aT (o:=⟨dst,.binOp op xt y z yt,ty,pos,af,gd⟩) (by simp[Op.operands]) h2 hv2 ht)
 cases op<;>simp[O7] at hf<;>subst hf
 ·unfold P1 at hr
  rw[fh,iR] at hr
  split at hr
  ·cases hr
  ·rename_i h0
   injection hr with hr;subst hr
   have h0: ¬b<0:=by simpa using h0
   exact⟨.int k (k.wrap (a*2^(min b.toNat k.bits))),by simp[execOp,e1,e2,eqGuard,binOp,Op.shift,h0],.i _ _⟩
 ·unfold RP at hr
  rw[fh,iR] at hr
  split at hr
  ·cases hr
  ·rename_i h0
   injection hr with hr;subst hr
   have h0: ¬b<0:=by simpa using h0
   exact⟨.int k (a.fdiv (2^(min b.toNat k.bits))),by simp[execOp,e1,e2,eqGuard,binOp,Op.shift,h0],.i _ _⟩
theorem Qw (_hT:gW (TS m L T)) (hO:fS H) (hL:fZ N H) {xt yt:TypeId}{y z:Operand}{xo yo:XO}{x:XV}(hu:P.underlying xt=some .bool) (h1:cO m y=some xo) (h2:cO m z=some yo)
 (h:BM false xo yo call L T N H=some (.mk x N' H' g)):eP P ops ⟨dst,.binOp .eql xt y z yt,ty,pos,af,gd⟩ (TS m L T) N H x N' H' g:=by
 obtain⟨v,hv,h⟩:=aK h
 obtain⟨v2,hv2,h⟩:=aK h
 obtain⟨a,q1,h⟩:=ml h
 obtain⟨b,q2,h⟩:=ml h
 subst q1 q2
 obtain⟨rfl,rfl,rfl,rfl⟩:=bW h
 refine bk hO hL trivial fun A Z w β ac ht=>?_
 have e1:ac.eval y=.bool a:=RdA.b_eq (aT (o:=⟨dst,.binOp .eql xt y z yt,ty,pos,af,gd⟩) (by simp[Op.operands]) h1 hv ht)
 have e2:ac.eval z=.bool b:=RdA.b_eq (aT (o:=⟨dst,.binOp .eql xt y z yt,ty,pos,af,gd⟩) (by simp[Op.operands]) h2 hv2 ht)
 refine⟨.bool (a==b),?_,.b _⟩
 have h1:(eqGuard .eql xt y z (.bool a) (.bool b)).run P w=.ok () w:=rfl
 have h2:binOp .eql xt (.bool a) (.bool b)=(do pure (.bool (←Op.equal xt (.bool a) (.bool b)))):=rfl
 simp only[execOp,e1,e2,Sem.run_bind,h1,Result.andThen_ok,h2,iv hu,Sem.run_pure]
theorem Rm (_hT:gW (TS m L T)) (hO:fS H) (hL:fZ N H) {xt yt:TypeId}{y z:Operand}{xo yo:XO}{x:XV}(hu:P.underlying xt=some .bool) (h1:cO m y=some xo) (h2:cO m z=some yo)
 (h:BM true xo yo call L T N H=some (.mk x N' H' g)):eP P ops ⟨dst,.binOp .neq xt y z yt,ty,pos,af,gd⟩ (TS m L T) N H x N' H' g:=by
 obtain⟨v,hv,h⟩:=aK h
 obtain⟨v2,hv2,h⟩:=aK h
 obtain⟨a,q1,h⟩:=ml h
 obtain⟨b,q2,h⟩:=ml h
 subst q1 q2
 obtain⟨rfl,rfl,rfl,rfl⟩:=bW h
 refine bk hO hL trivial fun A Z w β ac ht=>?_
 have e1:ac.eval y=.bool a:=RdA.b_eq (aT (o:=⟨dst,.binOp .neq xt y z yt,ty,pos,af,gd⟩) (by simp[Op.operands]) h1 hv ht)
 have e2:ac.eval z=.bool b:=RdA.b_eq (aT (o:=⟨dst,.binOp .neq xt y z yt,ty,pos,af,gd⟩) (by simp[Op.operands]) h2 hv2 ht)
 refine⟨.bool (!(a==b)),?_,.b _⟩
 have h1:(eqGuard .neq xt y z (.bool a) (.bool b)).run P w=.ok () w:=rfl
 have h2:binOp .neq xt (.bool a) (.bool b)=(do pure (.bool (!(←Op.equal xt (.bool a) (.bool b))))):=rfl
 simp only[execOp,e1,e2,Sem.run_bind,h1,Result.andThen_ok,h2,iv hu,Sem.run_pure]
theorem ox {xt e:TypeId}{w:World}{b:Option Addr}{n c:Nat}(hu:P.underlying xt=some (.slice e)):(Op.equal xt (.slice b n c) (.slice none 0 0)).run P w=.ok b.isNone w:=by
 unfold Op.equal Op.maxDepth
 rw[show(10000:Nat)=9999+1 from rfl,Op.equalIn]
 simp only[Sem.run_bind,run_underlying hu,Result.andThen_ok]
 cases b<;>rfl
theorem Si (_hT:gW (TS m L T)) (hO:fS H) (hL:fZ N H) {xt yt e:TypeId}{y:Operand}{xo:XO}{x:XV}(hu:P.underlying xt=some (.slice e)) (h1:cO m y=some xo)
 (h:C8 false xo call L T N H=some (.mk x N' H' g)):eP P ops ⟨dst,.binOp .eql xt y (.const (.slice none 0 0)) yt,ty,pos,af,gd⟩ (TS m L T) N H x N' H' g:=by
 obtain⟨v,hv,h⟩:=aK h
 obtain⟨a,rfl,h⟩:=fi h
 have key: ∀(ac:Act) (w:World) (b:Option Addr) (n c:Nat),ac.eval y=.slice b n c→(execOp ac.eval ⟨dst,.binOp .eql xt y (.const (.slice none 0 0)) yt,ty,pos,af,gd⟩).run P w=.ok (.value (.bool b.isNone)) w:=by
  intro ac w b n c e1
  have h1:(eqGuard .eql xt y (.const (.slice none 0 0)) (.slice b n c) (.slice none 0 0)).run P w=.ok () w:=rfl
  have h2:binOp .eql xt (.slice b n c) (.slice none 0 0)=(do pure (.bool (←Op.equal xt (.slice b n c) (.slice none 0 0)))):=rfl
  have e2:ac.eval (.const (.slice none 0 0))=.slice none 0 0:=rfl
  simp only[execOp,e1,e2,Sem.run_bind,h1,Result.andThen_ok,h2,ox hu,Sem.run_pure]
 rcases gN h with⟨k,off,n,lo,ex,m',rfl,h⟩|⟨rfl,h⟩|⟨rfl,h⟩
 ·obtain⟨rfl,rfl,rfl,rfl⟩:=bW h
  refine bk hO hL trivial fun A Z w β ac ht=>?_
  obtain⟨c,e1,_⟩:=RdA.s_eq (aT (o:=⟨dst,.binOp .eql xt y (.const (.slice none 0 0)) yt,ty,pos,af,gd⟩) (by simp[Op.operands]) h1 hv ht)
  exact⟨_,key ac w _ _ _ e1,.b _⟩
 ·obtain⟨rfl,rfl,rfl,rfl⟩:=bW h
  refine bk hO hL trivial fun A Z w β ac ht=>?_
  have e1:=RdA.z_eq (aT (o:=⟨dst,.binOp .eql xt y (.const (.slice none 0 0)) yt,ty,pos,af,gd⟩) (by simp[Op.operands]) h1 hv ht)
  exact⟨_,key ac w _ _ _ e1,.b _⟩
 ·cases h
theorem Qr (_hT:gW (TS m L T)) (hO:fS H) (hL:fZ N H) {xt yt e:TypeId}{y:Operand}{xo:XO}{x:XV}(hu:P.underlying xt=some (.slice e)) (h1:cO m y=some xo)
 (h:C8 true xo call L T N H=some (.mk x N' H' g)):eP P ops ⟨dst,.binOp .neq xt y (.const (.slice none 0 0)) yt,ty,pos,af,gd⟩ (TS m L T) N H x N' H' g:=by
 obtain⟨v,hv,h⟩:=aK h
 obtain⟨a,rfl,h⟩:=fi h
 have key: ∀(ac:Act) (w:World) (b:Option Addr) (n c:Nat),ac.eval y=.slice b n c→(execOp ac.eval ⟨dst,.binOp .neq xt y (.const (.slice none 0 0)) yt,ty,pos,af,gd⟩).run P w=.ok (.value (.bool (!b.isNone))) w:=by
  intro ac w b n c e1
  have h1:(eqGuard .neq xt y (.const (.slice none 0 0)) (.slice b n c) (.slice none 0 0)).run P w=.ok () w:=rfl
  have h2:binOp .neq xt (.slice b n c) (.slice none 0 0)=(do pure (.bool (!(←Op.equal xt (.slice b n c) (.slice none 0 0))))):=rfl
  have e2:ac.eval (.const (.slice none 0 0))=.slice none 0 0:=rfl
  simp only[execOp,e1,e2,Sem.run_bind,h1,Result.andThen_ok,h2,ox hu,Sem.run_pure]
 rcases gN h with⟨k,off,n,lo,ex,m',rfl,h⟩|⟨rfl,h⟩|⟨rfl,h⟩
 ·obtain⟨rfl,rfl,rfl,rfl⟩:=bW h
  refine bk hO hL trivial fun A Z w β ac ht=>?_
  obtain⟨c,e1,_⟩:=RdA.s_eq (aT (o:=⟨dst,.binOp .neq xt y (.const (.slice none 0 0)) yt,ty,pos,af,gd⟩) (by simp[Op.operands]) h1 hv ht)
  exact⟨_,key ac w _ _ _ e1,.b _⟩
 ·obtain⟨rfl,rfl,rfl,rfl⟩:=bW h
  refine bk hO hL trivial fun A Z w β ac ht=>?_
  have e1:=RdA.z_eq (aT (o:=⟨dst,.binOp .neq xt y (.const (.slice none 0 0)) yt,ty,pos,af,gd⟩) (by simp[Op.operands]) h1 hv ht)
  exact⟨_,key ac w _ _ _ e1,.b _⟩
 ·cases h
theorem TM (_hT:gW (TS m L T)) (hO:fS H) (hL:fZ N H) {U:TypeId}{f o':Nat}{y:Operand}{xo:XO}{x:XV}(hU:Pz P U f=some o') (h1:cO m y=some xo)
 (h:PU o' xo call L T N H=some (.mk x N' H' g)):eP P ops ⟨dst,.fieldAddr U y f,ty,pos,af,gd⟩ (TS m L T) N H x N' H' g:=by
 obtain⟨v,hv,h⟩:=aK h
 obtain⟨k,off,rfl,h⟩:=kg h
 obtain⟨rfl,rfl,rfl,rfl⟩:=bW h
 refine bk hO hL trivial fun A Z w β ac ht=>?_
 obtain⟨e1,hk⟩:=RdA.p_eq (aT (o:=⟨dst,.fieldAddr U y f,ty,pos,af,gd⟩) (by simp[Op.operands]) h1 hv ht)
 obtain⟨fs,fd,g1,g2,g3,g4⟩:=CQ hU
 refine⟨.pointer (some ⟨(β k).b,off+o',none⟩),?_,.p _ _ hk⟩
 simp only[execOp,Instr.fieldAt,e1,Instr.sureAddr,Sem.run_bind,Sem.run_pure,Result.andThen_ok,run_underlying g1,g2,g4,er]
theorem CH {U:TypeId}{f off n:Nat}{b:Bool}(h:Sh P U f=some (b,off,n)): ∃fs fd,P.underlying U=some (.struct fs)∧fs[f]? =some fd∧fd.offset=off∧kO P fd.type=some (b,n):=by
 unfold Sh at h
 split at h
 ·rename_i fs h1
  split at h
  ·rename_i fd h2
   split at h
   ·rename_i b' n' h3
    injection h with h
    injection h with h4 h5
    injection h5 with h5 h6
    subst h4 h5 h6
    exact⟨fs,fd,h1,h2,rfl,h3⟩
   ·cases h
  ·cases h
 ·cases h
theorem Rb (hT:gW (TS m L T)) (hO:fS H) (hL:fZ N H) {U:TypeId}{f o' n:Nat}{y:Operand}{xo:XO}{x:XV}(hU:Sh P U f=some (true,o',n)) (h1:cO m y=some xo)
 (h:M5 o' n xo call L T N H=some (.mk x N' H' g)):eP P ops ⟨dst,.field U y f,ty,pos,af,gd⟩ (TS m L T) N H x N' H' g:=by
 obtain⟨v,hv,h2⟩:=aK h
 cases v with
 |a tot r=>
  obtain⟨hn,h3⟩:=bp (show bT (Nat.ble (Nat.add o' n) tot) (pR (.a n (fr r tot o' n)) N H)=some (.mk x N' H' g) from h2)
  obtain⟨rfl,rfl,rfl,rfl⟩:=bW h3
  rw[dt] at hn
  obtain⟨hr1,hr2⟩:=nc hT h1 hv
  obtain⟨g1,g2⟩:=gg r tot o' n hr1 hr2 hn
  have hn':o'+n≤r.flat.length:=by rw[←hr2];exact hn
  refine bk hO hL ⟨g1,by rw[g2];simp;omega⟩ fun A Z w β ac ht=>?_
  obtain⟨cs,e1,hr⟩:=aT (o:=⟨dst,.field U y f,ty,pos,af,gd⟩) (by simp[Op.operands]) h1 hv ht
  obtain⟨fs,fd,k1,k2,k3,k4⟩:=CH hU
  obtain⟨k5,k6⟩:=jz k4 w
  refine⟨.agg (cs.extract o' (o'+n)),?_,_,rfl,?_⟩
  ·simp only[execOp,Instr.field,e1,Sem.run_bind,Sem.run_pure,Result.andThen_ok,run_underlying k1,k2,part,asAgg,k5,k6,k3,if_true]
  ·rw[g2]
   have:=(hr.drop o').take n
   simpa [Array.toList_extract,List.extract_eq_take_drop] using this
 |_=>cases h2
theorem Ss (hT:gW (TS m L T)) (hO:fS H) (hL:fZ N H) {U:TypeId}{f o' n:Nat}{y:Operand}{xo:XO}{x:XV}(hU:Sh P U f=some (false,o',n)) (h1:cO m y=some xo)
 (h:MS o' xo call L T N H=some (.mk x N' H' g)):eP P ops ⟨dst,.field U y f,ty,pos,af,gd⟩ (TS m L T) N H x N' H' g:=by
 obtain⟨v,hv,h2⟩:=aK h
 cases v with
 |a tot r=>
  obtain⟨c,hc2,h3⟩:=aK (show oO (kL r o') (fun a=>pR (.c a) N H)=some (.mk x N' H' g) from h2)
  obtain⟨rfl,rfl,rfl,rfl⟩:=bW h3
  obtain⟨hr1,hr2⟩:=nc hT h1 hv
  rw[lk r o' hr1] at hc2
  refine bk hO hL trivial fun A Z w β ac ht=>?_
  obtain⟨cs,e1,hr⟩:=aT (o:=⟨dst,.field U y f,ty,pos,af,gd⟩) (by simp[Op.operands]) h1 hv ht
  obtain⟨fs,fd,k1,k2,k3,k4⟩:=CH hU
  obtain⟨k5,_⟩:=jz k4 w
  have hlt:o'<cs.toList.length:=by rw[hr.1];exact(List.getElem?_eq_some_iff.1 hc2).1
  have hv2:cs.toList[o']? =some (cs.toList[o']'hlt):=List.getElem?_eq_getElem _
  refine⟨_,?_,hr.2 o' _ c hv2 hc2⟩
  have hv3:cs[o']? =some (cs.toList[o']'hlt):=by rw[←Array.getElem?_toList];exact hv2
  simp only[execOp,Instr.field,e1,Sem.run_bind,Sem.run_pure,Result.andThen_ok,run_underlying k1,k2,part,asAgg,k5,k3,hv3]
  rfl
 |_=>cases h2
theorem QD (hT:gW (TS m L T)) (hO:fS H) (hL:fZ N H) {i:Nat}{y:Operand}{xo:XO}{x:XV}(h1:cO m y=some xo)
 (h:MM xo i call L T N H=some (.mk x N' H' g)):eP P ops ⟨dst,.extract y i,ty,pos,af,gd⟩ (TS m L T) N H x N' H' g:=by
 obtain⟨v,hv,h⟩:=aK h
 obtain⟨ds,rfl,h⟩:=K0 h
 obtain⟨d,hd,h⟩:=aK h
 obtain⟨rfl,rfl,rfl,rfl⟩:=bW h
 have nthD_eq: ∀(ds:List XD) (i:Nat),KD ds i=ds[i]? :=by
  intro ds
  induction ds with
  |nil=>intro i;simp[KD]
  |cons d ds ih=>
   intro i
   show @Bool.rec (fun _=>Option XD) (KD ds (Nat.pred i)) (some d) (Nat.beq i 0)=_
   rw[lQ]
   cases i with
   |zero=>rfl
   |succ i=>rw[if_neg (by omega)];simpa using ih i
 rw[nthD_eq] at hd
 have hok: ∀d∈ds,sD d:=nc hT h1 hv
 have hdk:=hok d (List.mem_of_getElem? hd)
 refine bk hO hL (by cases d<;>exact hdk) fun A Z w β ac ht=>?_
 obtain⟨vs,e1,hr⟩:=aT (o:=⟨dst,.extract y i,ty,pos,af,gd⟩) (by simp[Op.operands]) h1 hv ht
 have hlt:i<ds.length:=(List.getElem?_eq_some_iff.1 hd).1
 have hv:vs.toList[i]? =some (vs.toList[i]'(by rw[hr.1];exact hlt)):=List.getElem?_eq_getElem _
 have hrd:=hr.2 i _ d hv hd
 rw[Array.getElem?_toList] at hv
 refine⟨vs.toList[i]'(by rw[hr.1];exact hlt),?_,?_⟩
 ·simp only[execOp,e1,Instr.extract,hv,Sem.run_bind,Sem.run_pure,Result.andThen_ok]
 ·cases d<;>exact hrd
theorem PV (_hT:gW (TS m L T)) (hO:fS H) (hL:fZ N H) {U:TypeId}{sz:Nat}{y:Operand}{xo:XO}{x:XV}(hU:mI P U=some sz) (h1:cO m y=some xo)
 (h:MR xo call L T N H=some (.mk x N' H' g)):eP P ops ⟨dst,.call ⟨.builtin .len,#[y],#[U]⟩,ty,pos,af,gd⟩ (TS m L T) N H x N' H' g:=by
 obtain⟨v,hv,h⟩:=aK h
 obtain⟨a,rfl,h⟩:=fi h
 have key: ∀(ac:Act) (w:World) (b:Option Addr) (n c:Nat),ac.eval y=.slice b n c→(execOp ac.eval ⟨dst,.call ⟨.builtin .len,#[y],#[U]⟩,ty,pos,af,gd⟩).run P w=.ok (.value (.int .i64 n)) w:=by
  intro ac w b n c e
  unfold mI at hU
  split at hU
  ·rename_i el hu
   simp[execOp,resolve,invoke,builtin,Builtin.len_,e,run_underlying hu,goInt]
  ·cases hU
 rcases gN h with⟨k,off,n,lo,ex,m',rfl,h⟩|⟨rfl,h⟩|⟨rfl,h⟩
 ·obtain⟨rfl,rfl,rfl,rfl⟩:=bW h
  refine bk hO hL trivial fun A Z w β ac ht=>?_
  obtain⟨c,e1,_⟩:=RdA.s_eq (aT (o:=⟨dst,.call ⟨.builtin .len,#[y],#[U]⟩,ty,pos,af,gd⟩) (by simp[Op.operands,Call.operands]) h1 hv ht)
  exact⟨_,key ac w _ _ _ e1,.i _ _⟩
 ·obtain⟨rfl,rfl,rfl,rfl⟩:=bW h
  refine bk hO hL trivial fun A Z w β ac ht=>?_
  have e1:=RdA.z_eq (aT (o:=⟨dst,.call ⟨.builtin .len,#[y],#[U]⟩,ty,pos,af,gd⟩) (by simp[Op.operands,Call.operands]) h1 hv ht)
  exact⟨_,key ac w _ _ _ e1,.i _ _⟩
 ·obtain⟨rfl,rfl,rfl,rfl⟩:=bW h
  refine bk hO hL trivial fun A Z w β ac ht=>?_
  obtain⟨b,c,e1,_⟩:=RdA.ev_eq (aT (o:=⟨dst,.call ⟨.builtin .len,#[y],#[U]⟩,ty,pos,af,gd⟩) (by simp[Op.operands,Call.operands]) h1 hv ht)
  exact⟨_,key ac w _ _ _ e1,.i _ _⟩
theorem Sj (_hT:gW (TS m L T)) (hO:fS H) (hL:fZ N H) {U:TypeId}{sz:Nat}{y:Operand}{xo:XO}{x:XV}(hU:mI P U=some sz) (h1:cO m y=some xo)
 (h:Me xo call L T N H=some (.mk x N' H' g)):eP P ops ⟨dst,.call ⟨.builtin .cap,#[y],#[U]⟩,ty,pos,af,gd⟩ (TS m L T) N H x N' H' g:=by
 obtain⟨v,hv,h⟩:=aK h
 obtain⟨a,rfl,h⟩:=fi h
 have key: ∀(ac:Act) (w:World) (b:Option Addr) (n c:Nat),ac.eval y=.slice b n c→(execOp ac.eval ⟨dst,.call ⟨.builtin .cap,#[y],#[U]⟩,ty,pos,af,gd⟩).run P w=.ok (.value (.int .i64 c)) w:=by
  intro ac w b n c e
  unfold mI at hU
  split at hU
  ·rename_i el hu
   simp[execOp,resolve,invoke,builtin,Builtin.cap_,e,run_underlying hu,goInt]
  ·cases hU
 rcases gN h with⟨k,off,n,lo,ex,m',rfl,h⟩|⟨rfl,h⟩|⟨rfl,h⟩
 ·obtain⟨hex,h⟩:=bp h
  obtain⟨rfl,rfl,rfl,rfl⟩:=bW h
  refine bk hO hL trivial fun A Z w β ac ht=>?_
  obtain⟨c,e1,_,_,_,_,hc,_⟩:=RdA.s_eq (aT (o:=⟨dst,.call ⟨.builtin .cap,#[y],#[U]⟩,ty,pos,af,gd⟩) (by simp[Op.operands,Call.operands]) h1 hv ht)
  have hc:=hc hex
  subst hc
  exact⟨_,key ac w _ _ _ e1,.i _ _⟩
 ·obtain⟨rfl,rfl,rfl,rfl⟩:=bW h
  refine bk hO hL trivial fun A Z w β ac ht=>?_
  have e1:=RdA.z_eq (aT (o:=⟨dst,.call ⟨.builtin .cap,#[y],#[U]⟩,ty,pos,af,gd⟩) (by simp[Op.operands,Call.operands]) h1 hv ht)
  exact⟨_,key ac w _ _ _ e1,.i _ _⟩
 ·cases h
theorem SW (_hT:gW (TS m L T)) (hO:fS H) (hL:fZ N H) {U:TypeId}{sz:Nat}{y z:Operand}{xo yo:XO}{x:XV}(hU:mI P U=some sz) (h1:cO m y=some xo) (h2:cO m z=some yo)
 (h:QB sz xo yo call L T N H=some (.mk x N' H' g)):eP P ops ⟨dst,.indexAddr U y z,ty,pos,af,gd⟩ (TS m L T) N H x N' H' g:=by
 obtain⟨v,hv,h⟩:=aK h
 obtain⟨v2,hv2,h⟩:=aK h
 obtain⟨a,rfl,h⟩:=fi h
 obtain⟨ki,j,rfl,h⟩:=lK h
 rcases gN h with⟨k,off,n,lo,ex,m',rfl,h⟩|⟨rfl,h⟩|⟨rfl,h⟩
 ·obtain⟨hj,h⟩:=bp h
  obtain⟨hm,h⟩:=bp h
  obtain⟨rfl,rfl,rfl,rfl⟩:=bW h
  rw[b9] at hj
  refine bk hO hL trivial fun A Z w β ac ht=>?_
  obtain⟨c,e1,hk,_⟩:=RdA.s_eq (aT (o:=⟨dst,.indexAddr U y z,ty,pos,af,gd⟩) (by simp[Op.operands]) h1 hv ht)
  have e2:=RdA.i_eq (aT (o:=⟨dst,.indexAddr U y z,ty,pos,af,gd⟩) (by simp[Op.operands]) h2 hv2 ht)
  refine⟨.pointer (some ⟨(β k).b,off+j*sz,none⟩),?_,.p _ _ hk⟩
  unfold mI at hU
  split at hU
  case h_2=>cases hU
  rename_i el hul
  cases hinf:P.info? el with
  |none=>rw[hinf] at hU;cases hU
  |some inf=>
   rw[hinf] at hU
   simp at hU
   have hso: ∀w,(sizeOf el).run P w=.ok sz w:=fun w=>by unfold sizeOf typeInfo;simp[program,Sem.run,hinf,hU]
   have hj0:(0:Int)≤(j:Int):=by omega
   have hj1:(j:Int)<(n:Int):=by omega
   simp[execOp,Instr.indexAt,e1,e2,asIntOf,run_underlying hul,hj0,hso,er,hj]
 ·cases h
 ·cases h
end
section
variable {P:Program}{ops:Array Oper}{o:Oper}{TT:TX}{m N:Nat}{L:LX}{T:Tr XV}{H:Tr Bx}{x:XV}
variable {N':Nat}{H':Tr Bx}{g:Lg}{call:fb}
variable {dst:Option Nat}{ty:TypeId}{pos:String}{af:Array Edge}{gd:Option (Nat×Bool)}
theorem BZ {U:TypeId}{sz:Nat}(hU:mI P U=some sz): ∃el,P.underlying U=some (.slice el)∧ ∀w,(sizeOf el).run P w=.ok sz w:=by
 unfold mI at hU
 split at hU
 case h_2=>cases hU
 rename_i el hul
 cases hinf:P.info? el with
 |none=>rw[hinf] at hU;cases hU
 |some inf=>
  rw[hinf] at hU
  simp at hU
  exact⟨el,hul,fun w=>by unfold sizeOf typeInfo;simp[program,Sem.run,hinf,hU]⟩
theorem mB {A Z:Nat→Prop}{w:World}{β:Nat→Pl}{a:Act}{d l:Nat}{y:Option Operand}{yo:Option XO}(hc:xv m y=some yo) (hg:ra L T d yo=some l) (hy: ∀z,y=some z→z∈o.op.operands)
 (ht:qv A Z w β (dE ops o) (TS m L T) a):(y=none∧l=d)∨ ∃z k,y=some z∧a.eval z=.int k (l:Int):=by
 cases y with
 |none=>
  injection hc with hc
  subst hc
  injection hg with hg
  exact .inl ⟨rfl,hg.symm⟩
 |some z=>
  cases h1:cO m z with
  |none=>simp[xv,h1] at hc
  |some zo=>
   simp[xv,h1] at hc
   subst hc
   obtain⟨v,hv,hg2⟩:=aK (show oO (zo.get L T) (fun v=>xN v some)=some l from hg)
   obtain⟨k,j,q,hg3⟩:=lK hg2
   injection hg3 with hg4
   subst q hg4
   exact .inr ⟨z,k,rfl,RdA.i_eq (aT (hy z rfl) h1 hv ht)⟩
theorem uC {U:TypeId}{sz:Nat}(hU:mI P U=some sz) {y:Operand}{lo hi:Option Operand}{a:Act}{w:World}{b:Option Addr}{n c l h:Nat}(e:a.eval y=.slice b n c)
 (hlo:(lo=none∧l=0)∨ ∃z k,lo=some z∧a.eval z=.int k (l:Int)) (hhi:(hi=none∧h=n)∨ ∃z k,hi=some z∧a.eval z=.int k (h:Int)) (h1:l≤h) (h2:h≤c):
 (execOp a.eval ⟨dst,.slice U y lo hi none,ty,pos,af,gd⟩).run P w=.ok (.value (.slice (if c=l then b else b.map (·.add (l*sz))) (h-l) (c-l))) w:=by
 obtain⟨el,hul,hso⟩:=BZ hU
 have i1:(0:Int)≤(l:Int):=by omega
 have i2:(l:Int)≤(h:Int):=by omega
 have i3:(0:Int)≤(h:Int):=by omega
 have i4:(h:Int)≤(c:Int):=by omega
 rcases hlo with⟨rfl,rfl⟩|⟨z,k,rfl,e1⟩<;>rcases hhi with⟨rfl,rfl⟩|⟨z2,k2,rfl,e2⟩
 ·simp[execOp,Instr.sliceAt,Instr.slice,run_underlying hul,e,Instr.sliceBounds,hso]
 ·simp[execOp,Instr.sliceAt,Instr.slice,run_underlying hul,e,e2,Instr.sliceBounds,Instr.sliceBound,asIntOf,h2,hso]
 ·simp[execOp,Instr.sliceAt,Instr.slice,run_underlying hul,e,e1,Instr.sliceBounds,Instr.sliceBound,asIntOf,h1,hso]
 ·simp[execOp,Instr.sliceAt,Instr.slice,run_underlying hul,e,e1,e2,Instr.sliceBounds,Instr.sliceBound,asIntOf,h1,h2,hso]
theorem Qx (_hT:gW (TS m L T)) (hO:fS H) (hL:fZ N H) {U:TypeId}{sz:Nat}{y:Operand}{xo:XO}{lo hi:Option Operand}{lo' hi':Option XO}{x:XV}(hU:mI P U=some sz) (h1:cO m y=some xo) (h2:xv m lo=some lo') (h3:xv m hi=some hi')
 (h:Mq sz xo lo' hi' call L T N H=some (.mk x N' H' g)):eP P ops ⟨dst,.slice U y lo hi none,ty,pos,af,gd⟩ (TS m L T) N H x N' H' g:=by
 obtain⟨v,hv,h⟩:=aK h
 obtain⟨a,rfl,h⟩:=fi h
 have hml: ∀z,lo=some z→z∈(Op.slice U y lo hi none).operands:=fun z e=>by subst e;simp[Op.operands]
 have hmh: ∀z,hi=some z→z∈(Op.slice U y lo hi none).operands:=fun z e=>by subst e;simp[Op.operands]
 have hmy:y∈(Op.slice U y lo hi none).operands:=by simp[Op.operands]
 rcases gN h with⟨k,off,n,lb,ex,m',rfl,h⟩|⟨rfl,h⟩|⟨rfl,h⟩
 ·obtain⟨l,hl,h⟩:=aK h
  obtain⟨hh,hhg,h⟩:=aK h
  obtain⟨hm,h⟩:=bp h
  obtain⟨r,hr,h⟩:=aK h
  obtain⟨rfl,rfl,rfl,rfl⟩:=bW h
  have hm:=Nat.eq_of_beq_eq_true hm
  subst hm
  obtain⟨g1,hr⟩:=bp hr
  obtain⟨g2,hr⟩:=bp hr
  rw[dt] at g1 g2
  refine bk hO hL trivial fun A Z w β ac ht=>?_
  obtain⟨c,e1,hk,c1,c2,c3,c4,c5⟩:=RdA.s_eq (aT (o:=⟨dst,.slice U y lo hi none,ty,pos,af,gd⟩) hmy h1 hv ht)
  have el:=mB (o:=⟨dst,.slice U y lo hi none,ty,pos,af,gd⟩) h2 hl hml ht
  have eh:=mB (o:=⟨dst,.slice U y lo hi none,ty,pos,af,gd⟩) h3 hhg hmh ht
  refine⟨_,uC (dst:=dst) (ty:=ty) (pos:=pos) (af:=af) (gd:=gd) hU e1 el eh g1 (Nat.le_trans g2 c2),?_⟩
  rw[fh,fh] at hr
  split at hr
  ·rename_i hlt
   rw[b9] at hlt
   injection hr with hr
   subst hr
   rw[if_neg (by omega)]
   show RdA A Z w β (.slice (some ((⟨(β k).b,off,none⟩:Addr).add (l*sz))) (hh-l) (c-l)) _
   rw[er]
   refine .s k (off+l*sz) (hh-l) (lb-l) ex sz (c-l) hk (by omega) (by omega) (by omega) (fun e=>by rw[c4 e]) ?_
   have:l*sz+(c-l)*sz=c*sz:=by rw[←Nat.add_mul];congr 1;omega
   omega
  ·rename_i hlt
   rw[b9] at hlt
   have hll:l=lb:=by omega
   split at hr
   ·rename_i hex
    injection hr with hr
    subst hr
    have hc:=c4 hex
    rw[if_pos (by omega),show hh-l=0 by omega,show c-l=0 by omega]
    exact .s k off 0 0 true sz 0 hk (Nat.le_refl _) (Nat.le_refl _) (by decide) (fun _=>rfl) (by omega)
   ·injection hr with hr
    subst hr
    rw[show hh-l=0 by omega]
    refine .ev _ _ (by omega) (fun ad had=>?_)
    split at had
    ·injection had with had;subst had;rfl
    ·have had:some ((⟨(β k).b,off,none⟩:Addr).add (l*sz))=some ad:=had
     rw[er] at had
     injection had with had;subst had;rfl
 ·obtain⟨l,hl,h⟩:=aK h
  obtain⟨hh,hhg,h⟩:=aK h
  obtain⟨q1,h⟩:=bp h
  obtain⟨q2,h⟩:=bp h
  obtain⟨rfl,rfl,rfl,rfl⟩:=bW h
  have q1:=Nat.eq_of_beq_eq_true q1
  have q2:=Nat.eq_of_beq_eq_true q2
  subst q1 q2
  refine bk hO hL trivial fun A Z w β ac ht=>?_
  have e1:=RdA.z_eq (aT (o:=⟨dst,.slice U y lo hi none,ty,pos,af,gd⟩) hmy h1 hv ht)
  have el:=mB (o:=⟨dst,.slice U y lo hi none,ty,pos,af,gd⟩) h2 hl hml ht
  have eh:=mB (o:=⟨dst,.slice U y lo hi none,ty,pos,af,gd⟩) h3 hhg hmh ht
  refine⟨_,uC (dst:=dst) (ty:=ty) (pos:=pos) (af:=af) (gd:=gd) hU e1 el eh (Nat.le_refl _) (Nat.le_refl _),?_⟩
  exact .z
 ·cases h
theorem AQ {U:TypeId}{sz:Nat}(hU:mI P U=some sz) {y zh zM:Operand}{lo:Option Operand}{a:Act}{w:World}{b:Option Addr}{n c l h M:Nat}{kh kM:IntKind}(e:a.eval y=.slice b n c)
 (hlo:(lo=none∧l=0)∨ ∃z k,lo=some z∧a.eval z=.int k (l:Int)) (eh:a.eval zh=.int kh (h:Int)) (eM:a.eval zM=.int kM (M:Int)) (h1:l≤h) (h2:h≤M) (h3:M≤c):
 (execOp a.eval ⟨dst,.slice U y lo (some zh) (some zM),ty,pos,af,gd⟩).run P w=.ok (.value (.slice (if M=l then b else b.map (·.add (l*sz))) (h-l) (M-l))) w:=by
 obtain⟨el,hul,hso⟩:=BZ hU
 have i1:(0:Int)≤(l:Int):=by omega
 have i2:(l:Int)≤(h:Int):=by omega
 have i3:(0:Int)≤(h:Int):=by omega
 have i4:(h:Int)≤(M:Int):=by omega
 have i5:(0:Int)≤(M:Int):=by omega
 have i6:(M:Int)≤(c:Int):=by omega
 rcases hlo with⟨rfl,rfl⟩|⟨z,k,rfl,e1⟩
 ·simp[execOp,Instr.sliceAt,Instr.slice,run_underlying hul,e,eh,eM,Instr.sliceBounds,Instr.sliceBound,asIntOf,h2,h3,hso]
 ·simp[execOp,Instr.sliceAt,Instr.slice,run_underlying hul,e,e1,eh,eM,Instr.sliceBounds,Instr.sliceBound,asIntOf,h1,h2,h3,hso]
theorem QP (_hT:gW (TS m L T)) (hO:fS H) (hL:fZ N H) {U:TypeId}{sz:Nat}{y zh zM:Operand}{xo ho Mo:XO}{lo:Option Operand}{lo':Option XO}{x:XV}(hU:mI P U=some sz) (h1:cO m y=some xo) (h2:xv m lo=some lo') (h3:cO m zh=some ho) (h4:cO m zM=some Mo)
 (h:M4 sz xo lo' ho Mo call L T N H=some (.mk x N' H' g)):eP P ops ⟨dst,.slice U y lo (some zh) (some zM),ty,pos,af,gd⟩ (TS m L T) N H x N' H' g:=by
 obtain⟨v,hv,h⟩:=aK h
 obtain⟨a,rfl,h⟩:=fi h
 have hml: ∀z,lo=some z→z∈(Op.slice U y lo (some zh) (some zM)).operands:=fun z e=>by subst e;simp[Op.operands]
 have hmy:y∈(Op.slice U y lo (some zh) (some zM)).operands:=by simp[Op.operands]
 have hmh: ∀z,(some zh)=some z→z∈(Op.slice U y lo (some zh) (some zM)).operands:=fun z e=>by injection e with e;subst e;simp[Op.operands]
 have hmM: ∀z,(some zM)=some z→z∈(Op.slice U y lo (some zh) (some zM)).operands:=fun z e=>by injection e with e;subst e;simp[Op.operands]
 rcases gN h with⟨k,off,n,lb,ex,m',rfl,h⟩|⟨rfl,h⟩|⟨rfl,h⟩
 ·obtain⟨l,hl,h⟩:=aK h
  obtain⟨hh,hhg,h⟩:=aK h
  obtain⟨M,hM,h⟩:=aK h
  obtain⟨hm,h⟩:=bp h
  obtain⟨r,hr,h⟩:=aK h
  obtain⟨rfl,rfl,rfl,rfl⟩:=bW h
  have hm:=Nat.eq_of_beq_eq_true hm
  subst hm
  obtain⟨g1,hr⟩:=bp hr
  obtain⟨g2,hr⟩:=bp hr
  obtain⟨g3,hr⟩:=bp hr
  rw[dt] at g1 g2 g3
  refine bk hO hL trivial fun A Z w β ac ht=>?_
  obtain⟨c,e1,hk,c1,c2,c3,c4,c5⟩:=RdA.s_eq (aT (o:=⟨dst,.slice U y lo (some zh) (some zM),ty,pos,af,gd⟩) hmy h1 hv ht)
  have el:=mB (o:=⟨dst,.slice U y lo (some zh) (some zM),ty,pos,af,gd⟩) h2 hl hml ht
  have eh:=mB (o:=⟨dst,.slice U y lo (some zh) (some zM),ty,pos,af,gd⟩) (y:=some zh) (yo:=some ho) (by simp[xv,h3]) hhg hmh ht
  have eM:=mB (o:=⟨dst,.slice U y lo (some zh) (some zM),ty,pos,af,gd⟩) (y:=some zM) (yo:=some Mo) (by simp[xv,h4]) hM hmM ht
  obtain⟨q,_⟩|⟨z,kh,q,eh⟩:=eh
  ·cases q
  injection q with q
  subst q
  obtain⟨q,_⟩|⟨z,kM,q,eM⟩:=eM
  ·cases q
  injection q with q
  subst q
  refine⟨_,AQ (dst:=dst) (ty:=ty) (pos:=pos) (af:=af) (gd:=gd) hU e1 el eh eM g1 g2 (Nat.le_trans g3 c2),?_⟩
  have hcM:M*sz≤c*sz:=Nat.mul_le_mul_right _ (Nat.le_trans g3 c2)
  rw[fh] at hr
  split at hr
  ·rename_i hlt
   rw[b9] at hlt
   injection hr with hr
   subst hr
   rw[if_neg (by omega)]
   show RdA A Z w β (.slice (some ((⟨(β k).b,off,none⟩:Addr).add (l*sz))) (hh-l) (M-l)) _
   rw[er]
   refine .s k (off+l*sz) (hh-l) (M-l) true sz (M-l) hk (by omega) (by omega) (by omega) (fun _=>rfl) ?_
   have:l*sz+(M-l)*sz=M*sz:=by rw[←Nat.add_mul];congr 1;omega
   omega
  ·rename_i hlt
   rw[b9] at hlt
   injection hr with hr
   subst hr
   rw[if_pos (by omega),show hh-l=0 by omega,show M-l=0 by omega]
   exact .s k off 0 0 true sz 0 hk (Nat.le_refl _) (Nat.le_refl _) (by decide) (fun _=>rfl) (by omega)
 ·cases h
 ·cases h
theorem qw: ∀ {xs:List XO}{vs:List XV},xE xs L T=some vs→vs.length=xs.length∧ ∀(j:Nat) (xo:XO) (v:XV),xs[j]? =some xo→vs[j]? =some v→xo.get L T=some v
 |[],vs,h=>by
  have h:some []=some vs:=h
  injection h with h
  subst h
  exact⟨rfl,fun j xo v hx=>by simp at hx⟩
 |x::xs,vs,h=>by
  obtain⟨v,hv,h⟩:=aK (show oO (x.get L T) (fun v=>oO (xE xs L T) fun vs=>some (v::vs))=some vs from h)
  obtain⟨vs',hvs,h⟩:=aK h
  injection h with h
  subst h
  obtain⟨h1,h2⟩:=qw hvs
  refine⟨by simp[h1],fun j xo v3 hx hu=>?_⟩
  cases j with
  |zero=>simp at hx hu;subst hx hu;exact hv
  |succ j=>exact h2 j xo v3 (by simpa using hx) (by simpa using hu)
def ub (A Z:Nat→Prop) (w:World) (β:Nat→Pl) (vs:List Value) (xs:List XV):Prop:=vs.length=xs.length∧ ∀(j:Nat) (v:Value) (x:XV),vs[j]? =some v→xs[j]? =some x→RdX2 A Z w β v x
theorem jG {A Z:Nat→Prop}{w:World}{β:Nat→Pl}{a:Act}{ys:List Operand}{xs:List XO}{vs:List XV}(hy: ∀y∈ys,y∈o.op.operands) (hc:gP (cO m) ys=some xs) (hg:xE xs L T=some vs)
 (ht:qv A Z w β (dE ops o) (TS m L T) a):ub A Z w β (ys.map a.eval) vs:=by
 obtain⟨h1,h2⟩:=qw hg
 have hl:=pe _ _ hc
 refine⟨by simp[hl,h1],fun j v x hv hx=>?_⟩
 have hj:j<ys.length:=by
  have:=(List.getElem?_eq_some_iff.1 hv).1
  simpa using this
 have hy':ys[j]? =some ys[j]:=List.getElem?_eq_getElem hj
 have hx':xs[j]? =some (xs[j]'(by omega)):=List.getElem?_eq_getElem (by omega)
 have e:v=a.eval ys[j]:=by
  rw[List.getElem?_map,hy'] at hv
  injection hv with hv
  exact hv.symm
 rw[e]
 exact aT (hy _ (List.getElem_mem hj)) (rI _ _ hc j _ _ hy' hx') (h2 j _ _ hx' hx) ht
theorem BI {ys:List Operand}{xs:List XO}{vs:List XV}(hT:gW (TS m L T)) (hc:gP (cO m) ys=some xs) (hg:xE xs L T=some vs): ∀v∈vs,sM v:=by
 obtain⟨h1,h2⟩:=qw hg
 have hl:=pe _ _ hc
 intro v hv
 obtain⟨j,hj⟩:=List.getElem?_of_mem hv
 have hjl:=(List.getElem?_eq_some_iff.1 hj).1
 exact nc hT (rI _ _ hc j _ _ (List.getElem?_eq_getElem (by omega)) (List.getElem?_eq_getElem (by omega))) (h2 j _ _ (List.getElem?_eq_getElem (by omega)) hj)
theorem vI: ∀ {vs:List XV}{y:AV}{f:FuncId},NR f vs=some y→ ∃cs,y.fn=some (f,cs)∧vs=cs.map XV.c
 |[],y,f,h=>by
  have h:some (AV.f0 f)=some y:=h
  injection h with h
  subst h
  exact⟨[],rfl,rfl⟩
 |v::vs,y,f,h=>by
  obtain⟨a,rfl,h⟩:=fi (show xC v (fun a=>oO (NR f vs) fun y=>some (.fc a y))=some y from h)
  obtain⟨y',hy,h⟩:=aK h
  injection h with h
  subst h
  obtain⟨cs,h1,h2⟩:=vI hy
  exact⟨a::cs,by simp[AV.fn,h1],by rw[h2];rfl⟩
theorem Rh (_hT:gW (TS m L T)) (hO:fS H) (hL:fZ N H) {f:FuncId}{first cs:Array Operand}{xs:List XO}{x:XV}(hf:first.isEmpty=true) (hc:gP (cO m) cs.toList=some xs)
 (h:MX f xs call L T N H=some (.mk x N' H' g)):eP P ops ⟨dst,.makeFunc (.func f) first cs,ty,pos,af,gd⟩ (TS m L T) N H x N' H' g:=by
 obtain⟨vs,hvs,h⟩:=aK h
 obtain⟨y,hy,h⟩:=aK h
 obtain⟨rfl,rfl,rfl,rfl⟩:=bW h
 have hf:first= #[]:=Array.isEmpty_iff.1 hf
 subst hf
 obtain⟨us,h1,h2⟩:=vI hy
 refine bk hO hL trivial fun A Z w β ac ht=>?_
 have hr:=jG (o:=⟨dst,.makeFunc (.func f) #[] cs,ty,pos,af,gd⟩) (fun y hy=>by simp[Op.operands];simpa using hy) hc hvs ht
 refine⟨.func (.func f) #[] (cs.map ac.eval),by simp[execOp,Instr.makeFunc],?_⟩
 refine .f f (cs.map ac.eval) us y h1 ?_ (fun j v x hv hx=>?_)
 ·have:=hr.1;rw[h2] at this;simpa using this
 ·refine hr.2 j v (.c x) ?_ ?_
  ·rw[←Array.getElem?_toList] at hv;simpa using hv
  ·rw[h2,List.getElem?_map,hx];rfl
end
section
variable {P:Program}{ops:Array Oper}{o:Oper}{TT:TX}{m N:Nat}{L:LX}{T:Tr XV}{H:Tr Bx}{x:XV}
variable {N':Nat}{H':Tr Bx}{g:Lg}{call:fb}
variable {dst:Option Nat}{ty:TypeId}{pos:String}{af:Array Edge}{gd:Option (Nat×Bool)}
theorem jE {b:Bx}{k j:Nat}{c}(h:HS (H.set b k) j=some c):(j=k∧c=(b.U,b.r.flat))∨(j≠k∧HS H j=some c):=by
 unfold HS at h⊢
 cases h1:(H.set b k).get j with
 |none=>rw[h1] at h;cases h
 |some b'=>
  rw[h1] at h
  injection h with h
  rcases Tr.set_get H k j h1 with⟨e1,e2⟩|⟨e1,e2⟩
  ·subst e2;exact .inl ⟨e1,h.symm⟩
  ·refine .inr ⟨e1,?_⟩
   rw[e2,←h];rfl
theorem jp {b:Bx}{k:Nat}(hO:fS H) (h1:b.r.ok) (h2:b.n=b.r.flat.length):fS (H.set b k):=fun j b' hj=>by
 rcases Tr.set_get H k j hj with⟨_,e2⟩|⟨_,e2⟩
 ·subst e2;exact⟨h1,h2⟩
 ·exact hO j b' e2
theorem jo {b:Bx}{k:Nat}(hL:fZ N H) (h1:N≤N') (h2:k<N'):fZ N' (H.set b k):=fun j b' hj=>by
 rcases Tr.set_get H k j hj with⟨e1,_⟩|⟨_,e2⟩
 ·omega
 ·have:=hL j b' e2;omega
theorem vJ {γ:Type}{k l:Nat}{c:γ}(h:(if k=l then some c else none)≠none):k=l:=by
 apply Classical.byContradiction
 intro e
 rw[if_neg e] at h;exact h rfl
theorem kH {k:Nat}{b:Bx}(h:H.get k=some b):HS H k=some (b.U,b.r.flat):=by unfold HS;rw[h];rfl
theorem pI (hO:fS H) (hL:fZ N H) {U n:Nat}{r:Rp}{y:AV}(hr:r.ok) (hn:n=r.flat.length)
 (h: ∀A Z w β a,qv A Z w β (dE ops o) TT a→ ∃v,∃vs:Array Value,(execOp a.eval o).run P w=.ok (.value v) (w.alloc (.cells vs U))∧RdAs A Z w β vs.toList r.flat∧ ∀A' Z' w' β',A' N→β' N=⟨w.heap.size,vs.size⟩→RdA A' Z' w' β' v y):
 eP P ops o TT N H (.c y) (N+1) (H.set ⟨U,n,r⟩ N) (.nw N):=by
 have hf:Foot N (N+1) H (H.set ⟨U,n,r⟩ N) e0 (fun k=>if k=N then some (U,r.flat) else none) (.nw N):=⟨rfl,rfl,rfl,fun j hj=>if_neg hj⟩
 refine⟨Nat.le_succ _,trivial,jp hO hr hn,jo hL (Nat.le_succ _) (Nat.lt_succ_self _),e0,fun k=>if k=N then some (U,r.flat) else none,?_,fun k c h=>(by cases h),?_,hf⟩
 ·intro V A β a w hA hm ht
  obtain⟨v,vs,hrun,hrd,hv⟩:=h _ _ w β a ht
  unfold Gives
  rw[hrun]
  have hN: ∀k,A k→k≠N:=fun k hk e=>hA k hk ⟨Nat.le_of_eq e.symm,by show k<N+1;omega⟩
  have hlen:vs.size=r.flat.length:=by rw[←hrd.1];simp
  have hH:Hst N (N+1) A e0 β w (fun k=>if k=N then some (U,r.flat) else none) (fun k=>if k=N then⟨w.heap.size,vs.size⟩ else β k) (w.alloc (.cells vs U)):=by
   refine⟨rfl,rfl,rfl,by simp,fun b hb _=>Below.heap_alloc _ _ _ hb,fun k hk=>if_neg (hN k hk),fun k hk=>?_,fun k hk=>?_⟩
   ·by_cases e:k=N
    ·rw[if_pos e];exact .inl (Nat.le_refl _)
    ·exact absurd (vJ hk) e
   ·by_cases e:k=N
    ·exact .inr ⟨Nat.le_of_eq e.symm,by omega⟩
    ·exact absurd (vJ hk) e
  have hkeep:=hH.keep hm
  refine⟨fun k=>A k∨k=N,fun k=>if k=N then⟨w.heap.size,vs.size⟩ else β k,fun k hk=>.inl hk,fun k hk=>?_,?_,hH,hv _ _ _ _ (.inr rfl) (if_pos rfl)⟩
  ·rcases hk with hk|hk
   ·exact .inl hk
   ·exact .inr ⟨Nat.le_of_eq hk.symm,by show k<N+1;omega⟩
  ·refine⟨fun b hb=>by rw[dg];exact Nat.lt_succ_of_lt (hm.vlt b hb),fun k hk=>?_,fun k hk=>?_,fun k l hk hl _=>?_,fun k hk hv2=>?_,fun k U' cs hk=>?_⟩
   ·by_cases e:k=N
    ·exact .inr e
    ·exact absurd (vJ hk) e
   ·rw[dg]
    rcases hk with hk|hk
    ·rw[if_neg (hN k hk)];exact Nat.lt_succ_of_lt (hm.lt k hk)
    ·rw[if_pos hk];exact Nat.lt_succ_self _
   ·by_cases e:k=N
    ·by_cases e2:l=N
     ·rw[e,e2]
     ·exact absurd (vJ hl) e2
    ·exact absurd (vJ hk) e
   ·by_cases e:k=N
    ·rw[if_pos e] at hv2
     have:=hm.vlt _ hv2
     exact Nat.lt_irrefl _ this
    ·exact absurd (vJ hk) e
   ·by_cases e:k=N
    ·have hk':(if k=N then some (U,r.flat) else none)=some (U',cs):=hk
     rw[if_pos e] at hk'
     injection hk' with hk'
     injection hk' with h1 h2
     subst h1 h2
     rw[if_pos e]
     refine⟨vs,heap_alloc_new w _,rfl,by omega,?_⟩
     rw[List.take_of_length_le (by simp;omega)]
     exact hrd.mono hkeep (fun _ h=>.inl h) hH.same
    ·have hk':(if k=N then some (U,r.flat) else none)=some (U',cs):=hk
     rw[if_neg e] at hk';cases hk'
 ·intro k c hk
  rcases jE hk with⟨e,hc⟩|⟨e,hc⟩
  ·show e8 (HS H) e0 _ k=_
   unfold e8
   show(match (if k=N then some (U,r.flat) else none),(none:Option (TypeId×List AV)) with|some c,_=>some c|none,some _=>none|none,none=>HS H k)=some c
   rw[if_pos e,hc]
  ·show e8 (HS H) e0 _ k=_
   unfold e8
   show(match (if k=N then some (U,r.flat) else none),(none:Option (TypeId×List AV)) with|some c,_=>some c|none,some _=>none|none,none=>HS H k)=some c
   rw[if_neg e];exact hc
theorem qk {y x:XV}{U n:Nat}{r:Rp}(h:PI y U n r N H=some (.mk x N' H' g)):x=y∧N'=N+1∧H'=H.set ⟨U,n,r⟩ N∧g=.nw N:=by
 unfold PI at h
 injection h with h
 injection h with h1 h2 h3 h4
 exact⟨h1.symm,h2.symm,h3.symm,h4.symm⟩
theorem Bf {A Z:Nat→Prop}{w:World}{β:Nat→Pl}{z:Value}{zs:List AV}(h:NC z=some zs):RdAs A Z w β z.cells.toList zs:=by
 unfold NC at h
 split at h
 ·exact pN h
 ·rename_i hne
  cases h1:iJ z with
  |none=>rw[h1] at h;cases h
  |some u2=>
   rw[h1] at h
   injection h with h
   subst h
   have hr:RdA A Z w β z u2:=mM h1
   rw[hr.one.1]
   exact RdAs.cons hr RdAs.nil
theorem qq {U:TypeId}{zs:List AV}(h:OM P U=some zs): ∃it z,P.info? U=some it∧it.zero=some z∧ ∀A Z w β,RdAs A Z w β z.cells.toList zs:=by
 unfold OM at h
 cases hi:P.info? U with
 |none=>rw[hi] at h;cases h
 |some it=>
  rw[hi] at h
  dsimp only at h
  cases hz:it.zero with
  |none=>rw[hz] at h;cases h
  |some z=>
   rw[hz] at h
   exact⟨it,z,rfl,hz,fun A Z w β=>Bf h⟩
theorem K2 (hO:fS H) (hL:fZ N H) {U:TypeId}{zs:List AV}{x:XV}(hz:OM P U=some zs)
 (h:Cz U zs.length (nh zs) call L T N H=some (.mk x N' H' g)):eP P ops ⟨dst,.alloc U,ty,pos,af,gd⟩ (TS m L T) N H x N' H' g:=by
 obtain⟨rfl,rfl,rfl,rfl⟩:=qk h
 obtain⟨h1,h2⟩:=i9 zs
 refine pI hO hL h1 (by rw[h2]) fun A Z w β a _=>?_
 obtain⟨it,z,hi,hz,hr⟩:=qq hz
 refine⟨.pointer (some ⟨w.heap.size,0,none⟩),z.cells,?_,by rw[h2];exact hr _ _ _ _,fun A' Z' w' β' hA hβ=>?_⟩
 ·simp[execOp,Instr.alloc,zeroValue,typeInfo,program,Sem.run,hi,hz,newVar,newRow,newObj]
  try rfl
 ·have:=RdA.p (A:=A') (Z:=Z') (w:=w') (β:=β') N 0 hA
  rw[hβ] at this;exact this
theorem tv {A Z:Nat→Prop}{w:World}{β:Nat→Pl}{v:Value}{y:XV}{n:Nat}{r:Rp}(h:RdX2 A Z w β v y) (hr:y.rp=some (n,r)):RdAs A Z w β v.cells.toList r.flat:=by
 cases y with
 |c a=>injection hr with hr;injection hr with h1 h2;subst h1 h2;exact RdD.cells (d:=.c a) h
 |a n' r'=>injection hr with hr;injection hr with h1 h2;subst h1 h2;exact RdD.cells (d:=.a n' r') h
 |t ds=>cases hr
 |u=>cases hr
theorem EZ {y:XV}{n:Nat}{r:Rp}(h:sM y) (hr:y.rp=some (n,r)):r.ok∧n=r.flat.length:=by
 cases y with
 |c a=>injection hr with hr;injection hr with h1 h2;subst h1 h2;exact⟨trivial,rfl⟩
 |a n' r'=>injection hr with hr;injection hr with h1 h2;subst h1 h2;exact h
 |t ds=>cases hr
 |u=>cases hr
theorem PR (hT:gW (TS m L T)) (hO:fS H) (hL:fZ N H) {U:TypeId}{y:Operand}{xo:XO}{x:XV}(hc:cO m y=some xo)
 (h:Ni U xo call L T N H=some (.mk x N' H' g)):eP P ops ⟨dst,.box U y,ty,pos,af,gd⟩ (TS m L T) N H x N' H' g:=by
 obtain⟨v,hv,h⟩:=aK h
 obtain⟨n,r,hrp,h⟩:=vN h
 obtain⟨rfl,rfl,rfl,rfl⟩:=qk h
 obtain⟨h1,h2⟩:=EZ (nc hT hc hv) hrp
 refine pI hO hL h1 h2 fun A Z w β a ht=>?_
 refine⟨.pointer (some ⟨w.heap.size,0,none⟩),(a.eval y).cells,?_,tv (aT (o:=⟨dst,.box U y,ty,pos,af,gd⟩) (by simp[Op.operands]) hc hv ht) hrp,fun A' Z' w' β' hA hβ=>?_⟩
 ·simp[execOp,Instr.box,Sem.run,newVar,newRow,newObj]
  try rfl
 ·have:=RdA.p (A:=A') (Z:=Z') (w:=w') (β:=β') N 0 hA
  rw[hβ] at this;exact this
noncomputable def jv (H:Tr Bx) (k:Nat):HF:=fun j=>if j=k then HS H k else none
theorem tV {k j:Nat}{c}(h:jv H k j=some c):HS H j=some c:=by
 unfold jv at h
 split at h
 ·rename_i e;rw[e];exact h
 ·cases h
theorem nP {k:Nat}:jv H k k=HS H k:=if_pos rfl
theorem uW (hO:fS H) (hL:fZ N H) {k:Nat}{b:Bx}(hb:H.get k=some b) (hx:sM x)
 (h: ∀V A β a w,Mem V A (jv H k) β w→qv A (Zs V (jv H k) β) w β (dE ops o) TT a→ ∃v,(execOp a.eval o).run P w=.ok (.value v) w∧RdX2 A (Zs V (jv H k) β) w β v x):
 eP P ops o TT N H x N H (.r k):=by
 have hf:Foot N N H H (jv H k) (jv H k) (.r k):=⟨fun j hj=>if_neg hj,rfl,rfl,by rw[kH hb];rfl⟩
 have hp:e8 (HS H) (jv H k) (jv H k)=HS H:=by
  funext j
  unfold e8
  cases h:jv H k j with
  |none=>rfl
  |some c=>exact(tV h).symm
 refine⟨Nat.le_refl _,hx,hO,hL,jv H k,jv H k,?_,fun j c h=>tV h,fun j c h=>(by rw[hp];exact h),hf⟩
 intro V A β a w _ hm ht
 obtain⟨v,hrun,hr⟩:=h V A β a w hm ht
 unfold Gives
 rw[hrun]
 exact⟨A,β,fun _ h=>h,fun _ h=>.inl h,hm,Hst.refl,hr⟩
theorem Sa (_hT:gW (TS m L T)) (hO:fS H) (hL:fZ N H) {U:TypeId}{n:Nat}{y:Operand}{xo:XO}{x:XV}(hU:kO P U=some (true,n)) (hc:cO m y=some xo)
 (h:M7 n xo call L T N H=some (.mk x N' H' g)):eP P ops ⟨dst,.load U y,ty,pos,af,gd⟩ (TS m L T) N H x N' H' g:=by
 obtain⟨v,hv,h⟩:=aK h
 obtain⟨k,off,rfl,h⟩:=kg h
 obtain⟨b,hb,h⟩:=aK h
 obtain⟨hn,h⟩:=bp h
 rw[dt] at hn
 injection h with h
 injection h with h1 h2 h3 h4
 subst h1 h2 h3 h4
 obtain⟨hb1,hb2⟩:=hO k b hb
 obtain⟨g1,g2⟩:=gg b.r b.n off n hb1 hb2 hn
 have hn':off+n≤b.r.flat.length:=by rw[←hb2];exact hn
 refine uW hO hL hb ⟨g1,by rw[g2];simp;omega⟩ fun V A β a w hm ht=>?_
 obtain⟨e1,hk⟩:=RdA.p_eq (aT (o:=⟨dst,.load U y,ty,pos,af,gd⟩) (by simp[Op.operands]) hc hv ht)
 obtain⟨vs,ev,hz,hl,hr⟩:=hm.box k b.U b.r.flat (by rw[nP];exact kH hb)
 have hr2:=(hr.drop off).take n
 have hlen:((vs.toList.take b.r.flat.length).drop off).take n=((vs.toList.drop off).take n):=by
  rw[List.drop_take,List.take_take,Nat.min_eq_left (by omega)]
 rw[hlen] at hr2
 have hrun:=fF (P:=P) (w:=w) hU (b:=(β k).b) (off:=off) (vs:=(vs.toList.drop off).take n) (by simp;omega) (fun j v hv=>by
  rw[List.getElem?_take] at hv
  split at hv
  ·rw[bq ev,←hv];simp
  ·cases hv)
 refine⟨.agg ((vs.toList.drop off).take n).toArray,?_,((vs.toList.drop off).take n).toArray,rfl,by rw[g2];simpa using hr2⟩
 simp only[execOp,Instr.loadAt,e1,Instr.sureAddr,Sem.run_bind,Sem.run_pure,Result.andThen_ok,hrun]
theorem QE (_hT:gW (TS m L T)) (hO:fS H) (hL:fZ N H) {U:TypeId}{n:Nat}{y:Operand}{xo:XO}{x:XV}(hU:kO P U=some (false,n)) (hc:cO m y=some xo)
 (h:Nm xo call L T N H=some (.mk x N' H' g)):eP P ops ⟨dst,.load U y,ty,pos,af,gd⟩ (TS m L T) N H x N' H' g:=by
 obtain⟨v,hv,h⟩:=aK h
 obtain⟨k,off,rfl,h⟩:=kg h
 obtain⟨b,hb,h⟩:=aK h
 obtain⟨c,hc2,h⟩:=aK h
 injection h with h
 injection h with h1 h2 h3 h4
 subst h1 h2 h3 h4
 obtain⟨hb1,hb2⟩:=hO k b hb
 rw[lk b.r off hb1] at hc2
 have hlt:=(List.getElem?_eq_some_iff.1 hc2).1
 refine uW hO hL hb trivial fun V A β a w hm ht=>?_
 obtain⟨e1,hk⟩:=RdA.p_eq (aT (o:=⟨dst,.load U y,ty,pos,af,gd⟩) (by simp[Op.operands]) hc hv ht)
 obtain⟨vs,ev,hz,hl,hr⟩:=hm.box k b.U b.r.flat (by rw[nP];exact kH hb)
 have hv2:vs.toList[off]? =some (vs.toList[off]'(by simp;omega)):=List.getElem?_eq_getElem _
 have hrd:=hr.2 off (vs.toList[off]'(by simp;omega)) c (by rw[List.getElem?_take,if_pos hlt];exact hv2) hc2
 have hrun:=fI (P:=P) (w:=w) hU (b:=(β k).b) (off:=off) (by rw[bq ev,←Array.getElem?_toList,hv2])
 refine⟨_,?_,hrd⟩
 simp only[execOp,Instr.loadAt,e1,Instr.sureAddr,Sem.run_bind,Sem.run_pure,Result.andThen_ok,hrun]
theorem nU {V A:Nat→Prop}{β:Nat→Pl}{w w':World}{Hv:HF}{k:Nat}{U:TypeId}{cs0 cs:List AV}(hm:Mem V A Hv β w) (hk:Hv k=some (U,cs0)) {vs:Array Value}(hz:vs.size=(β k).z)
 (hh:w'.heap=w.heap.setIfInBounds (β k).b (.cells vs U (0,0))) (ho:w'.os=w.os) (ht:w'.tape=w.tape) (hu:w'.output=w.output) (hl:cs.length≤vs.size)
 (hr:RdAs A (Zs V Hv β) w β (vs.toList.take cs.length) cs):Mem V A (fun j=>if j=k then some (U,cs) else Hv j) β w'∧Hst N N A Hv β w (fun j=>if j=k then some (U,cs) else Hv j) β w':=by
 have hne: ∀j,(if j=k then some (U,cs) else Hv j)≠none↔Hv j≠none:=by
  intro j
  by_cases e:j=k
  ·subst e;rw[if_pos rfl,hk];simp
  ·rw[if_neg e]
 have hsz:w'.heap.size=w.heap.size:=by rw[hh];simp
 have hbk:(β k).b<w.heap.size:=hm.lt k (hm.dom k (by rw[hk];simp))
 have hoth: ∀b,b≠(β k).b→w'.heap[b]? =w.heap[b]? :=fun b hb=>by rw[hh,Array.getElem?_setIfInBounds_ne (Ne.symm hb)]
 have hZ:Zs V (fun j=>if j=k then some (U,cs) else Hv j) β=Zs V Hv β:=by
  funext b
  unfold Zs
  simp only[hne]
 have hH:Hst N N A Hv β w (fun j=>if j=k then some (U,cs) else Hv j) β w':=
  ⟨ho,ht,hu,by omega,fun b _ hb=>hoth b (fun e=>hb k (by rw[hk];simp) e.symm),fun _ _=>rfl,fun j hj=>.inr ⟨j,(hne j).1 hj,rfl⟩,fun j hj=>.inl ((hne j).1 hj)⟩
 have hkeep:=hH.keep hm
 refine⟨⟨fun b hb=>by rw[hsz];exact hm.vlt b hb,fun j hj=>hm.dom j ((hne j).1 hj),fun j hj=>by rw[hsz];exact hm.lt j hj,fun j l hj hl=>hm.inj j l ((hne j).1 hj) ((hne l).1 hl),fun j hj=>hm.clr j ((hne j).1 hj),fun j U' cs' hj=>?_⟩,hH⟩
 have hj:(if j=k then some (U,cs) else Hv j)=some (U',cs'):=hj
 by_cases e:j=k
 ·subst e
  rw[if_pos rfl] at hj
  injection hj with hj
  injection hj with h1 h2
  subst h1 h2
  exact⟨vs,by rw[hh];simp[hbk],hz,hl,hr.mono hkeep (fun _ h=>h) (fun _ _=>rfl)⟩
 ·rw[if_neg e] at hj
  obtain⟨vs',e1,e2,e3,e4⟩:=hm.box j U' cs' hj
  refine⟨vs',(hoth _ (fun q=>e (hm.inj j k (by rw[hj];simp) (by rw[hk];simp) q))).trans e1,e2,e3,e4.mono hkeep (fun _ h=>h) (fun _ _=>rfl)⟩
theorem Te (hT:gW (TS m L T)) (hO:fS H) (hL:fZ N H) {U:TypeId}{q:Bool}{n:Nat}{y z:Operand}{xo yo:XO}{x:XV}(hU:kO P U=some (q,n)) (hc:cO m y=some xo) (hc2:cO m z=some yo)
 (h:PX n xo yo call L T N H=some (.mk x N' H' g)):eP P ops ⟨dst,.store U y z,ty,pos,af,gd⟩ (TS m L T) N H x N' H' g:=by
 obtain⟨v,hv,h⟩:=aK h
 obtain⟨v2,hv2,h⟩:=aK h
 obtain⟨k,off,q1,h⟩:=kg h
 subst q1
 obtain⟨b,hb,h⟩:=aK h
 obtain⟨n',d,hrp,h⟩:=vN h
 obtain⟨hn,h⟩:=bp h
 obtain⟨hle,h⟩:=bp h
 have hn:=Nat.eq_of_beq_eq_true hn
 subst hn
 rw[dt] at hle
 injection h with h
 injection h with h1 h2 h3 h4
 subst h1 h2 h3 h4
 obtain⟨hb1,hb2⟩:=hO k b hb
 obtain⟨hd1,hd2⟩:=EZ (nc hT hc2 hv2) hrp
 obtain⟨g1,g2⟩:=nZ hd1 b.r b.n off n' hb1 hb2 hd2 hle
 have hle':off+n'≤b.r.flat.length:=by rw[←hb2];exact hle
 have hlen:b.n=(iw d b.r b.n off n').flat.length:=by rw[g2,hb2];simp;omega
 have hf:Foot N N H (H.set ⟨b.U,b.n,iw d b.r b.n off n'⟩ k) (jv H k) (fun j=>if j=k then some (b.U,(iw d b.r b.n off n').flat) else jv H k j) (.w k):=⟨fun j hj=>⟨if_neg hj,(if_neg hj).trans (if_neg hj)⟩,rfl⟩
 have hkk:=kH hb
 refine⟨Nat.le_refl _,trivial,jp hO g1 hlen,jo hL (Nat.le_refl _) (hL k b hb),jv H k,fun j=>if j=k then some (b.U,(iw d b.r b.n off n').flat) else jv H k j,?_,fun j c h=>tV h,fun j c hj=>?_,hf⟩
 ·intro V A β a w _ hm ht
  obtain⟨e1,hk⟩:=RdA.p_eq (aT (o:=⟨dst,.store U y z,ty,pos,af,gd⟩) (by simp[Op.operands]) hc hv ht)
  have hcl:=tv (aT (o:=⟨dst,.store U y z,ty,pos,af,gd⟩) (by simp[Op.operands]) hc2 hv2 ht) hrp
  obtain⟨vs,ev,hz,hl,hr⟩:=hm.box k b.U b.r.flat (nP.trans hkk)
  obtain⟨_,hsz⟩:=jz hU w
  have hl2:(a.eval z).cells.size=n':=by rw[hd2,←hcl.1];simp
  have hst:=run_storeCells_at (P:=P) (β k).b off b.U (a.eval z).cells.toList 0 vs w ev (by simp;omega) hcl.one
  have hrun:(execOp a.eval ⟨dst,.store U y z,ty,pos,af,gd⟩).run P w=.ok .skip (w.setRow (β k).b (vs.toList.take (off+0)++(a.eval z).cells.toList++vs.toList.drop (off+0+(a.eval z).cells.toList.length)).toArray):=by
   simp only[execOp,Instr.storeAt,e1,Instr.sureAddr,storeVar,Sem.run_bind,Sem.run_pure,Result.andThen_ok,hsz]
   rw[if_neg (by simp[hl2])]
   rw[hst]
   rfl
  unfold Gives
  rw[hrun]
  have el:(a.eval z).cells.toList.length=n':=by simpa using hl2
  simp only[Nat.add_zero,el]
  obtain⟨m1,m2⟩:=nU (N:=N) (cs:=(iw d b.r b.n off n').flat) hm (nP.trans hkk) (vs:=(vs.toList.take off++(a.eval z).cells.toList++vs.toList.drop (off+n')).toArray) (by simp;omega) (eZ ev) rfl rfl rfl
   (by rw[←hlen,hb2];simp;omega) (by
    rw[←hlen,g2]
    have hw:=RdAs.append (RdAs.append (hr.take off) hcl) (hr.drop (off+n'))
    have e3:(vs.toList.take b.r.flat.length).take off=vs.toList.take off:=by rw[List.take_take,Nat.min_eq_left (by omega)]
    rw[e3] at hw
    have e4:((vs.toList.take off++(a.eval z).cells.toList++vs.toList.drop (off+n')).toArray).toList.take b.n=vs.toList.take off++(a.eval z).cells.toList++(vs.toList.take b.r.flat.length).drop (off+n'):=by
     show(vs.toList.take off++(a.eval z).cells.toList++vs.toList.drop (off+n')).take b.n=_
     rw[List.take_append,List.take_of_length_le (l:=vs.toList.take off++(a.eval z).cells.toList) (by simp;omega),List.drop_take]
     congr 2
     simp;omega
    rw[e4];exact hw)
  exact⟨A,β,fun _ h=>h,fun _ h=>.inl h,m1,m2,rfl⟩
 ·show e8 (HS H) (jv H k) (fun j=>if j=k then some (b.U,(iw d b.r b.n off n').flat) else jv H k j) j=some c
  unfold e8
  rcases jE hj with⟨e,hc⟩|⟨e,hc⟩
  ·show(match (if j=k then some (b.U,(iw d b.r b.n off n').flat) else jv H k j),jv H k j with|some c,_=>some c|none,some _=>none|none,none=>HS H j)=some c
   rw[if_pos e,hc]
  ·show(match (if j=k then some (b.U,(iw d b.r b.n off n').flat) else jv H k j),jv H k j with|some c,_=>some c|none,some _=>none|none,none=>HS H j)=some c
   rw[if_neg e,show jv H k j=none from if_neg e];exact hc
end
end Go.Proofs.YtacopbfkmnpfgaaGreat
