/- A run on known values: the run, in terms that are cheap to compute. -/
import Derived.Test.YthhhlpdbainlaaaGreatTaO
namespace Go.Proofs.YthhhlpdbainlaaaGreat
open Go Go.RowKit
section
variable {α β : Type}
noncomputable def oO (x : Option α) (f : α → Option β) : Option β := @Option.rec α (fun _ => Option β) none f x
noncomputable def bT (b : Bool) (x : Option β) : Option β := @Bool.rec (fun _ => Option β) none x b
noncomputable def bI (b : Bool) (x y : β) : β := @Bool.rec (fun _ => β) y x b
end
noncomputable def bA (a b : Bool) : Bool := @Bool.rec (fun _ => Bool) false b a
inductive Tr (α : Type) where
  | e
  | n (l : Tr α) (v : Option α) (r : Tr α)
section
variable {α : Type}
noncomputable def Tr.get (t : Tr α) : Nat → Option α :=
  @Tr.rec α (fun _ => Nat → Option α) (fun _ => none) (fun _ v _ gl gr k => @Bool.rec (fun _ => Option α) (@Bool.rec (fun _ => Option α) (gr (Nat.div k 2)) (gl (Nat.div k 2)) (Nat.beq (Nat.mod k 2) 1)) v (Nat.beq k 0)) t
noncomputable def Tr.one (v : α) (f : Nat) : Nat → Tr α :=
  @Nat.rec (fun _ => Nat → Tr α) (fun _ => .e) (fun _ ih k => @Bool.rec (fun _ => Tr α) (@Bool.rec (fun _ => Tr α) (.n .e none (ih (Nat.div k 2))) (.n (ih (Nat.div k 2)) none .e) (Nat.beq (Nat.mod k 2) 1)) (.n .e (some v) .e) (Nat.beq k 0)) f
noncomputable def Tr.set (t : Tr α) (v : α) : Nat → Tr α :=
  @Tr.rec α (fun _ => Nat → Tr α) (fun k => Tr.one v 40 k) (fun l o r sl sr k => @Bool.rec (fun _ => Tr α) (@Bool.rec (fun _ => Tr α) (.n l o (sr (Nat.div k 2))) (.n (sl (Nat.div k 2)) o r) (Nat.beq (Nat.mod k 2) 1)) (.n l (some v) r) (Nat.beq k 0)) t
noncomputable def Tr.del (t : Tr α) : Nat → Tr α :=
  @Tr.rec α (fun _ => Nat → Tr α) (fun _ => .e) (fun l o r sl sr k => @Bool.rec (fun _ => Tr α) (@Bool.rec (fun _ => Tr α) (.n l o (sr (Nat.div k 2))) (.n (sl (Nat.div k 2)) o r) (Nat.beq (Nat.mod k 2) 1)) (.n l none r) (Nat.beq k 0)) t
end
noncomputable def puA (x : AV) : Bool := @AV.rec (fun _ => Bool) (fun _ => true) (fun _ _ => true) (fun _ => true) (fun _ _ => false) (fun _ _ _ _ _ _ => false) true true true (fun _ => true) (fun _ _ _ _ => false) x
noncomputable def puR (r : Rp) : Bool := @Rp.rec (fun _ => Bool) true puA (fun _ pu _ _ _ _ => pu) r
noncomputable def mkN (ls : Nat) (l r : Rp) : Rp := .n ls (bA (puR l) (puR r)) l r
noncomputable def joinR (ls : Nat) (l r : Rp) : Rp := @Rp.rec (fun _ => Rp) r (fun _ => @Rp.rec (fun _ => Rp) l (fun _ => mkN ls l r) (fun _ _ _ _ _ _ => mkN ls l r) r) (fun _ _ _ _ _ _ => @Rp.rec (fun _ => Rp) l (fun _ => mkN ls l r) (fun _ _ _ _ _ _ => mkN ls l r) r) l
noncomputable def subR (r : Rp) : Nat → Nat → Nat → Rp :=
  @Rp.rec (fun _ => Nat → Nat → Nat → Rp) (fun _ _ _ => .e) (fun x _ _ n => bI (Nat.beq n 0) .e (.c x))
    (fun ls pu l r sl sr tot off n => bI (Nat.beq n tot) (.n ls pu l r) (bI (Nat.ble (Nat.add off n) ls) (sl ls off n) (bI (Nat.ble ls off) (sr (Nat.sub tot ls) (Nat.sub off ls) n)
      (joinR (Nat.sub ls off) (sl ls off (Nat.sub ls off)) (sr (Nat.sub tot ls) 0 (Nat.sub (Nat.add off n) ls)))))) r
noncomputable def updR (d r : Rp) : Nat → Nat → Nat → Rp :=
  @Rp.rec (fun _ => Nat → Nat → Nat → Rp) (fun _ _ _ => .e) (fun x _ _ n => bI (Nat.beq n 0) (.c x) d)
    (fun ls _ l r ul ur tot off n => bI (Nat.beq n tot) d (bI (Nat.ble (Nat.add off n) ls) (mkN ls (ul ls off n) r) (bI (Nat.ble ls off) (mkN ls l (ur (Nat.sub tot ls) (Nat.sub off ls) n))
      (joinR off (subR l ls 0 off) (joinR n d (subR r (Nat.sub tot ls) (Nat.sub (Nat.add off n) ls) (Nat.sub tot (Nat.add off n)))))))) r
noncomputable def idxR (r : Rp) : Nat → Option AV :=
  @Rp.rec (fun _ => Nat → Option AV) (fun _ => none) (fun x off => @Bool.rec (fun _ => Option AV) none (some x) (Nat.beq off 0)) (fun ls _ _ _ gl gr off => @Bool.rec (fun _ => Option AV) (gr (Nat.sub off ls)) (gl off) (Nat.blt off ls)) r
noncomputable def ofL (l : List AV) : Rp := @List.rec AV (fun _ => Rp) .e (fun x _ ih => joinR 1 (.c x) ih) l
noncomputable def repR (m : Nat) (z : Rp) (n : Nat) : Rp := @Nat.rec (fun _ => Rp) .e (fun _ ih => joinR m z ih) n
structure Bx where
  U : TypeId
  n : Nat
  r : Rp
inductive Lg where
  | p
  | r (k : Nat)
  | w (k : Nat)
  | nw (k : Nat)
  | c (H H' : Tr Bx)
inductive Rs where
  | mk (x : XV) (N : Nat) (H : Tr Bx) (g : Lg)
inductive Ro where
  | no
  | n (T : Tr XV) (N : Nat) (H : Tr Bx)
  | x (id : Nat) (T : Tr XV) (N : Nat) (H : Tr Bx)
  | r (T : Tr XV) (N : Nat) (H : Tr Bx)
inductive Cr where
  | no
  | p (x : XV)
  | h (x : XV) (N : Nat) (H : Tr Bx)
abbrev CallX := FuncId → List XV → Nat → Tr Bx → Cr
abbrev LX := List (Nat × XV)
abbrev OpK := CallX → LX → Tr XV → Nat → Tr Bx → Option Rs
abbrev RunK := CallX → Nat → Tr XV → Nat → Tr Bx → Ro
inductive XO where
  | l (n : Nat)
  | t (n : Nat)
  | k (x : XV)
noncomputable def lookA (t : Nat) (l : LX) : Option XV := @List.rec (Nat × XV) (fun _ => Option XV) none (fun p _ ih => @Bool.rec (fun _ => Option XV) ih (some p.2) (Nat.beq p.1 t)) l
noncomputable def XO.get (x : XO) (L : LX) (T : Tr XV) : Option XV := @XO.rec (fun _ => Option XV) (fun n => lookA n L) (fun n => T.get n) (fun v => some v) x
noncomputable def getL (xs : List XO) (L : LX) (T : Tr XV) : Option (List XV) := @List.rec XO (fun _ => Option (List XV)) (some []) (fun x _ ih => oO (x.get L T) fun v => oO ih fun vs => some (v :: vs)) xs
section
variable {β : Type}
noncomputable def xC (x : XV) (f : AV → Option β) : Option β := @XV.rec (fun _ => Option β) f (fun _ _ => none) (fun _ => none) none x
noncomputable def xA (x : XV) (f : Nat → Rp → Option β) : Option β := @XV.rec (fun _ => Option β) (fun _ => none) f (fun _ => none) none x
noncomputable def xT (x : XV) (f : List XD → Option β) : Option β := @XV.rec (fun _ => Option β) (fun _ => none) (fun _ _ => none) f none x
noncomputable def aB (x : AV) (f : Bool → Option β) : Option β := @AV.rec (fun _ => Option β) f (fun _ _ => none) (fun _ => none) (fun _ _ => none) (fun _ _ _ _ _ _ => none) none none none (fun _ => none) (fun _ _ _ _ => none) x
noncomputable def aI (x : AV) (f : IntKind → Int → Option β) : Option β := @AV.rec (fun _ => Option β) (fun _ => none) f (fun _ => none) (fun _ _ => none) (fun _ _ _ _ _ _ => none) none none none (fun _ => none) (fun _ _ _ _ => none) x
noncomputable def aP (x : AV) (f : Nat → Nat → Option β) : Option β := @AV.rec (fun _ => Option β) (fun _ => none) (fun _ _ => none) (fun _ => none) f (fun _ _ _ _ _ _ => none) none none none (fun _ => none) (fun _ _ _ _ => none) x
noncomputable def aS (x : AV) (f : Nat → Nat → Nat → Nat → Bool → Nat → Option β) (z ev : Option β) : Option β := @AV.rec (fun _ => Option β) (fun _ => none) (fun _ _ => none) (fun _ => none) (fun _ _ => none) f z ev none (fun _ => none) (fun _ _ _ _ => none) x
noncomputable def xnI (i : Int) (f : Nat → Option β) : Option β := @Int.rec (fun _ => Option β) f (fun _ => none) i
end
noncomputable def xB {β : Type} (x : XV) (f : Bool → Option β) : Option β := xC x fun a => aB a f
noncomputable def xI {β : Type} (x : XV) (f : IntKind → Int → Option β) : Option β := xC x fun a => aI a f
noncomputable def xP {β : Type} (x : XV) (f : Nat → Nat → Option β) : Option β := xC x fun a => aP a f
noncomputable def xN {β : Type} (x : XV) (f : Nat → Option β) : Option β := xI x fun _ i => xnI i f
noncomputable def xD {β : Type} (x : XV) (f : Nat → Rp → Option β) : Option β := @XV.rec (fun _ => Option β) (fun a => f 1 (.c a)) f (fun _ => none) none x
noncomputable def kN (k : IntKind) : Nat := @IntKind.rec (fun _ => Nat) 0 1 2 3 4 5 6 7 k
noncomputable def ltI (x y : Int) : Bool := @Int.rec (fun _ => Bool) (fun _ => false) (fun _ => true) (Int.sub x y)
noncomputable def eqI (x y : Int) : Bool := @Int.rec (fun _ => Bool) (fun n => Nat.beq n 0) (fun _ => false) (Int.sub x y)
noncomputable def wrapF (k : IntKind) (n : Int) : Int := bI (Nat.beq (kN k) 3) (bI (Nat.blt n.natAbs 9223372036854775808) n (k.wrap n)) (k.wrap n)
noncomputable def pR (x : XV) (N : Nat) (H : Tr Bx) : Option Rs := some (.mk x N H .p)
noncomputable def opMv (x : XO) : OpK := fun _ L T N H => oO (x.get L T) fun v => pR v N H
noncomputable def opPick (c a b : XO) : OpK := fun _ L T N H => oO (c.get L T) fun c => xB c fun t => oO (bI t (a.get L T) (b.get L T)) fun v => pR v N H
noncomputable def nwB (x : XV) (U n : Nat) (r : Rp) (N : Nat) (H : Tr Bx) : Option Rs := some (.mk x (Nat.succ N) (H.set ⟨U, n, r⟩ N) (.nw N))
noncomputable def opAlloc (U n : Nat) (z : Rp) : OpK := fun _ _ _ N H => nwB (.c (.p N 0)) U n z N H
noncomputable def opBox (U : Nat) (x : XO) : OpK := fun _ L T N H => oO (x.get L T) fun v => xD v fun n r => nwB (.c (.p N 0)) U n r N H
noncomputable def fillR (L : LX) (T : Tr XV) (tot : Nat) (ps : List (Nat × Nat × XO)) : Rp → Option Rp :=
  @List.rec (Nat × Nat × XO) (fun _ => Rp → Option Rp) (fun r => some r) (fun p _ ih r => oO (p.2.2.get L T) fun v => xD v fun n d => bT (Nat.beq n p.2.1) (bT (Nat.ble (Nat.add p.1 n) tot) (ih (updR d r tot p.1 n)))) ps
noncomputable def opBuild (tot : Nat) (z : Rp) (ps : List (Nat × Nat × XO)) : OpK := fun _ L T N H => oO (fillR L T tot ps z) fun r => pR (.a tot r) N H
noncomputable def opBsl (e n m : Nat) (z : Rp) (ps : List (Nat × Nat × XO)) : OpK := fun _ L T N H => oO (fillR L T (Nat.mul n m) ps z) fun r => nwB (.c (.s N 0 n n true m)) e (Nat.mul n m) r N H
noncomputable def rdB (H : Tr Bx) (x : XV) (f : Nat → Nat → Bx → Option Rs) : Option Rs := xP x fun k off => oO (H.get k) fun b => f k off b
noncomputable def opLda (n : Nat) (x : XO) : OpK := fun _ L T N H => oO (x.get L T) fun v => rdB H v fun k off b => bT (Nat.ble (Nat.add off n) b.n) (some (.mk (.a n (subR b.r b.n off n)) N H (.r k)))
noncomputable def opLd1 (x : XO) : OpK := fun _ L T N H => oO (x.get L T) fun v => rdB H v fun k off b => oO (idxR b.r off) fun a => some (.mk (.c a) N H (.r k))
noncomputable def opSt (n : Nat) (a x : XO) : OpK := fun _ L T N H => oO (a.get L T) fun v => oO (x.get L T) fun y => rdB H v fun k off b => xD y fun m d => bT (Nat.beq m n) (bT (Nat.ble (Nat.add off n) b.n)
  (some (.mk .u N (H.set ⟨b.U, b.n, updR d b.r b.n off n⟩ k) (.w k))))
noncomputable def opNilc (x : XO) : OpK := fun _ L T N H => oO (x.get L T) fun v => xP v fun k off => pR (.c (.p k off)) N H
noncomputable def opBin (f : IntKind → Int → Int → Option AV) (x y : XO) : OpK := fun _ L T N H => oO (x.get L T) fun v => oO (y.get L T) fun y2 => xI v fun k a => xI y2 fun k' b => bT (Nat.beq (kN k) (kN k')) (oO (f k a b) fun r => pR (.c r) N H)
noncomputable def opShf (f : IntKind → Int → Int → Option AV) (x y : XO) : OpK := fun _ L T N H => oO (x.get L T) fun v => oO (y.get L T) fun y2 => xI v fun k a => xI y2 fun _ b => oO (f k a b) fun r => pR (.c r) N H
noncomputable def opBeq (ne : Bool) (x y : XO) : OpK := fun _ L T N H => oO (x.get L T) fun v => oO (y.get L T) fun y2 => xB v fun a => xB y2 fun b => pR (.c (.b (bI ne (!(a == b)) (a == b)))) N H
noncomputable def opEqn (ne : Bool) (x : XO) : OpK := fun _ L T N H => oO (x.get L T) fun v => xC v fun a => aS a (fun _ _ _ _ _ _ => pR (.c (.b ne)) N H) (pR (.c (.b (!ne))) N H) none
noncomputable def opSidx (s : ByteArray) (i : XO) : OpK := fun _ L T N H => oO (i.get L T) fun v => xN v fun j => oO s.data.toList[j]? fun b => pR (.c (.i .u8 b.toNat)) N H
noncomputable def opNot (x : XO) : OpK := fun _ L T N H => oO (x.get L T) fun v => xB v fun a => pR (.c (.b (bI a false true))) N H
noncomputable def opNeg (x : XO) : OpK := fun _ L T N H => oO (x.get L T) fun v => xI v fun k a => pR (.c (.i k (wrapF k (0 - a)))) N H
noncomputable def opConv (k : IntKind) (x : XO) : OpK := fun _ L T N H => oO (x.get L T) fun v => xI v fun _ a => pR (.c (.i k (wrapF k a))) N H
noncomputable def capF (g : FuncId) (vs : List XV) : Option AV := @List.rec XV (fun _ => Option AV) (some (.f0 g)) (fun v _ ih => xC v fun a => oO ih fun y => some (.fc a y)) vs
noncomputable def opMkf (g : FuncId) (xs : List XO) : OpK := fun _ L T N H => oO (getL xs L T) fun vs => oO (capF g vs) fun y => pR (.c y) N H
noncomputable def opMks (e m by_ : Nat) (z : Rp) (n c : XO) : OpK := fun _ L T N H => oO (n.get L T) fun v => oO (c.get L T) fun y2 => xN v fun a => xN y2 fun b => bT (Nat.ble a b) (bT (Nat.ble (Nat.mul b by_) 140737488355328) (bT (Nat.ble b 100000)
  (nwB (.c (.s N 0 a b true m)) e (Nat.mul b m) (repR m z b) N H)))
noncomputable def getOo (L : LX) (T : Tr XV) (d : Nat) (x : Option XO) : Option Nat := @Option.rec XO (fun _ => Option Nat) (some d) (fun x => oO (x.get L T) fun v => xN v some) x
noncomputable def slcX (m k off lo : Nat) (ex : Bool) (l h : Nat) : Option AV := bT (Nat.ble l h) (bT (Nat.ble h lo) (bI (Nat.blt l lo) (some (.s k (Nat.add off (Nat.mul l m)) (Nat.sub h l) (Nat.sub lo l) ex m)) (bI ex (some (.s k off 0 0 true m)) (some .ev))))
noncomputable def slcM (m k off lo : Nat) (l h M : Nat) : Option AV := bT (Nat.ble l h) (bT (Nat.ble h M) (bT (Nat.ble M lo) (bI (Nat.blt l M) (some (.s k (Nat.add off (Nat.mul l m)) (Nat.sub h l) (Nat.sub M l) true m)) (some (.s k off 0 0 true m)))))
noncomputable def opSlc (m : Nat) (x : XO) (lo hi : Option XO) : OpK := fun _ L T N H => oO (x.get L T) fun v => xC v fun a => aS a
  (fun k off n lo' ex m' => oO (getOo L T 0 lo) fun l => oO (getOo L T n hi) fun h => bT (Nat.beq m m') (oO (slcX m k off lo' ex l h) fun r => pR (.c r) N H))
  (oO (getOo L T 0 lo) fun l => oO (getOo L T 0 hi) fun h => bT (Nat.beq l 0) (bT (Nat.beq h 0) (pR (.c .z) N H))) none
noncomputable def opSl3 (m : Nat) (x : XO) (lo : Option XO) (hi mx : XO) : OpK := fun _ L T N H => oO (x.get L T) fun v => xC v fun a => aS a
  (fun k off _ lo' _ m' => oO (getOo L T 0 lo) fun l => oO (getOo L T 0 (some hi)) fun h => oO (getOo L T 0 (some mx)) fun M => bT (Nat.beq m m') (oO (slcM m k off lo' l h M) fun r => pR (.c r) N H)) none none
noncomputable def opFa (o' : Nat) (x : XO) : OpK := fun _ L T N H => oO (x.get L T) fun v => xP v fun k off => pR (.c (.p k (Nat.add off o'))) N H
noncomputable def opFld (o' n : Nat) (x : XO) : OpK := fun _ L T N H => oO (x.get L T) fun v => xA v fun tot r => bT (Nat.ble (Nat.add o' n) tot) (pR (.a n (subR r tot o' n)) N H)
noncomputable def opFl1 (o' : Nat) (x : XO) : OpK := fun _ L T N H => oO (x.get L T) fun v => xA v fun _ r => oO (idxR r o') fun a => pR (.c a) N H
noncomputable def opIa (m : Nat) (x i : XO) : OpK := fun _ L T N H => oO (x.get L T) fun v => oO (i.get L T) fun y2 => xC v fun a => xN y2 fun j => aS a (fun k off n _ _ m' => bT (Nat.blt j n) (bT (Nat.beq m m') (pR (.c (.p k (Nat.add off (Nat.mul j m)))) N H))) none none
noncomputable def opIar (n m : Nat) (x i : XO) : OpK := fun _ L T N H => oO (x.get L T) fun v => oO (i.get L T) fun y2 => xP v fun k off => xN y2 fun j => bT (Nat.blt j n) (pR (.c (.p k (Nat.add off (Nat.mul j m)))) N H)
noncomputable def ofD (d : XD) : XV := @XD.rec (fun _ => XV) (fun x => .c x) (fun n r => .a n r) d
noncomputable def nthD (ds : List XD) : Nat → Option XD := @List.rec XD (fun _ => Nat → Option XD) (fun _ => none) (fun d _ ih i => @Bool.rec (fun _ => Option XD) (ih (Nat.pred i)) (some d) (Nat.beq i 0)) ds
noncomputable def opExt (x : XO) (i : Nat) : OpK := fun _ L T N H => oO (x.get L T) fun v => xT v fun ds => oO (nthD ds i) fun d => pR (ofD d) N H
noncomputable def fnX (y : AV) : List XV → (FuncId → List XV → Option Rs) → Option Rs :=
  @AV.rec (fun _ => List XV → (FuncId → List XV → Option Rs) → Option Rs) (fun _ _ _ => none) (fun _ _ _ _ => none) (fun _ _ _ => none) (fun _ _ _ _ => none) (fun _ _ _ _ _ _ _ _ => none) (fun _ _ => none) (fun _ _ => none) (fun _ _ => none)
    (fun g acc f => f g acc.reverse) (fun x _ _ ihy acc f => ihy (.c x :: acc) f) y
noncomputable def crR (H : Tr Bx) (N : Nat) (r : Cr) : Option Rs := @Cr.rec (fun _ => Option Rs) none (fun x => some (.mk x N H .p)) (fun x N' H' => some (.mk x N' H' (.c H H'))) r
noncomputable def opCall (g : FuncId) (xs : List XO) : OpK := fun call L T N H => oO (getL xs L T) fun vs => crR H N (call g vs N H)
noncomputable def opCalv (f : XO) (xs : List XO) : OpK := fun call L T N H => oO (f.get L T) fun v => xC v fun y => oO (getL xs L T) fun vs => fnX y vs.reverse fun g vs' => crR H N (call g vs' N H)
noncomputable def opLen (x : XO) : OpK := fun _ L T N H => oO (x.get L T) fun v => xC v fun a => aS a (fun _ _ n _ _ _ => pR (.c (.i .i64 (.ofNat n))) N H) (pR (.c (.i .i64 (.ofNat 0))) N H) (pR (.c (.i .i64 (.ofNat 0))) N H)
noncomputable def srcX (H : Tr Bx) (e m : Nat) (y : AV) (f : Nat → Rp → Option Rs) : Option Rs :=
  aS y (fun k off q _ _ m' => oO (H.get k) fun b => bT (Nat.beq b.U e) (bT (Nat.beq m m') (bT (Nat.ble (Nat.add off (Nat.mul q m)) b.n) (f q (subR b.r b.n off (Nat.mul q m)))))) (f 0 .e) (f 0 .e)
noncomputable def csR (x : XV) (N : Nat) (H H' : Tr Bx) : Option Rs := some (.mk x N H' (.c H H'))
noncomputable def appZ (e m by_ : Nat) (N : Nat) (H : Tr Bx) (q : Nat) (ys : Rp) : Option Rs := bT (Nat.ble (Nat.mul q by_) 140737488355328) (bT (Nat.ble q 1000000) (csR (.c (.s N 0 q q false m)) (Nat.succ N) H (H.set ⟨e, Nat.mul q m, ys⟩ N)))
noncomputable def appS (e m by_ : Nat) (N : Nat) (H : Tr Bx) (q : Nat) (ys : Rp) (k off n lo : Nat) (ex : Bool) (m' : Nat) : Option Rs :=
  oO (H.get k) fun b => bT (Nat.beq b.U e) (bT (Nat.beq m m') (bT (Nat.ble (Nat.mul (Nat.add n q) by_) 140737488355328) (bT (Nat.ble (Nat.add n q) 1000000) (bT (Nat.ble (Nat.add off (Nat.mul n m)) b.n)
    (bI (Nat.ble (Nat.add n q) lo)
      (bI (Nat.ble (Nat.add off (Nat.mul (Nat.add n q) m)) b.n)
        (csR (.c (.s k off (Nat.add n q) lo ex m)) N H (H.set ⟨e, b.n, updR ys b.r b.n (Nat.add off (Nat.mul n m)) (Nat.mul q m)⟩ k))
        (csR (.c (.s k off (Nat.add n q) lo ex m)) N H (H.set ⟨e, Nat.add off (Nat.mul (Nat.add n q) m), joinR (Nat.add off (Nat.mul n m)) (subR b.r b.n 0 (Nat.add off (Nat.mul n m))) ys⟩ k)))
      (bI ex
        (csR (.c (.s N 0 (Nat.add n q) (Nat.add n q) false m)) (Nat.succ N) H (H.set ⟨e, Nat.mul (Nat.add n q) m, joinR (Nat.mul n m) (subR b.r b.n off (Nat.mul n m)) ys⟩ N))
        (bT (Nat.beq off 0) (csR (.c (.s N 0 (Nat.add n q) (Nat.add n q) false m)) (Nat.succ N) H ((H.del k).set ⟨e, Nat.mul (Nat.add n q) m, joinR (Nat.mul n m) (subR b.r b.n 0 (Nat.mul n m)) ys⟩ N)))))))))
noncomputable def opApp (e m by_ : Nat) (x y : XO) : OpK := fun _ L T N H => oO (x.get L T) fun v => oO (y.get L T) fun y2 => xC v fun a => xC y2 fun b => srcX H e m b fun q ys => bI (Nat.beq q 0)
  (aS a (fun k off n lo ex m' => pR (.c (.s k off n lo ex m')) N H) (pR (.c .z) N H) none)
  (aS a (fun k off n lo ex m' => appS e m by_ N H q ys k off n lo ex m') (appZ e m by_ N H q ys) none)
noncomputable def mmX (mx : Bool) (k : IntKind) (vs : List XV) : Int → Option Int :=
  @List.rec XV (fun _ => Int → Option Int) (fun a => some a) (fun v _ ih a => xI v fun k' b => bT (Nat.beq (kN k) (kN k')) (ih (bI mx (bI (ltI a b) b a) (bI (ltI b a) b a)))) vs
noncomputable def opMm (mx : Bool) (x : XO) (xs : List XO) : OpK := fun _ L T N H => oO (x.get L T) fun v => xI v fun k a => oO (getL xs L T) fun vs => oO (mmX mx k vs a) fun r => pR (.c (.i k r)) N H
noncomputable def opBad : OpK := fun _ _ _ _ _ => none
noncomputable def opCap (x : XO) : OpK := fun _ L T N H => oO (x.get L T) fun v => xC v fun a => aS a (fun _ _ _ lo ex _ => bT ex (pR (.c (.i .i64 (.ofNat lo))) N H)) (pR (.c (.i .i64 (.ofNat 0))) N H) none
noncomputable def opApz (e m by_ : Nat) (z : Rp) (x n : XO) : OpK := fun _ L T N H => oO (x.get L T) fun v => oO (n.get L T) fun y2 => xC v fun a => xN y2 fun q => aS a (fun _ _ _ _ _ _ => none)
  (bT (Nat.blt 0 q) (bT (Nat.ble (Nat.mul q by_) 140737488355328) (bT (Nat.ble q 1000000) (csR (.c (.s N 0 q q false m)) (Nat.succ N) H (H.set ⟨e, Nat.mul q m, repR m z q⟩ N))))) none
noncomputable def opClr (m : Nat) (z : Rp) (x : XO) : OpK := fun _ L T N H => oO (x.get L T) fun v => xC v fun a => aS a
  (fun k off n _ _ m' => bI (Nat.beq n 0) (pR (.t []) N H) (oO (H.get k) fun b => bT (Nat.beq m m') (bT (Nat.ble (Nat.add off (Nat.mul n m)) b.n) (csR (.t []) N H (H.set ⟨b.U, b.n, updR (repR m z n) b.r b.n off (Nat.mul n m)⟩ k)))))
  (pR (.t []) N H) (pR (.t []) N H)
structure XI where
  dst : Option Nat
  lo : Bool
  g : Option (XO × Bool)
  k : OpK
noncomputable def setD (d : Option Nat) (lo : Bool) (x : XV) (L : LX) (T : Tr XV) (κ : LX → Tr XV → Ro) : Ro :=
  @Option.rec Nat (fun _ => Ro) (κ L T) (fun d => @Bool.rec (fun _ => Ro) (κ L (T.set x d)) (κ ((d, x) :: L) T) lo) d
noncomputable def gdX (g : Option (XO × Bool)) (L : LX) (T : Tr XV) : Option Bool :=
  @Option.rec (XO × Bool) (fun _ => Option Bool) (some true) (fun p => oO (p.1.get L T) fun v => @XV.rec (fun _ => Option Bool) (fun a => aB a fun b => some (b == p.2)) (fun _ _ => none) (fun _ => none) (some false) v) g
noncomputable def opG (call : CallX) (i : XI) (L : LX) (T : Tr XV) (N : Nat) (H : Tr Bx) (κ : LX → Tr XV → Nat → Tr Bx → Lg → Ro) : Ro :=
  @Option.rec Bool (fun _ => Ro) .no (fun b => @Bool.rec (fun _ => Ro) (setD i.dst i.lo .u L T fun L T => κ L T N H .p)
    (@Option.rec Rs (fun _ => Ro) .no (fun r => @Rs.rec (fun _ => Ro) (fun x N' H' g => setD i.dst i.lo x L T fun L T => κ L T N' H' g) r) (i.k call L T N H)) b) (gdX i.g L T)
noncomputable def runL (call : CallX) (l : List XI) : LX → Tr XV → Nat → Tr Bx → Ro :=
  @List.rec XI (fun _ => LX → Tr XV → Nat → Tr Bx → Ro) (fun _ T N H => .n T N H) (fun i _ ih L T N H => opG call i L T N H fun L T N H _ => ih L T N H) l
def avEq : AV → AV → Bool
  | .b x, .b y => x == y
  | .i k x, .i k' y => decide (k = k') && x == y
  | .l x, .l y => Nat.beq x y
  | .p k o, .p k' o' => Nat.beq k k' && Nat.beq o o'
  | .s k o n l e m, .s k' o' n' l' e' m' => Nat.beq k k' && Nat.beq o o' && Nat.beq n n' && Nat.beq l l' && (e == e') && Nat.beq m m'
  | .z, .z => true
  | .np, .np => true
  | .f0 g, .f0 g' => Nat.beq g g'
  | .fc x y, .fc x' y' => avEq x x' && avEq y y'
  | _, _ => false
def rpEq : Rp → Rp → Bool
  | .e, .e => true
  | .c x, .c y => avEq x y
  | .n _ _ l r, .n _ _ l' r' => rpEq l l' && rpEq r r'
  | _, _ => false
def bxEq : Option Bx → Option Bx → Bool
  | none, none => true
  | some b, some b' => Nat.beq b.U b'.U && rpEq b.r b'.r
  | _, _ => false
noncomputable def noBx (H : Tr Bx) (k : Nat) : Bool := @Option.rec Bx (fun _ => Bool) true (fun _ => false) (H.get k)
noncomputable def apart : Lg → Lg → Bool
  | .p, _ => true
  | _, .p => true
  | .r _, .r _ => true
  | .r k, .w k' => !Nat.beq k k'
  | .w k', .r k => !Nat.beq k k'
  | .r k, .nw k' => !Nat.beq k k'
  | .nw k', .r k => !Nat.beq k k'
  | .r k, .c H H' => bxEq (H.get k) (H'.get k)
  | .c H H', .r k => bxEq (H.get k) (H'.get k)
  | .w k, .w k' => !Nat.beq k k'
  | .w k, .nw k' => !Nat.beq k k'
  | .nw k', .w k => !Nat.beq k k'
  | .nw k, .nw k' => !Nat.beq k k'
  | .c H H', .nw k => noBx H k && noBx H' k
  | .nw k, .c H H' => noBx H k && noBx H' k
  | .c H H', .w k => noBx H k && noBx H' k
  | .w k, .c H H' => noBx H k && noBx H' k
  | .c _ _, .c _ _ => false
abbrev LgL := List (Nat × Lg)
noncomputable def chkL (mk : Nat) (g : Lg) (l : LgL) : Bool := @List.rec (Nat × Lg) (fun _ => Bool) true (fun p _ ih => @Bool.rec (fun _ => Bool) (bA (apart p.2 g) ih) ih (Nat.testBit mk p.1)) l
noncomputable def hidM (mk : Nat) (l : LgL) : List Nat := @List.rec (Nat × Lg) (fun _ => List Nat) [] (fun p _ ih => @Bool.rec (fun _ => List Nat) (@Lg.rec (fun _ => List Nat) ih (fun _ => ih) (fun _ => ih) (fun k => k :: ih) (fun _ _ => ih) p.2) ih (Nat.testBit mk p.1)) l
noncomputable def delL (H : Tr Bx) : List Nat → Tr Bx
  | [] => H
  | k :: r => delL (H.del k) r
noncomputable def addL (H0 Hc : Tr Bx) : List Nat → Tr Bx → Option (Tr Bx)
  | [], H => some H
  | k :: r, H => match Hc.get k, H0.get k with
    | none, some b => addL H0 Hc r (H.set b k)
    | _, _ => none
structure XJ where
  i : XI
  cl : Bool
  bf : Nat
noncomputable def logB (mk k : Nat) (g : Lg) (lr lw : LgL) (κ : LgL → LgL → Ro) : Ro := bI (chkL mk g lw) (bI (chkL mk g lr) (κ lr ((k, g) :: lw)) .no) .no
noncomputable def logD (mk k : Nat) (g : Lg) (lr lw : LgL) (κ : LgL → LgL → Ro) : Ro :=
  @Lg.rec (fun _ => Ro) (κ lr lw) (fun b => bI (chkL mk (.r b) lw) (κ ((k, .r b) :: lr) lw) .no) (fun b => logB mk k (.w b) lr lw κ) (fun b => logB mk k (.nw b) lr lw κ) (fun H H' => logB mk k (.c H H') lr lw κ) g
noncomputable def isCL (g : Lg) : Bool := @Lg.rec (fun _ => Bool) true (fun _ => false) (fun _ => false) (fun _ => false) (fun _ _ => true) g
noncomputable def hidD (call : CallX) (i : XI) (hs : List Nat) (L : LX) (T : Tr XV) (N : Nat) (H : Tr Bx) (κ : LX → Tr XV → Nat → Tr Bx → Lg → Ro) : Ro :=
  @List.rec Nat (fun _ => Ro) (opG call i L T N H κ) (fun h t _ => opG call i L T N (delL H (h :: t)) fun L T N H' g => bI (isCL g) (@Option.rec (Tr Bx) (fun _ => Ro) .no (fun H2 => κ L T N H2 g) (addL H H' (h :: t) H')) .no) hs
noncomputable def runD (call : CallX) (l : List XJ) : Nat → LX → Tr XV → Nat → Tr Bx → LgL → LgL → Ro :=
  @List.rec XJ (fun _ => Nat → LX → Tr XV → Nat → Tr Bx → LgL → LgL → Ro) (fun _ _ T N H _ _ => .n T N H)
    (fun j _ ih k L T N H lr lw => hidD call j.i (@Bool.rec (fun _ => List Nat) [] (hidM j.bf lw) j.cl) L T N H fun L T N H g => logD j.bf k g lr lw fun lr lw => ih (Nat.succ k) L T N H lr lw) l
noncomputable def kSkip : RunK := fun _ _ T N H => .n T N H
noncomputable def kReg (l : List XI) : RunK := fun call _ T N H => runL call l [] T N H
noncomputable def kDrw (l : List XJ) : RunK := fun call _ T N H => runD call l 0 [] T N H [] []
noncomputable def kSeq (a b : RunK) : RunK := fun call f T N H => @Ro.rec (fun _ => Ro) .no (fun T N H => b call f T N H) (fun id T N H => .x id T N H) (fun T N H => .r T N H) (a call f T N H)
noncomputable def kCond (t : Nat) (a b : RunK) : RunK := fun call f T N H => @Option.rec Bool (fun _ => Ro) .no (fun v => @Bool.rec (fun _ => Ro) (b call f T N H) (a call f T N H) v) (oO (T.get t) fun v => xB v some)
noncomputable def kBlock (id : Nat) (c : RunK) : RunK := fun call f T N H => @Ro.rec (fun _ => Ro) .no (fun T N H => .n T N H) (fun id' T N H => @Bool.rec (fun _ => Ro) (.x id' T N H) (.n T N H) (Nat.beq id' id)) (fun T N H => .r T N H) (c call f T N H)
noncomputable def kLoop (c : RunK) : RunK := fun call f => @Nat.rec (fun _ => Tr XV → Nat → Tr Bx → Ro) (fun _ _ _ => .no) (fun _ ih T N H => @Ro.rec (fun _ => Ro) .no (fun T N H => ih T N H) (fun id T N H => .x id T N H) (fun T N H => .r T N H) (c call f T N H)) f
noncomputable def kExit (id : Nat) : RunK := fun _ _ T N H => .x id T N H
noncomputable def kRet : RunK := fun _ _ T N H => .r T N H
inductive XR where
  | t (n : Nat)
  | c (t n : Nat)
  | c1 (t : Nat)
structure XF where
  pure : Bool
  run : RunK
  rs : List XR
  na : Nat
noncomputable def toD (v : XV) : Option XD := @XV.rec (fun _ => Option XD) (fun x => some (.c x)) (fun n r => some (.a n r)) (fun _ => none) none v
noncomputable def res1 (T : Tr XV) (H : Tr Bx) (r : XR) : Option XD := @XR.rec (fun _ => Option XD) (fun n => oO (T.get n) toD)
  (fun t n => oO (T.get t) fun v => xP v fun k off => oO (H.get k) fun b => bT (Nat.ble (Nat.add off n) b.n) (some (.a n (subR b.r b.n off n))))
  (fun t => oO (T.get t) fun v => xP v fun k off => oO (H.get k) fun b => oO (idxR b.r off) fun a => some (.c a)) r
noncomputable def resL2 (T : Tr XV) (H : Tr Bx) (rs : List XR) : Option (List XD) := @List.rec XR (fun _ => Option (List XD)) (some []) (fun r _ ih => oO (res1 T H r) fun d => oO ih fun ds => some (d :: ds)) rs
noncomputable def joinX (ds : List XD) : XV := @List.rec XD (fun _ => XV) (.t []) (fun d r _ => @List.rec XD (fun _ => XV) (ofD d) (fun _ _ _ => .t (d :: r)) r) ds
noncomputable def argsTr (vs : List XV) : Nat → Tr XV → Tr XV := @List.rec XV (fun _ => Nat → Tr XV → Tr XV) (fun _ t => t) (fun v _ ih k t => ih (Nat.succ k) (t.set v k)) vs
noncomputable def puX (v : XV) : Bool := @XV.rec (fun _ => Bool) puA (fun _ r => puR r) (fun _ => false) false v
noncomputable def puL (vs : List XV) : Bool := @List.rec XV (fun _ => Bool) true (fun v _ ih => bA (puX v) ih) vs
noncomputable def puD (ds : List XD) : Bool := @List.rec XD (fun _ => Bool) true (fun d _ ih => bA (puX (ofD d)) ih) ds
structure Env where
  pr : Tr (List XV → Option (List XD))
  fs : Tr (Option XF)
noncomputable def lenB (vs : List XV) : Nat → Bool := @List.rec XV (fun _ => Nat → Bool) (fun _ => true) (fun _ _ ih n => @Nat.rec (fun _ => Bool) false (fun k _ => ih k) n) vs
noncomputable def endX (_F : XF) (κ : Tr XV → Nat → Tr Bx → Cr) (r : Ro) : Cr := @Ro.rec (fun _ => Cr) .no κ (fun _ _ _ _ => .no) κ r
noncomputable def callB (F : XF) (ih : CallX) (fuel : Nat) (vs : List XV) (N : Nat) (H : Tr Bx) : Cr :=
  @Bool.rec (fun _ => Cr) .no (@Bool.rec (fun _ => Cr)
    (endX F (fun T N' H' => @Option.rec (List XD) (fun _ => Cr) .no (fun ds => .h (joinX ds) N' H') (resL2 T H' F.rs)) (F.run ih fuel (argsTr vs 0 .e) N H))
    (endX F (fun T _ H' => @Option.rec (List XD) (fun _ => Cr) .no (fun ds => @Bool.rec (fun _ => Cr) .no (.p (joinX ds)) (puD ds)) (resL2 T H' F.rs)) (F.run ih fuel (argsTr vs 0 .e) 0 .e))
    (bA F.pure (puL vs))) (lenB vs F.na)
noncomputable def callX (E : Env) (fuel : Nat) (depth : Nat) : CallX :=
  @Nat.rec (fun _ => CallX) (fun _ _ _ _ => .no) (fun _ ih g vs N H =>
    @Option.rec (List XD) (fun _ => Cr) (@Option.rec XF (fun _ => Cr) .no (fun F => callB F ih fuel vs N H) (oO (E.fs.get g) fun x => x)) (fun ds => .p (joinX ds)) (oO (E.pr.get g) fun p => p vs)) depth
def allO {α β : Type} (f : α → Option β) : List α → Option (List β)
  | [] => some []
  | x :: xs => match f x with
    | none => none
    | some y => match allO f xs with
      | none => none
      | some ys => some (y :: ys)
def cellA : Value → Option AV
  | .bool b => some (.b b)
  | .int k n => some (.i k n)
  | .slice none 0 0 => some .z
  | .pointer none => some .np
  | _ => none
noncomputable def cstA : Value → Option XV
  | .agg cs => (allO cellA cs.toList).map fun l => .a l.length (ofL l)
  | v => (cellA v).map .c
def cstL : Value → Option (List AV)
  | .agg cs => allO cellA cs.toList
  | v => (cellA v).map fun x => [x]
def zcA (P : Program) (U : TypeId) : Option (List AV) :=
  match P.info? U with
  | some i => match i.zero with
    | some z => cstL z
    | none => none
  | none => none
def elA (P : Program) (U : TypeId) : Option (TypeId × Nat × Nat × List AV) :=
  match P.underlying U with
  | some (.slice e) => match P.info? e, zcA P e with
    | some i, some zs => bif Nat.beq zs.length i.size && Nat.blt 0 i.size then some (e, i.size, i.bytes, zs) else none
    | _, _ => none
  | _ => none
def arA (P : Program) (U : TypeId) : Option (Nat × Nat) :=
  match P.underlying U with
  | some (.array n e) => (P.info? e).map fun i => (n, i.size)
  | _ => none
def ikA (P : Program) (U : TypeId) : Option IntKind :=
  match P.underlying U with
  | some (.int k) => some k
  | _ => none
def fldA (P : Program) (U : TypeId) (f : Nat) : Option (Nat × Bool × Nat) :=
  match P.underlying U with
  | some (.struct fs) => match fs[f]? with
    | some fd => (tyB P fd.type).map fun p => (fd.offset, p)
    | none => none
  | _ => none
noncomputable def cO (m : Nat) : Operand → Option XO
  | .tmp t => bif m.testBit t then some (.l t) else some (.t t)
  | .const v => (cstA v).map .k
  | .func g => some (.k (.c (.f0 g)))
  | .global _ => none
noncomputable def cOo (m : Nat) : Option Operand → Option (Option XO)
  | none => some none
  | some x => (cO m x).map some
noncomputable def cPs (m : Nat) (pl : Nat → Option (Nat × Nat)) : List (Nat × Operand) → Option (List (Nat × Nat × XO))
  | [] => some []
  | (i, x) :: r => match pl i, cO m x, cPs m pl r with
    | some (off, sz), some y, some ys => some ((off, sz, y) :: ys)
    | _, _, _ => none
noncomputable def o1 (m : Nat) (f : XO → OpK) (x : Operand) : Option OpK := (cO m x).map f
noncomputable def o2 (m : Nat) (f : XO → XO → OpK) (x y : Operand) : Option OpK := match cO m x, cO m y with
  | some a, some b => some (f a b)
  | _, _ => none
noncomputable def fAdd (k : IntKind) (x y : Int) : Option AV := some (.i k (wrapF k (Int.add x y)))
noncomputable def fSub (k : IntKind) (x y : Int) : Option AV := some (.i k (wrapF k (Int.sub x y)))
noncomputable def fMul (k : IntKind) (x y : Int) : Option AV := some (.i k (wrapF k (Int.mul x y)))
noncomputable def fQuo (k : IntKind) (x y : Int) : Option AV := bI (eqI y 0) none (some (.i k (wrapF k (Int.tdiv x y))))
noncomputable def fRem (k : IntKind) (x y : Int) : Option AV := bI (eqI y 0) none (some (.i k (Int.tmod x y)))
noncomputable def fAnd (k : IntKind) (x y : Int) : Option AV := some (.i k (k.wrap (BitVec.ofInt k.bits x &&& BitVec.ofInt k.bits y).toNat))
noncomputable def fOr (k : IntKind) (x y : Int) : Option AV := some (.i k (k.wrap (BitVec.ofInt k.bits x ||| BitVec.ofInt k.bits y).toNat))
noncomputable def fXor (k : IntKind) (x y : Int) : Option AV := some (.i k (k.wrap (BitVec.ofInt k.bits x ^^^ BitVec.ofInt k.bits y).toNat))
noncomputable def fEql (_ : IntKind) (x y : Int) : Option AV := some (.b (eqI x y))
noncomputable def fNeq (_ : IntKind) (x y : Int) : Option AV := some (.b (bI (eqI x y) false true))
noncomputable def fLss (_ : IntKind) (x y : Int) : Option AV := some (.b (ltI x y))
noncomputable def fLeq (_ : IntKind) (x y : Int) : Option AV := some (.b (bI (ltI y x) false true))
noncomputable def fGtr (_ : IntKind) (x y : Int) : Option AV := some (.b (ltI y x))
noncomputable def fGeq (_ : IntKind) (x y : Int) : Option AV := some (.b (bI (ltI x y) false true))
noncomputable def fShl (k : IntKind) (x y : Int) : Option AV := bI (ltI y 0) none (some (.i k (k.wrap (x * 2 ^ (min y.toNat k.bits)))))
noncomputable def fShr (k : IntKind) (x y : Int) : Option AV := bI (ltI y 0) none (some (.i k (x.fdiv (2 ^ (min y.toNat k.bits)))))
noncomputable def cBin : BinOp → Option (IntKind → Int → Int → Option AV)
  | .add => some fAdd | .sub => some fSub | .mul => some fMul | .quo => some fQuo | .rem => some fRem
  | .and => some fAnd | .or => some fOr | .xor => some fXor
  | .eql => some fEql | .neq => some fNeq | .lss => some fLss | .leq => some fLeq | .gtr => some fGtr | .geq => some fGeq
  | _ => none
noncomputable def cShf : BinOp → Option (IntKind → Int → Int → Option AV)
  | .shl => some fShl | .shr => some fShr
  | _ => none
def fd2 (P : Program) (U : TypeId) (f : Nat) : Option (Bool × Nat × Nat) :=
  match P.underlying U with
  | some (.struct fs) => match fs[f]? with
    | some fd => match tyB P fd.type with
      | some (b, n) => some (b, fd.offset, n)
      | none => none
    | none => none
  | _ => none
noncomputable def cOp (P : Program) (m : Nat) : Op → Option OpK
  | .move x => o1 m opMv x
  | .assign x => o1 m opMv x
  | .pick c a b => match cO m c with
    | some c => o2 m (opPick c) a b
    | none => none
  | .alloc U => (zcA P U).map fun zs => opAlloc U zs.length (ofL zs)
  | .box U x => o1 m (opBox U) x
  | .build U ps => match fsB P U, zcA P U with
    | some pl, some zs => (cPs m (fun i => pl[i]?) ps.toList).map (opBuild zs.length (ofL zs))
    | _, _ => none
  | .buildSlice U n ps => match elA P U with
    | some (e, sz, _, zs) => bif Nat.ble (n * sz) 10000 then (cPs m (fun i => some (i * sz, sz)) ps.toList).map (opBsl e n sz (repR sz (ofL zs) n)) else none
    | none => none
  | .load U x => match tyB P U with
    | some (true, n) => o1 m (opLda n) x
    | some (false, _) => o1 m opLd1 x
    | none => none
  | .store U a x => match tyB P U with
    | some (_, n) => o2 m (opSt n) a x
    | none => none
  | .nilCheck x => o1 m opNilc x
  | .binOp op U x y _ => match P.underlying U with
    | some .bool => match op with
      | .eql => o2 m (opBeq false) x y
      | .neq => o2 m (opBeq true) x y
      | _ => none
    | some (.int _) => match cBin op with
      | some f => o2 m (opBin f) x y
      | none => match cShf op with
        | some f => o2 m (opShf f) x y
        | none => none
    | some (.slice _) => match op, y with
      | .eql, .const (.slice none 0 0) => o1 m (opEqn false) x
      | .neq, .const (.slice none 0 0) => o1 m (opEqn true) x
      | _, _ => none
    | _ => none
  | .unOp .not _ x => o1 m opNot x
  | .unOp .neg _ x => o1 m opNeg x
  | .convert s d x => match ikA P s, ikA P d with
    | some _, some k => o1 m (opConv k) x
    | _, _ => none
  | .makeFunc (.func g) first cs => bif first.isEmpty then (allO (cO m) cs.toList).map (opMkf g) else none
  | .makeSlice U n c => match elA P U with
    | some (e, sz, by_, zs) => o2 m (opMks e sz by_ (ofL zs)) n c
    | none => none
  | .slice U x lo hi mx => match slB P U, cO m x, cOo m lo, cOo m hi, cOo m mx with
    | some sz, some x, some lo, some hi, some none => some (opSlc sz x lo hi)
    | some sz, some x, some lo, some (some hi), some (some mx) => some (opSl3 sz x lo hi mx)
    | _, _, _, _, _ => none
  | .fieldAddr U x f => match fdB P U f with
    | some off => o1 m (opFa off) x
    | none => none
  | .field U x f => match fd2 P U f with
    | some (true, off, n) => o1 m (opFld off n) x
    | some (false, off, _) => o1 m (opFl1 off) x
    | none => none
  | .indexAddr U x i => match slB P U with
    | some sz => o2 m (opIa sz) x i
    | none => match arA P U with
      | some (n, sz) => o2 m (opIar n sz) x i
      | none => none
  | .index U (.const (.string b)) i => match P.underlying U with
    | some .string => o1 m (opSidx b) i
    | _ => none
  | .extract x i => o1 m (opExt · i) x
  | .call ⟨.value (.func g), xs, _⟩ => (allO (cO m) xs.toList).map (opCall g)
  | .call ⟨.value (.tmp t), xs, _⟩ => match cO m (.tmp t), allO (cO m) xs.toList with
    | some f, some xs => some (opCalv f xs)
    | _, _ => none
  | .call ⟨.builtin .len, xs, ts⟩ => match xs.toList, ts.toList with
    | [x], [U] => match slB P U with
      | some _ => o1 m opLen x
      | none => none
    | _, _ => none
  | .call ⟨.builtin .append, xs, ts⟩ => match xs.toList, ts.toList with
    | [x, y], [U, W] => match elA P U with
      | some (e, sz, by_, zs) => bif Nat.beq U W then o2 m (opApp e sz by_) x y else match ikA P W with
        | some _ => o2 m (opApz e sz by_ (ofL zs)) x y
        | none => none
      | none => none
    | _, _ => none
  | .call ⟨.builtin .cap, xs, ts⟩ => match xs.toList, ts.toList with
    | [x], [U] => match slB P U with
      | some _ => o1 m opCap x
      | none => none
    | _, _ => none
  | .call ⟨.builtin .max, xs, _⟩ => match xs.toList with
    | x :: r => match cO m x, allO (cO m) r with
      | some x, some r => some (opMm true x r)
      | _, _ => none
    | _ => none
  | .call ⟨.builtin .min, xs, _⟩ => match xs.toList with
    | x :: r => match cO m x, allO (cO m) r with
      | some x, some r => some (opMm false x r)
      | _, _ => none
    | _ => none
  | .call ⟨.builtin .clear, xs, ts⟩ => match xs.toList, ts.toList with
    | [x], [U] => match elA P U with
      | some (_, sz, _, zs) => o1 m (opClr sz (ofL zs)) x
      | none => none
    | _, _ => none
  | _ => none
noncomputable def cG (m : Nat) (ops : Array Oper) (o : Oper) : Option (Option (XO × Bool)) :=
  match o.guard with
  | none => some none
  | some (g, b) => match (ops[g]?).bind (·.dst) with
    | some t => (cO m (.tmp t)).map fun x => some (x, b)
    | none => none
def dstB2 (n : Nat) : Option Nat → Bool
  | none => true
  | some d => Nat.blt d n
def dstL (m : Nat) : Option Nat → Bool
  | none => false
  | some d => m.testBit d
noncomputable def cI2 (P : Program) (n m : Nat) (ops : Array Oper) (o : Oper) : Option XI :=
  bif dstB2 n o.dst then
    match cG m ops o, cOp P m o.op with
    | some g, some k => some ⟨o.dst, dstL m o.dst, g, k⟩
    | some g, none => some ⟨o.dst, dstL m o.dst, g, opBad⟩
    | _, _ => none
  else none
def mask1 (acc : List Nat) (o : Oper) : Nat := (binding o).foldl (fun m j => m ||| 2 ^ j ||| acc.getD j 0) 0
def masks (l : List Oper) : List Nat := l.foldl (fun acc o => acc ++ [mask1 acc o]) []
def isCallO : Op → Bool
  | .call ⟨.value _, _, _⟩ => true
  | _ => false
def dstIn (d : Option Nat) (l : List Nat) : Bool := match d with
  | none => false
  | some d => l.any (Nat.beq d)
def dstEq (d e : Option Nat) : Bool := match d, e with
  | some d, some e => Nat.beq d e
  | _, _ => false
def indB (ops : Array Oper) (p q : Oper) : Bool := !dstIn p.dst (q.looksAt ops) && !dstIn q.dst (p.looksAt ops) && !dstEq p.dst q.dst
def unB (ops : Array Oper) (ms : List Nat) (l : List Oper) (i : Nat) : Bool := match l[i]? with
  | none => false
  | some q => (binding q).all (fun j => Nat.blt j i) && (List.range i).all fun j => (ms.getD i 0).testBit j || match l[j]? with
    | none => false
    | some p => indB ops p q
noncomputable def withMk (P : Program) (n m : Nat) (ops : Array Oper) : List Nat → List Oper → Option (List XJ)
  | mk :: ms, o :: r => match cI2 P n m ops o with
    | none => none
    | some x => match withMk P n m ops ms r with
      | none => none
      | some xs => some (⟨x, isCallO o.op, mk⟩ :: xs)
  | _, _ => some []
noncomputable def cC (P : Program) (n m : Nat) : Code → Option RunK
  | .skip => some kSkip
  | .region _ ops draw => match draw with
    | false => (allO (cI2 P n m ops) ops.toList).map kReg
    | true => bif (List.range ops.size).all (unB ops (masks ops.toList) ops.toList) then (withMk P n m ops (masks ops.toList) ops.toList).map kDrw else none
  | .seq a b => match cC P n m a with
    | none => none
    | some x => match cC P n m b with
      | none => none
      | some y => some (kSeq x y)
  | .cond (.tmp t) a b => match cC P n m a with
    | none => none
    | some x => match cC P n m b with
      | none => none
      | some y => bif m.testBit t then none else some (kCond t x y)
  | .cond (.const (.bool b)) x y => match b with
    | true => cC P n m x
    | false => cC P n m y
  | .block id c => (cC P n m c).map (kBlock id)
  | .loop c => (cC P n m c).map kLoop
  | .exit id => some (kExit id)
  | .ret => some kRet
  | _ => none
def cR2 (P : Program) (m : Nat) : ResultVar → Option XR
  | .tmp t => bif m.testBit t then none else some (.t t)
  | .cell t U => bif m.testBit t then none else match tyB P U with
    | some (true, n) => some (.c t n)
    | some (false, _) => some (.c1 t)
    | none => none
noncomputable def cF (P : Program) (pu : Bool) (m : Nat) (fn : Func) : Option XF := match fn.body with
  | none => none
  | some c => match cC P fn.ntmps m c, allO (cR2 P m) fn.results.toList with
    | some x, some rs => some ⟨pu, x, rs, fn.ntmps⟩
    | _, _ => none
noncomputable def mkTr {α : Type} : List (Nat × α) → Tr α
  | [] => .e
  | (k, v) :: r => (mkTr r).set v k
section
variable {α β : Type}
theorem oO_some {x : Option α} {f : α → Option β} {y : β} (h : oO x f = some y) : ∃ v, x = some v ∧ f v = some y := by
  cases x with
  | none => cases h
  | some v => exact ⟨v, rfl, h⟩
theorem bT_some {b : Bool} {x : Option β} {y : β} (h : bT b x = some y) : b = true ∧ x = some y := by
  cases b with
  | false => cases h
  | true => exact ⟨rfl, h⟩
theorem bI_eq (b : Bool) (x y : β) : bI b x y = if b = true then x else y := by cases b <;> rfl
theorem bA_eq (a b : Bool) : bA a b = (a && b) := by cases a <;> rfl
theorem xC_some {x : XV} {f : AV → Option β} {y : β} (h : xC x f = some y) : ∃ a, x = .c a ∧ f a = some y := by
  cases x with
  | c a => exact ⟨a, rfl, h⟩
  | _ => cases h
theorem xT_some {x : XV} {f : List XD → Option β} {y : β} (h : xT x f = some y) : ∃ ds, x = .t ds ∧ f ds = some y := by
  cases x with
  | t ds => exact ⟨ds, rfl, h⟩
  | _ => cases h
theorem aB_some {x : AV} {f : Bool → Option β} {y : β} (h : aB x f = some y) : ∃ b, x = .b b ∧ f b = some y := by
  cases x with
  | b v => exact ⟨v, rfl, h⟩
  | _ => cases h
theorem aI_some {x : AV} {f : IntKind → Int → Option β} {y : β} (h : aI x f = some y) : ∃ k n, x = .i k n ∧ f k n = some y := by
  cases x with
  | i k n => exact ⟨k, n, rfl, h⟩
  | _ => cases h
theorem aP_some {x : AV} {f : Nat → Nat → Option β} {y : β} (h : aP x f = some y) : ∃ k off, x = .p k off ∧ f k off = some y := by
  cases x with
  | p k off => exact ⟨k, off, rfl, h⟩
  | _ => cases h
theorem aS_some {x : AV} {f : Nat → Nat → Nat → Nat → Bool → Nat → Option β} {z ev : Option β} {y : β} (h : aS x f z ev = some y) :
    (∃ k off n lo ex m, x = .s k off n lo ex m ∧ f k off n lo ex m = some y) ∨ (x = .z ∧ z = some y) ∨ (x = .ev ∧ ev = some y) := by
  cases x with
  | s k off n lo ex m => exact .inl ⟨k, off, n, lo, ex, m, rfl, h⟩
  | z => exact .inr (.inl ⟨rfl, h⟩)
  | ev => exact .inr (.inr ⟨rfl, h⟩)
  | _ => cases h
theorem nI_some {i : Int} {f : Nat → Option β} {y : β} (h : xnI i f = some y) : ∃ n : Nat, i = (n : Int) ∧ f n = some y := by
  cases i with
  | ofNat n => exact ⟨n, rfl, h⟩
  | negSucc n => cases h
theorem xB_some {x : XV} {f : Bool → Option β} {y : β} (h : xB x f = some y) : ∃ b, x = .c (.b b) ∧ f b = some y := by
  obtain ⟨a, rfl, h⟩ := xC_some h
  obtain ⟨b, rfl, h⟩ := aB_some h
  exact ⟨b, rfl, h⟩
theorem xI_some {x : XV} {f : IntKind → Int → Option β} {y : β} (h : xI x f = some y) : ∃ k n, x = .c (.i k n) ∧ f k n = some y := by
  obtain ⟨a, rfl, h⟩ := xC_some h
  obtain ⟨k, n, rfl, h⟩ := aI_some h
  exact ⟨k, n, rfl, h⟩
theorem xP_some {x : XV} {f : Nat → Nat → Option β} {y : β} (h : xP x f = some y) : ∃ k off, x = .c (.p k off) ∧ f k off = some y := by
  obtain ⟨a, rfl, h⟩ := xC_some h
  obtain ⟨k, n, rfl, h⟩ := aP_some h
  exact ⟨k, n, rfl, h⟩
theorem xN_some {x : XV} {f : Nat → Option β} {y : β} (h : xN x f = some y) : ∃ (k : IntKind) (n : Nat), x = .c (.i k (n : Int)) ∧ f n = some y := by
  obtain ⟨k, i, rfl, h⟩ := xI_some h
  obtain ⟨n, rfl, h⟩ := nI_some h
  exact ⟨k, n, rfl, h⟩
def XV.rp (x : XV) : Option (Nat × Rp) := match x with
  | XV.c y => some (1, Rp.c y)
  | XV.a n r => some (n, r)
  | XV.t _ => none
  | XV.u => none
theorem xD_some {x : XV} {f : Nat → Rp → Option β} {y : β} (h : xD x f = some y) : ∃ n r, x.rp = some (n, r) ∧ f n r = some y := by
  cases x with
  | c a => exact ⟨1, .c a, rfl, h⟩
  | a n r => exact ⟨n, r, rfl, h⟩
  | _ => cases h
theorem Tr.get_n (l : Tr α) (v : Option α) (r : Tr α) (k : Nat) : (Tr.n l v r).get k = if k = 0 then v else if k % 2 = 1 then l.get (k / 2) else r.get (k / 2) := by
  show @Bool.rec (fun _ => Option α) (@Bool.rec (fun _ => Option α) (r.get (k / 2)) (l.get (k / 2)) (Nat.beq (k % 2) 1)) v (Nat.beq k 0) = _
  by_cases h : k = 0
  · subst h; rfl
  · have h1 : Nat.beq k 0 = false := by
      cases hb : Nat.beq k 0 with
      | false => rfl
      | true => exact absurd (Nat.eq_of_beq_eq_true hb) h
    rw [h1, if_neg h]
    by_cases h2 : k % 2 = 1
    · rw [if_pos h2, h2]; rfl
    · have h3 : Nat.beq (k % 2) 1 = false := by
        cases hb : Nat.beq (k % 2) 1 with
        | false => rfl
        | true => exact absurd (Nat.eq_of_beq_eq_true hb) h2
      rw [h3, if_neg h2]
theorem bool_rec {γ : Type} (b : Bool) (x y : γ) : @Bool.rec (fun _ => γ) x y b = if b = true then y else x := by cases b <;> rfl
theorem beq_if {γ : Type} (k l : Nat) (x y : γ) : @Bool.rec (fun _ => γ) x y (Nat.beq k l) = if k = l then y else x := by
  rw [bool_rec]
  by_cases h : k = l
  · subst h; rw [if_pos (Nat.beq_refl k), if_pos rfl]
  · rw [if_neg h, if_neg (fun e => h (Nat.eq_of_beq_eq_true e))]
theorem Tr.one_get {v x : α} : ∀ (f k k' : Nat), (Tr.one v f k).get k' = some x → k' = k ∧ x = v := by
  intro f
  induction f with
  | zero => intro k k' h; cases h
  | succ f ih =>
    intro k k' h
    have h : (@Bool.rec (fun _ => Tr α) (@Bool.rec (fun _ => Tr α) (.n .e none (Tr.one v f (k / 2))) (.n (Tr.one v f (k / 2)) none .e) (Nat.beq (k % 2) 1)) (.n .e (some v) .e) (Nat.beq k 0)).get k' = some x := h
    rw [beq_if, beq_if] at h
    split at h
    · rename_i hk
      rw [Tr.get_n] at h
      split at h
      · rename_i hk'; injection h with h; exact ⟨by omega, h.symm⟩
      · split at h <;> cases h
    · rename_i hk
      split at h
      · rename_i h2
        rw [Tr.get_n] at h
        split at h
        · cases h
        · split at h
          · rename_i h3; have := ih _ _ h; exact ⟨by omega, this.2⟩
          · cases h
      · rename_i h2
        rw [Tr.get_n] at h
        split at h
        · cases h
        · split at h
          · cases h
          · rename_i h3; have := ih _ _ h; exact ⟨by omega, this.2⟩
theorem Tr.set_get {v x : α} : ∀ (t : Tr α) (k k' : Nat), (t.set v k).get k' = some x → (k' = k ∧ x = v) ∨ (k' ≠ k ∧ t.get k' = some x) := by
  intro t
  induction t with
  | e => intro k k' h; exact .inl (Tr.one_get 40 k k' h)
  | n l o r ihl ihr =>
    intro k k' h
    have h : (@Bool.rec (fun _ => Tr α) (@Bool.rec (fun _ => Tr α) (.n l o (r.set v (k / 2))) (.n (l.set v (k / 2)) o r) (Nat.beq (k % 2) 1)) (.n l (some v) r) (Nat.beq k 0)).get k' = some x := h
    rw [beq_if, beq_if] at h
    rw [Tr.get_n]
    split at h
    · rename_i hk
      rw [Tr.get_n] at h
      split at h
      · rename_i hk'; injection h with h; exact .inl ⟨by omega, h.symm⟩
      · rename_i hk'; refine .inr ⟨by omega, ?_⟩; rw [if_neg hk']; exact h
    · rename_i hk
      split at h
      · rename_i h2
        rw [Tr.get_n] at h
        split at h
        · rename_i hk'; refine .inr ⟨by omega, ?_⟩; rw [if_pos hk']; exact h
        · rename_i hk'
          split at h
          · rename_i h3
            rcases ihl _ _ h with ⟨e1, e2⟩ | ⟨e1, e2⟩
            · exact .inl ⟨by omega, e2⟩
            · refine .inr ⟨by intro e; subst e; exact e1 rfl, ?_⟩; rw [if_neg hk', if_pos h3]; exact e2
          · rename_i h3; refine .inr ⟨by intro e; subst e; exact h3 h2, ?_⟩; rw [if_neg hk', if_neg h3]; exact h
      · rename_i h2
        rw [Tr.get_n] at h
        split at h
        · rename_i hk'; refine .inr ⟨by omega, ?_⟩; rw [if_pos hk']; exact h
        · rename_i hk'
          split at h
          · rename_i h3; refine .inr ⟨by intro e; subst e; exact h2 h3, ?_⟩; rw [if_neg hk', if_pos h3]; exact h
          · rename_i h3
            rcases ihr _ _ h with ⟨e1, e2⟩ | ⟨e1, e2⟩
            · exact .inl ⟨by omega, e2⟩
            · refine .inr ⟨by intro e; subst e; exact e1 rfl, ?_⟩; rw [if_neg hk', if_neg h3]; exact e2
theorem Tr.del_get {x : α} : ∀ (t : Tr α) (k k' : Nat), (t.del k).get k' = some x → k' ≠ k ∧ t.get k' = some x := by
  intro t
  induction t with
  | e => intro k k' h; cases h
  | n l o r ihl ihr =>
    intro k k' h
    have h : (@Bool.rec (fun _ => Tr α) (@Bool.rec (fun _ => Tr α) (.n l o (r.del (k / 2))) (.n (l.del (k / 2)) o r) (Nat.beq (k % 2) 1)) (.n l none r) (Nat.beq k 0)).get k' = some x := h
    rw [beq_if, beq_if] at h
    rw [Tr.get_n]
    split at h
    · rename_i hk
      rw [Tr.get_n] at h
      split at h
      · cases h
      · rename_i hk'; refine ⟨by omega, ?_⟩; rw [if_neg hk']; exact h
    · rename_i hk
      split at h
      · rename_i h2
        rw [Tr.get_n] at h
        split at h
        · rename_i hk'; refine ⟨by omega, ?_⟩; rw [if_pos hk']; exact h
        · rename_i hk'
          split at h
          · rename_i h3
            obtain ⟨e1, e2⟩ := ihl _ _ h
            refine ⟨by intro e; subst e; exact e1 rfl, ?_⟩; rw [if_neg hk', if_pos h3]; exact e2
          · rename_i h3; refine ⟨by intro e; subst e; exact h3 h2, ?_⟩; rw [if_neg hk', if_neg h3]; exact h
      · rename_i h2
        rw [Tr.get_n] at h
        split at h
        · rename_i hk'; refine ⟨by omega, ?_⟩; rw [if_pos hk']; exact h
        · rename_i hk'
          split at h
          · rename_i h3; refine ⟨by intro e; subst e; exact h2 h3, ?_⟩; rw [if_neg hk', if_pos h3]; exact h
          · rename_i h3
            obtain ⟨e1, e2⟩ := ihr _ _ h
            refine ⟨by intro e; subst e; exact e1 rfl, ?_⟩; rw [if_neg hk', if_neg h3]; exact e2
theorem mkTr_get {x : α} : ∀ (l : List (Nat × α)) (k : Nat), (mkTr l).get k = some x → (k, x) ∈ l
  | [], k, h => by cases h
  | (j, v) :: r, k, h => by
    rcases Tr.set_get (mkTr r) j k h with ⟨e1, e2⟩ | ⟨_, h⟩
    · subst e1 e2; exact List.mem_cons_self ..
    · exact List.mem_cons_of_mem _ (mkTr_get r k h)
end
def Rp.ok : Rp → Prop
  | .e => True
  | .c _ => True
  | .n ls pu l r => ls = l.flat.length ∧ l.ok ∧ r.ok ∧ (pu = true → ∀ x ∈ l.flat ++ r.flat, puA x = true)
theorem puR_spec : ∀ {r : Rp}, r.ok → puR r = true → ∀ x ∈ r.flat, puA x = true
  | .e, _, _, x, hx => by cases hx
  | .c y, _, h, x, hx => by
    have : x = y := by simpa [Rp.flat] using hx
    subst this; exact h
  | .n ls pu l r, ho, h, x, hx => ho.2.2.2 h x hx
theorem mkN_ok {ls : Nat} {l r : Rp} (h : ls = l.flat.length) (hl : l.ok) (hr : r.ok) : (mkN ls l r).ok := by
  refine ⟨h, hl, hr, fun hp x hx => ?_⟩
  rw [bA_eq, Bool.and_eq_true] at hp
  rcases List.mem_append.1 hx with hx | hx
  · exact puR_spec hl hp.1 x hx
  · exact puR_spec hr hp.2 x hx
theorem joinR_spec {ls : Nat} {l r : Rp} (h : ls = l.flat.length) (hl : l.ok) (hr : r.ok) : (joinR ls l r).ok ∧ (joinR ls l r).flat = l.flat ++ r.flat := by
  cases l with
  | e => exact ⟨hr, rfl⟩
  | c x =>
    cases r with
    | e => exact ⟨hl, by simp [Rp.flat]; rfl⟩
    | c y => exact ⟨mkN_ok h hl hr, rfl⟩
    | n _ _ _ _ => exact ⟨mkN_ok h hl hr, rfl⟩
  | n a b c d =>
    cases r with
    | e => exact ⟨hl, by show (Rp.n a b c d).flat = (Rp.n a b c d).flat ++ []; simp⟩
    | c y => exact ⟨mkN_ok h hl hr, rfl⟩
    | n _ _ _ _ => exact ⟨mkN_ok h hl hr, rfl⟩
theorem ble_iff {a b : Nat} : Nat.ble a b = true ↔ a ≤ b := by rw [Nat.ble_eq]
theorem subR_spec : ∀ (r : Rp) (tot off n : Nat), r.ok → tot = r.flat.length → off + n ≤ tot → (subR r tot off n).ok ∧ (subR r tot off n).flat = (r.flat.drop off).take n := by
  intro r
  induction r with
  | e => intro tot off n _ ht h; exact ⟨trivial, by simp [subR, Rp.flat]⟩
  | c x =>
    intro tot off n _ ht h
    simp [Rp.flat] at ht
    show (bI (Nat.beq n 0) Rp.e (.c x)).ok ∧ (bI (Nat.beq n 0) Rp.e (.c x)).flat = ([x].drop off).take n
    by_cases hn : n = 0
    · subst hn; exact ⟨trivial, by simp [bI, Rp.flat]⟩
    · have h1 : n = 1 := by omega
      have h2 : off = 0 := by omega
      subst h1 h2
      exact ⟨trivial, rfl⟩
  | n ls pu l r ihl ihr =>
    intro tot off n ho ht h
    obtain ⟨h1, h2, h3, h4⟩ := ho
    have htl : tot = l.flat.length + r.flat.length := by rw [ht]; simp [Rp.flat]
    show (bI (Nat.beq n tot) (Rp.n ls pu l r) (bI (Nat.ble (off + n) ls) (subR l ls off n) (bI (Nat.ble ls off) (subR r (tot - ls) (off - ls) n) (joinR (ls - off) (subR l ls off (ls - off)) (subR r (tot - ls) 0 (off + n - ls)))))).ok ∧
      (bI (Nat.beq n tot) (Rp.n ls pu l r) (bI (Nat.ble (off + n) ls) (subR l ls off n) (bI (Nat.ble ls off) (subR r (tot - ls) (off - ls) n) (joinR (ls - off) (subR l ls off (ls - off)) (subR r (tot - ls) 0 (off + n - ls)))))).flat = _
    rw [bI_eq, bI_eq, bI_eq]
    show _ ∧ _ = ((l.flat ++ r.flat).drop off).take n
    split
    · rename_i hb
      have := Nat.eq_of_beq_eq_true hb
      have h0 : off = 0 := by omega
      subst h0
      refine ⟨⟨h1, h2, h3, h4⟩, ?_⟩
      show l.flat ++ r.flat = _
      rw [List.drop_zero, List.take_of_length_le (by simp; omega)]
    · split
      · rename_i hb
        rw [ble_iff] at hb
        obtain ⟨g1, g2⟩ := ihl ls off n h2 h1 hb
        refine ⟨g1, ?_⟩
        rw [g2, List.drop_append_of_le_length (by omega), List.take_append_of_le_length (by simp; omega)]
      · rename_i hb
        rw [ble_iff] at hb
        split
        · rename_i hc
          rw [ble_iff] at hc
          obtain ⟨g1, g2⟩ := ihr (tot - ls) (off - ls) n h3 (by omega) (by omega)
          refine ⟨g1, ?_⟩
          rw [g2, List.drop_append, List.drop_of_length_le (i := off) (l := l.flat) (by omega), List.nil_append, h1]
        · rename_i hc
          rw [ble_iff] at hc
          obtain ⟨g1, g2⟩ := ihl ls off (ls - off) h2 h1 (by omega)
          obtain ⟨k1, k2⟩ := ihr (tot - ls) 0 (off + n - ls) h3 (by omega) (by omega)
          have hlen : ls - off = (subR l ls off (ls - off)).flat.length := by rw [g2]; simp; omega
          obtain ⟨j1, j2⟩ := joinR_spec hlen g1 k1
          refine ⟨j1, ?_⟩
          rw [j2, g2, k2, List.drop_append_of_le_length (by omega), List.take_append, List.take_of_length_le (by simp; omega), List.take_of_length_le (l := l.flat.drop off) (by simp; omega)]
          rw [List.drop_zero]
          congr 1
          congr 1
          simp; omega
theorem updR_spec {d : Rp} (hd : d.ok) : ∀ (r : Rp) (tot off n : Nat), r.ok → tot = r.flat.length → n = d.flat.length → off + n ≤ tot → (updR d r tot off n).ok ∧ (updR d r tot off n).flat = r.flat.take off ++ d.flat ++ r.flat.drop (off + n) := by
  intro r
  induction r with
  | e =>
    intro tot off n _ ht hn h
    simp [Rp.flat] at ht
    have : d.flat = [] := List.length_eq_zero_iff.1 (by omega)
    exact ⟨trivial, by simp [updR, Rp.flat, this]⟩
  | c x =>
    intro tot off n _ ht hn h
    simp [Rp.flat] at ht
    show (bI (Nat.beq n 0) (.c x) d).ok ∧ (bI (Nat.beq n 0) (.c x) d).flat = [x].take off ++ d.flat ++ [x].drop (off + n)
    by_cases h0 : n = 0
    · subst h0
      have : d.flat = [] := List.length_eq_zero_iff.1 (by omega)
      refine ⟨trivial, ?_⟩
      rw [this]; show [x] = _; simp
    · have h1 : n = 1 := by omega
      have h2 : off = 0 := by omega
      rw [h1, h2]
      exact ⟨hd, by show d.flat = _; simp⟩
  | n ls pu l r ihl ihr =>
    intro tot off n ho ht hn h
    obtain ⟨h1, h2, h3, h4⟩ := ho
    have htl : tot = l.flat.length + r.flat.length := by rw [ht]; simp [Rp.flat]
    show (bI (Nat.beq n tot) d (bI (Nat.ble (off + n) ls) (mkN ls (updR d l ls off n) r) (bI (Nat.ble ls off) (mkN ls l (updR d r (tot - ls) (off - ls) n)) (joinR off (subR l ls 0 off) (joinR n d (subR r (tot - ls) (off + n - ls) (tot - (off + n)))))))).ok ∧
      (bI (Nat.beq n tot) d (bI (Nat.ble (off + n) ls) (mkN ls (updR d l ls off n) r) (bI (Nat.ble ls off) (mkN ls l (updR d r (tot - ls) (off - ls) n)) (joinR off (subR l ls 0 off) (joinR n d (subR r (tot - ls) (off + n - ls) (tot - (off + n)))))))).flat = _
    rw [bI_eq, bI_eq, bI_eq]
    show _ ∧ _ = (l.flat ++ r.flat).take off ++ d.flat ++ (l.flat ++ r.flat).drop (off + n)
    split
    · rename_i hb
      have := Nat.eq_of_beq_eq_true hb
      have h0 : off = 0 := by omega
      subst h0
      refine ⟨hd, ?_⟩
      rw [List.take_zero, List.drop_of_length_le (by simp; omega)]; simp
    · split
      · rename_i hb
        rw [ble_iff] at hb
        obtain ⟨g1, g2⟩ := ihl ls off n h2 h1 hn hb
        have hlen : ls = (updR d l ls off n).flat.length := by rw [g2]; simp; omega
        refine ⟨mkN_ok hlen g1 h3, ?_⟩
        show (updR d l ls off n).flat ++ r.flat = _
        rw [g2, List.take_append_of_le_length (by omega), List.drop_append_of_le_length (by omega)]; simp
      · rename_i hb
        rw [ble_iff] at hb
        split
        · rename_i hc
          rw [ble_iff] at hc
          obtain ⟨g1, g2⟩ := ihr (tot - ls) (off - ls) n h3 (by omega) hn (by omega)
          refine ⟨mkN_ok h1 h2 g1, ?_⟩
          show l.flat ++ (updR d r (tot - ls) (off - ls) n).flat = _
          rw [g2, List.take_append, List.take_of_length_le (i := off) (l := l.flat) (by omega), List.drop_append, List.drop_of_length_le (i := off + n) (l := l.flat) (by omega)]
          simp only [List.nil_append, List.append_assoc, h1]
          congr 3
          rw [show off + n - l.flat.length = off - l.flat.length + n by omega]
        · rename_i hc
          rw [ble_iff] at hc
          obtain ⟨g1, g2⟩ := subR_spec l ls 0 off h2 h1 (by omega)
          obtain ⟨k1, k2⟩ := subR_spec r (tot - ls) (off + n - ls) (tot - (off + n)) h3 (by omega) (by omega)
          obtain ⟨j1, j2⟩ := joinR_spec hn hd k1
          have hlen : off = (subR l ls 0 off).flat.length := by rw [g2]; simp; omega
          obtain ⟨i1, i2⟩ := joinR_spec hlen g1 j1
          refine ⟨i1, ?_⟩
          rw [i2, j2, g2, k2, List.drop_zero, List.take_append_of_le_length (by omega), List.drop_append, List.drop_of_length_le (i := off + n) (l := l.flat) (by omega), List.nil_append, List.take_of_length_le (l := r.flat.drop (off + n - ls)) (by simp; omega), h1]
          simp
theorem idxR_spec : ∀ (r : Rp) (off : Nat), r.ok → idxR r off = r.flat[off]? := by
  intro r
  induction r with
  | e => intro off _; simp [idxR, Rp.flat]
  | c x =>
    intro off _
    show @Bool.rec (fun _ => Option AV) none (some x) (Nat.beq off 0) = [x][off]?
    rw [beq_if]
    split
    · rename_i h; subst h; rfl
    · rename_i h
      cases off with
      | zero => exact absurd rfl h
      | succ n => simp
  | n ls pu l r ihl ihr =>
    intro off ho
    obtain ⟨h1, h2, h3, _⟩ := ho
    show @Bool.rec (fun _ => Option AV) (idxR r (off - ls)) (idxR l off) (Nat.blt off ls) = (l.flat ++ r.flat)[off]?
    rw [bool_rec]
    split
    · rename_i hb
      rw [blt_iff] at hb
      rw [ihl off h2, List.getElem?_append_left (by omega)]
    · rename_i hb
      rw [blt_iff] at hb
      rw [ihr _ h3, List.getElem?_append_right (by omega), h1]
theorem ofL_spec : ∀ (l : List AV), (ofL l).ok ∧ (ofL l).flat = l
  | [] => ⟨trivial, rfl⟩
  | x :: l => by
    obtain ⟨h1, h2⟩ := ofL_spec l
    have := joinR_spec (ls := 1) (l := .c x) (r := ofL l) rfl trivial h1
    refine ⟨this.1, ?_⟩
    show (joinR 1 (.c x) (ofL l)).flat = _
    rw [this.2, h2]; rfl
def repA (zs : List AV) : Nat → List AV
  | 0 => []
  | n + 1 => zs ++ repA zs n
theorem repA_len (zs : List AV) : ∀ n, (repA zs n).length = n * zs.length
  | 0 => by simp [repA]
  | n + 1 => by rw [repA, List.length_append, repA_len zs n, Nat.succ_mul, Nat.add_comm]
theorem repR_spec {m : Nat} {z : Rp} (hm : m = z.flat.length) (hz : z.ok) : ∀ n, (repR m z n).ok ∧ (repR m z n).flat = repA z.flat n
  | 0 => ⟨trivial, rfl⟩
  | n + 1 => by
    obtain ⟨h1, h2⟩ := repR_spec hm hz n
    have := joinR_spec hm hz h1
    refine ⟨this.1, ?_⟩
    show (joinR m z (repR m z n)).flat = _
    rw [this.2, h2]; rfl
noncomputable def TS (m : Nat) (L : LX) (T : Tr XV) : TX := fun t => bif m.testBit t then lookA t L else T.get t
noncomputable def HS (H : Tr Bx) : HF := fun k => (H.get k).map fun b => (b.U, b.r.flat)
def HOk (H : Tr Bx) : Prop := ∀ k b, H.get k = some b → b.r.ok ∧ b.n = b.r.flat.length
def HLt (N : Nat) (H : Tr Bx) : Prop := ∀ k b, H.get k = some b → k < N
def xdok : XD → Prop
  | .c _ => True
  | .a n r => r.ok ∧ n = r.flat.length
def xok : XV → Prop
  | .c _ => True
  | .a n r => r.ok ∧ n = r.flat.length
  | .t ds => ∀ d ∈ ds, xdok d
  | .u => True
def TOk (T : TX) : Prop := ∀ t x, T t = some x → xok x
def e0 : HF := fun _ => none
section
variable {P : Program} {ops : Array Oper} {o : Oper} {TT : TX} {m N : Nat} {L : LX} {T : Tr XV} {H : Tr Bx} {x : XV}
def RunG (P : Program) (ops : Array Oper) (o : Oper) (T : TX) (e : Evt) : Prop := ∀ V A β a w, (∀ k, A k → ¬ (e.N ≤ k ∧ k < e.N')) → Mem V A e.Hv β w → TmpX A (Zs V e.Hv β) w β (Looks ops o) T a →
  Gives P o a w fun v w' => ∃ A' β', (∀ k, A k → A' k) ∧ (∀ k, A' k → Ad A e.N e.N' k) ∧ Mem V A' e.Hv' β' w' ∧ Hst e.N e.N' A e.Hv β w e.Hv' β' w' ∧ RdX2 A' (Zs V e.Hv' β') w' β' v e.x
def Foot (N N' : Nat) (H H' : Tr Bx) (Hv Hv' : HF) : Lg → Prop
  | .p => Hv = e0 ∧ Hv' = e0 ∧ N' = N
  | .r k => (∀ j, j ≠ k → Hv j = none) ∧ Hv' = Hv ∧ N' = N ∧ (HS H k).isSome = true
  | .w k => (∀ j, j ≠ k → Hv j = none ∧ Hv' j = none) ∧ N' = N
  | .nw k => k = N ∧ N' = N + 1 ∧ Hv = e0 ∧ ∀ j, j ≠ k → Hv' j = none
  | .c K K' => Hv = HS K ∧ Hv' = HS K' ∧ K = H ∧ K' = H'
def Good (P : Program) (ops : Array Oper) (o : Oper) (TT : TX) (N : Nat) (H : Tr Bx) (x : XV) (N' : Nat) (H' : Tr Bx) (g : Lg) : Prop :=
  N ≤ N' ∧ xok x ∧ HOk H' ∧ HLt N' H' ∧ ∃ Hv Hv', RunG P ops o TT ⟨x, Hv, Hv', N, N'⟩ ∧ (∀ k c, Hv k = some c → HS H k = some c) ∧ (∀ k c, HS H' k = some c → put2 (HS H) Hv Hv' k = some c) ∧ Foot N N' H H' Hv Hv' g
theorem put2_e0 {H : HF} : put2 H e0 e0 = H := by funext k; rfl
theorem good_pure (hO : HOk H) (hL : HLt N H) (hx : xok x) (h : ∀ A Z w β a, TmpX A Z w β (Looks ops o) TT a → ∃ v, (execOp a.eval o).run P w = .ok (.value v) w ∧ RdX2 A Z w β v x) : Good P ops o TT N H x N H .p := by
  have hf : Foot N N H H e0 e0 .p := ⟨rfl, rfl, rfl⟩
  have h1 : ∀ k c, e0 k = some c → HS H k = some c := fun k c h => by cases h
  have h2 : ∀ k c, HS H k = some c → put2 (HS H) e0 e0 k = some c := fun k c h => by rw [put2_e0]; exact h
  refine ⟨Nat.le_refl _, hx, hO, hL, e0, e0, fun V A β a w _ hm ht => ?_, h1, h2, hf⟩
  obtain ⟨v, e, hr⟩ := h _ _ w β a ht
  unfold Gives
  rw [e]
  exact ⟨A, β, fun _ h => h, fun _ h => .inl h, hm, Hst.refl, hr⟩
theorem TS_tmp {t : Nat} {xo : XO} {v : XV} (hc : cO m (.tmp t) = some xo) (hg : xo.get L T = some v) : TS m L T t = some v := by
  have hc : (bif m.testBit t then some (XO.l t) else some (XO.t t)) = some xo := hc
  show (bif m.testBit t then lookA t L else T.get t) = some v
  cases hb : m.testBit t with
  | true => rw [hb] at hc; injection hc with hc; subst hc; exact hg
  | false => rw [hb] at hc; injection hc with hc; subst hc; exact hg
section
variable {A Z : Nat → Prop} {w : World} {β : Nat → Pl} {a : Act}
theorem cellA_reads {v : Value} {y : AV} (h : cellA v = some y) : RdA A Z w β v y := by
  cases v with
  | bool b => simp [cellA] at h; subst h; exact .b b
  | int k n => simp [cellA] at h; subst h; exact .i k n
  | slice A' n c =>
    cases A' with
    | some A' => simp [cellA] at h
    | none =>
      cases n with
      | zero =>
        cases c with
        | zero => simp [cellA] at h; subst h; exact .z
        | succ c => simp [cellA] at h
      | succ n => simp [cellA] at h
  | pointer p =>
    cases p with
    | none => simp [cellA] at h; subst h; exact .np
    | some p => simp [cellA] at h
  | _ => simp [cellA] at h
theorem allO_len {γ δ : Type} {f : γ → Option δ} : ∀ (l : List γ) (r : List δ), allO f l = some r → l.length = r.length
  | [], r, h => by injection h with h; subst h; rfl
  | x :: l, r, h => by
    unfold allO at h
    split at h
    · cases h
    · split at h
      · cases h
      · rename_i ys h2
        injection h with h
        subst h
        simp [allO_len l ys h2]
theorem allO_at {γ δ : Type} {f : γ → Option δ} : ∀ (l : List γ) (r : List δ), allO f l = some r → ∀ (j : Nat) (x : γ) (y : δ), l[j]? = some x → r[j]? = some y → f x = some y
  | [], r, h, j, x, y, hx, _ => by simp at hx
  | z :: l, r, h, j, x, y, hx, hy => by
    unfold allO at h
    split at h
    · cases h
    · rename_i y0 h1
      split at h
      · cases h
      · rename_i ys h2
        injection h with h
        subst h
        cases j with
        | zero => simp at hx hy; subst hx hy; exact h1
        | succ j => simp at hx hy; exact allO_at l ys h2 j x y hx hy
theorem cellsA_reads {vs : List Value} {xs : List AV} (h : allO cellA vs = some xs) : RdAs A Z w β vs xs :=
  ⟨allO_len _ _ h, fun j v x hv hx => cellA_reads (allO_at _ _ h j v x hv hx)⟩
theorem cstA_reads {v : Value} {d : XV} (h : cstA v = some d) : RdX2 A Z w β v d ∧ xok d := by
  unfold cstA at h
  split at h
  · rename_i cs
    cases h1 : allO cellA cs.toList with
    | none => rw [h1] at h; cases h
    | some us =>
      rw [h1] at h
      injection h with h
      subst h
      obtain ⟨h2, h3⟩ := ofL_spec us
      exact ⟨⟨cs, rfl, by rw [h3]; exact cellsA_reads h1⟩, h2, by rw [h3]⟩
  · cases h1 : cellA v with
    | none => rw [h1] at h; cases h
    | some u => rw [h1] at h; injection h with h; subst h; exact ⟨cellA_reads h1, trivial⟩
theorem cO_reads {y : Operand} {xo : XO} {v : XV} (hy : y ∈ o.op.operands) (hc : cO m y = some xo) (hg : xo.get L T = some v) (ht : TmpX A Z w β (Looks ops o) (TS m L T) a) : RdX2 A Z w β (a.eval y) v := by
  cases y with
  | tmp t =>
    have hl : Looks ops o t := List.mem_append_left _ (List.mem_filterMap.2 ⟨.tmp t, by simpa using hy, rfl⟩)
    obtain ⟨v', e, hr⟩ := ht t v hl (TS_tmp hc hg)
    have : a.eval (.tmp t) = v' := by
      show a.tmps.getD t undef = v'
      obtain ⟨hlt, e⟩ := Array.getElem?_eq_some_iff.1 e
      simp [Array.getD, hlt, e]
    rw [this]; exact hr
  | const c =>
    cases h1 : cstA c with
    | none => simp [cO, h1] at hc
    | some d =>
      simp [cO, h1] at hc
      subst hc
      injection hg with hg
      subst hg
      exact (cstA_reads h1).1
  | func g =>
    simp [cO] at hc
    subst hc
    injection hg with hg
    subst hg
    exact .f g #[] [] (.f0 g) rfl rfl (fun j v x hv => by simp at hv)
  | global g => simp [cO] at hc
theorem cO_ok {y : Operand} {xo : XO} {v : XV} (hT : TOk (TS m L T)) (hc : cO m y = some xo) (hg : xo.get L T = some v) : xok v := by
  cases y with
  | tmp t => exact hT t v (TS_tmp hc hg)
  | const c =>
    cases h1 : cstA c with
    | none => simp [cO, h1] at hc
    | some d =>
      simp [cO, h1] at hc
      subst hc
      injection hg with hg
      subst hg
      exact (cstA_reads (A := fun _ => False) (Z := fun _ => False) (w := default) (β := fun _ => ⟨0, 0⟩) h1).2
  | func g =>
    simp [cO] at hc
    subst hc
    injection hg with hg
    subst hg
    trivial
  | global g => simp [cO] at hc
theorem RdA.b_eq {v : Value} {b : Bool} (h : RdA A Z w β v (.b b)) : v = .bool b := by
  cases h with
  | b _ => rfl
  | f _ _ _ _ h0 => cases h0
theorem RdA.i_eq {v : Value} {k : IntKind} {n : Int} (h : RdA A Z w β v (.i k n)) : v = .int k n := by
  cases h with
  | i _ _ => rfl
  | f _ _ _ _ h0 => cases h0
theorem RdA.z_eq {v : Value} (h : RdA A Z w β v .z) : v = .slice none 0 0 := by
  cases h with
  | z => rfl
  | f _ _ _ _ h0 => cases h0
theorem RdA.p_eq {v : Value} {k off : Nat} (h : RdA A Z w β v (.p k off)) : v = .pointer (some ⟨(β k).b, off, none⟩) ∧ A k := by
  cases h with
  | p _ _ h => exact ⟨rfl, h⟩
  | f _ _ _ _ h0 => cases h0
theorem RdA.s_eq {v : Value} {k off n lo m' : Nat} {ex : Bool} (h : RdA A Z w β v (.s k off n lo ex m')) : ∃ c, v = .slice (some ⟨(β k).b, off, none⟩) n c ∧ A k ∧ n ≤ lo ∧ lo ≤ c ∧ c ≤ maxLen ∧ (ex = true → c = lo) ∧ off + c * m' ≤ (β k).z := by
  cases h with
  | s _ _ _ _ _ _ c h h1 h2 h3 h4 h5 => exact ⟨c, rfl, h, h1, h2, h3, h4, h5⟩
  | f _ _ _ _ h0 => cases h0
theorem RdA.ev_eq {v : Value} (h : RdA A Z w β v .ev) : ∃ a c, v = .slice a 0 c ∧ c ≤ maxLen ∧ ∀ ad, a = some ad → ad.spot = none := by
  cases h with
  | ev a c h h2 => exact ⟨a, c, rfl, h, h2⟩
  | f _ _ _ _ h0 => cases h0
end
variable {N' : Nat} {H' : Tr Bx} {g : Lg} {call : CallX}
variable {dst : Option Nat} {ty : TypeId} {pos : String} {af : Array Edge} {gd : Option (Nat × Bool)}
theorem pR_some {x y : XV} {N N' : Nat} {H H' : Tr Bx} {g : Lg} (h : pR x N H = some (.mk y N' H' g)) : y = x ∧ N' = N ∧ H' = H ∧ g = .p := by
  unfold pR at h
  injection h with h
  injection h with h1 h2 h3 h4
  exact ⟨h1.symm, h2.symm, h3.symm, h4.symm⟩
theorem o1_some {f : XO → OpK} {y : Operand} {k : OpK} (h : o1 m f y = some k) : ∃ xo, cO m y = some xo ∧ k = f xo := by
  unfold o1 at h
  cases h1 : cO m y with
  | none => rw [h1] at h; cases h
  | some xo => rw [h1] at h; injection h with h; exact ⟨xo, rfl, h.symm⟩
theorem o2_some {f : XO → XO → OpK} {y z : Operand} {k : OpK} (h : o2 m f y z = some k) : ∃ xo yo, cO m y = some xo ∧ cO m z = some yo ∧ k = f xo yo := by
  unfold o2 at h
  split at h
  · rename_i a b h1 h2
    injection h with h
    exact ⟨a, b, h1, h2, h.symm⟩
  · cases h
theorem s_move (hT : TOk (TS m L T)) (hO : HOk H) (hL : HLt N H) {y : Operand} {xo : XO} {x : XV} (hc : cO m y = some xo) (h : opMv xo call L T N H = some (.mk x N' H' g)) : Good P ops ⟨dst, .move y, ty, pos, af, gd⟩ (TS m L T) N H x N' H' g := by
  obtain ⟨v, hv, h⟩ := oO_some h
  obtain ⟨rfl, rfl, rfl, rfl⟩ := pR_some h
  exact good_pure hO hL (cO_ok hT hc hv) fun A Z w β a ht => ⟨a.eval y, rfl, cO_reads (o := ⟨dst, .move y, ty, pos, af, gd⟩) (by simp [Op.operands]) hc hv ht⟩
theorem s_assign (hT : TOk (TS m L T)) (hO : HOk H) (hL : HLt N H) {y : Operand} {xo : XO} {x : XV} (hc : cO m y = some xo) (h : opMv xo call L T N H = some (.mk x N' H' g)) : Good P ops ⟨dst, .assign y, ty, pos, af, gd⟩ (TS m L T) N H x N' H' g := by
  obtain ⟨v, hv, h⟩ := oO_some h
  obtain ⟨rfl, rfl, rfl, rfl⟩ := pR_some h
  exact good_pure hO hL (cO_ok hT hc hv) fun A Z w β a ht => ⟨a.eval y, rfl, cO_reads (o := ⟨dst, .assign y, ty, pos, af, gd⟩) (by simp [Op.operands]) hc hv ht⟩
theorem s_pick (hT : TOk (TS m L T)) (hO : HOk H) (hL : HLt N H) {c y z : Operand} {co xo yo : XO} {x : XV} (h1 : cO m c = some co) (h2 : cO m y = some xo) (h3 : cO m z = some yo) (h : opPick co xo yo call L T N H = some (.mk x N' H' g)) : Good P ops ⟨dst, .pick c y z, ty, pos, af, gd⟩ (TS m L T) N H x N' H' g := by
  obtain ⟨v, hv, h⟩ := oO_some h
  obtain ⟨t, rfl, h⟩ := xB_some h
  obtain ⟨v2, hu, h⟩ := oO_some h
  obtain ⟨rfl, rfl, rfl, rfl⟩ := pR_some h
  rw [bI_eq] at hu
  refine good_pure hO hL ?_ fun A Z w β a ht => ?_
  · split at hu
    · exact cO_ok hT h2 hu
    · exact cO_ok hT h3 hu
  · have e1 : a.eval c = .bool t := RdA.b_eq (cO_reads (o := ⟨dst, .pick c y z, ty, pos, af, gd⟩) (by simp [Op.operands]) h1 hv ht)
    refine ⟨if t then a.eval y else a.eval z, ?_, ?_⟩
    · simp [execOp, e1, asBool]
    · split at hu
      · rename_i q; rw [if_pos q]; exact cO_reads (o := ⟨dst, .pick c y z, ty, pos, af, gd⟩) (by simp [Op.operands]) h2 hu ht
      · rename_i q; rw [if_neg q]; exact cO_reads (o := ⟨dst, .pick c y z, ty, pos, af, gd⟩) (by simp [Op.operands]) h3 hu ht
theorem s_nilc (_hT : TOk (TS m L T)) (hO : HOk H) (hL : HLt N H) {y : Operand} {xo : XO} {x : XV} (hc : cO m y = some xo) (h : opNilc xo call L T N H = some (.mk x N' H' g)) : Good P ops ⟨dst, .nilCheck y, ty, pos, af, gd⟩ (TS m L T) N H x N' H' g := by
  obtain ⟨v, hv, h⟩ := oO_some h
  obtain ⟨k, off, rfl, h⟩ := xP_some h
  obtain ⟨rfl, rfl, rfl, rfl⟩ := pR_some h
  refine good_pure hO hL trivial fun A Z w β a ht => ?_
  have hr : RdA A Z w β (a.eval y) (.p k off) := cO_reads (o := ⟨dst, .nilCheck y, ty, pos, af, gd⟩) (by simp [Op.operands]) hc hv ht
  refine ⟨a.eval y, ?_, hr⟩
  simp [execOp, hr.p_eq.1]
theorem s_not (_hT : TOk (TS m L T)) (hO : HOk H) (hL : HLt N H) {t : TypeId} {y : Operand} {xo : XO} {x : XV} (hc : cO m y = some xo) (h : opNot xo call L T N H = some (.mk x N' H' g)) : Good P ops ⟨dst, .unOp .not t y, ty, pos, af, gd⟩ (TS m L T) N H x N' H' g := by
  obtain ⟨v, hv, h⟩ := oO_some h
  obtain ⟨b, rfl, h⟩ := xB_some h
  obtain ⟨rfl, rfl, rfl, rfl⟩ := pR_some h
  refine good_pure hO hL trivial fun A Z w β a ht => ?_
  have e1 : a.eval y = .bool b := RdA.b_eq (cO_reads (o := ⟨dst, .unOp .not t y, ty, pos, af, gd⟩) (by simp [Op.operands]) hc hv ht)
  exact ⟨.bool (!b), by simp [execOp, e1, Op.unary], by cases b <;> exact .b _⟩
theorem wrapF_eq (k : IntKind) (n : Int) : wrapF k n = k.wrap n := by
  unfold wrapF
  rw [bI_eq, bI_eq]
  split
  · rename_i h
    split
    · rename_i h2
      have h := Nat.eq_of_beq_eq_true h
      have hk : k = .i64 := by cases k <;> simp [kN] at h <;> rfl
      subst hk
      have h2 : n.natAbs < 9223372036854775808 := by simpa [Nat.blt, Nat.ble_eq, Nat.lt_iff_add_one_le] using h2
      show n = if (true && decide (n % 18446744073709551616 ≥ 9223372036854775808)) = true then n % 18446744073709551616 - 18446744073709551616 else n % 18446744073709551616
      split <;> rename_i h3 <;> simp at h3 <;> omega
    · rfl
  · rfl
theorem s_neg (_hT : TOk (TS m L T)) (hO : HOk H) (hL : HLt N H) {t : TypeId} {y : Operand} {xo : XO} {x : XV} (hc : cO m y = some xo) (h : opNeg xo call L T N H = some (.mk x N' H' g)) : Good P ops ⟨dst, .unOp .neg t y, ty, pos, af, gd⟩ (TS m L T) N H x N' H' g := by
  obtain ⟨v, hv, h⟩ := oO_some h
  obtain ⟨k, n, rfl, h⟩ := xI_some h
  obtain ⟨rfl, rfl, rfl, rfl⟩ := pR_some h
  refine good_pure hO hL trivial fun A Z w β a ht => ?_
  have e1 : a.eval y = .int k n := RdA.i_eq (cO_reads (o := ⟨dst, .unOp .neg t y, ty, pos, af, gd⟩) (by simp [Op.operands]) hc hv ht)
  exact ⟨.int k (k.wrap (0 - n)), by simp [execOp, e1, Op.unary, Op.intArith], by rw [wrapF_eq]; exact .i _ _⟩
theorem s_conv (_hT : TOk (TS m L T)) (hO : HOk H) (hL : HLt N H) {s d : TypeId} {k k0 : IntKind} {y : Operand} {xo : XO} {x : XV} (hs : ikA P s = some k0) (hd : ikA P d = some k) (hc : cO m y = some xo) (h : opConv k xo call L T N H = some (.mk x N' H' g)) : Good P ops ⟨dst, .convert s d y, ty, pos, af, gd⟩ (TS m L T) N H x N' H' g := by
  obtain ⟨v, hv, h⟩ := oO_some h
  obtain ⟨k1, n, rfl, h⟩ := xI_some h
  obtain ⟨rfl, rfl, rfl, rfl⟩ := pR_some h
  refine good_pure hO hL trivial fun A Z w β a ht => ?_
  have e1 : a.eval y = .int k1 n := RdA.i_eq (cO_reads (o := ⟨dst, .convert s d y, ty, pos, af, gd⟩) (by simp [Op.operands]) hc hv ht)
  have hs2 : P.underlying s = some (.int k0) := by
    unfold ikA at hs
    split at hs
    · rename_i q; injection hs with hs; subst hs; exact q
    · cases hs
  have hd2 : P.underlying d = some (.int k) := by
    unfold ikA at hd
    split at hd
    · rename_i q; injection hd with hd; subst hd; exact q
    · cases hd
  exact ⟨.int k (k.wrap n), by simp [execOp, e1, convert, run_underlying hs2, run_underlying hd2, Conv.intToInt], by rw [wrapF_eq]; exact .i _ _⟩
end
section
variable {P : Program} {ops : Array Oper} {o : Oper} {TT : TX} {m N : Nat} {L : LX} {T : Tr XV} {H : Tr Bx} {x : XV}
variable {N' : Nat} {H' : Tr Bx} {g : Lg} {call : CallX}
variable {dst : Option Nat} {ty : TypeId} {pos : String} {af : Array Edge} {gd : Option (Nat × Bool)}
theorem kN_inj {k k' : IntKind} (h : Nat.beq (kN k) (kN k') = true) : k = k' := by
  have h := Nat.eq_of_beq_eq_true h
  cases k <;> cases k' <;> simp [kN] at h <;> rfl
theorem ltI_eq (x y : Int) : ltI x y = decide (x < y) := by
  unfold ltI
  show @Int.rec (fun _ => Bool) (fun _ => false) (fun _ => true) (x - y) = _
  cases h : x - y with
  | ofNat n =>
    have : (Int.ofNat n) = (n : Int) := rfl
    show false = _
    symm; simp; omega
  | negSucc n =>
    have : Int.negSucc n < 0 := Int.negSucc_lt_zero n
    show true = _
    symm; simp; omega
theorem eqI_eq (x y : Int) : eqI x y = (x == y) := by
  unfold eqI
  show @Int.rec (fun _ => Bool) (fun n => Nat.beq n 0) (fun _ => false) (x - y) = _
  cases h : x - y with
  | ofNat n =>
    have h : x - y = (n : Int) := h
    show Nat.beq n 0 = _
    cases n with
    | zero =>
      have : x = y := by omega
      subst this; simp
    | succ n =>
      have : x ≠ y := by omega
      show false = _
      symm; simpa using this
  | negSucc n =>
    have : Int.negSucc n < 0 := Int.negSucc_lt_zero n
    have : x ≠ y := by omega
    show false = _
    symm; simpa using this
theorem bin_run {op : BinOp} {f : IntKind → Int → Int → Option AV} (hf : cBin op = some f) {k : IntKind} {a b : Int} {r : AV} (hr : f k a b = some r) (xt : TypeId) (x y : Operand) (w : World) (A Z : Nat → Prop) (β : Nat → Pl) :
    ∃ v, (do eqGuard op xt x y (.int k a) (.int k b); binOp op xt (.int k a) (.int k b) : Go.Sem Value).run P w = .ok v w ∧ RdA A Z w β v r := by
  have hb : ∀ {b c : Bool}, b = c → RdA A Z w β (.bool b) (.b c) := fun e => by subst e; exact .b _
  cases op <;> simp [cBin] at hf <;> subst hf
  · injection hr with hr; subst hr; rw [wrapF_eq]; exact ⟨.int k (k.wrap (a + b)), by simp [eqGuard, binOp, Op.intArith], .i _ _⟩
  · injection hr with hr; subst hr; rw [wrapF_eq]; exact ⟨.int k (k.wrap (a - b)), by simp [eqGuard, binOp, Op.intArith], .i _ _⟩
  · injection hr with hr; subst hr; rw [wrapF_eq]; exact ⟨.int k (k.wrap (a * b)), by simp [eqGuard, binOp, Op.intArith], .i _ _⟩
  · unfold fQuo at hr
    rw [bI_eq, eqI_eq] at hr
    split at hr
    · cases hr
    · rename_i h0
      injection hr with hr; subst hr; rw [wrapF_eq]
      have h0 : b ≠ 0 := by simpa using h0
      exact ⟨.int k (k.wrap (a.tdiv b)), by simp [eqGuard, binOp, Op.intDiv, h0], .i _ _⟩
  · unfold fRem at hr
    rw [bI_eq, eqI_eq] at hr
    split at hr
    · cases hr
    · rename_i h0
      injection hr with hr; subst hr
      have h0 : b ≠ 0 := by simpa using h0
      exact ⟨.int k (a.tmod b), by simp [eqGuard, binOp, Op.intDiv, h0], .i _ _⟩
  · injection hr with hr; subst hr; exact ⟨_, by simp [eqGuard, binOp, Op.intBits], .i _ _⟩
  · injection hr with hr; subst hr; exact ⟨_, by simp [eqGuard, binOp, Op.intBits], .i _ _⟩
  · injection hr with hr; subst hr; exact ⟨_, by simp [eqGuard, binOp, Op.intBits], .i _ _⟩
  · injection hr with hr; subst hr; exact ⟨.bool (a == b), by simp [eqGuard, binOp, Op.intCmp], hb (eqI_eq a b).symm⟩
  · injection hr with hr; subst hr; exact ⟨.bool (a != b), by simp [eqGuard, binOp, Op.intCmp], hb (by rw [bI_eq, eqI_eq]; cases h : (a == b) <;> simp [bne, h])⟩
  · injection hr with hr; subst hr; exact ⟨.bool (a < b), by simp [eqGuard, binOp, Op.intCmp], hb (ltI_eq a b).symm⟩
  · injection hr with hr; subst hr; exact ⟨.bool (a ≤ b), by simp [eqGuard, binOp, Op.intCmp], hb (by rw [bI_eq, ltI_eq]; by_cases h : b < a <;> simp [h] <;> omega)⟩
  · injection hr with hr; subst hr; exact ⟨.bool (a > b), by simp [eqGuard, binOp, Op.intCmp], hb (ltI_eq b a).symm⟩
  · injection hr with hr; subst hr; exact ⟨.bool (a ≥ b), by simp [eqGuard, binOp, Op.intCmp], hb (by rw [bI_eq, ltI_eq]; by_cases h : a < b <;> simp [h] <;> omega)⟩
theorem s_bin (_hT : TOk (TS m L T)) (hO : HOk H) (hL : HLt N H) {op : BinOp} {f : IntKind → Int → Int → Option AV} {xt yt : TypeId} {y z : Operand} {xo yo : XO} {x : XV} (hf : cBin op = some f) (h1 : cO m y = some xo) (h2 : cO m z = some yo)
    (h : opBin f xo yo call L T N H = some (.mk x N' H' g)) : Good P ops ⟨dst, .binOp op xt y z yt, ty, pos, af, gd⟩ (TS m L T) N H x N' H' g := by
  obtain ⟨v, hv, h⟩ := oO_some h
  obtain ⟨v2, hv2, h⟩ := oO_some h
  obtain ⟨k, a, q1, h⟩ := xI_some h
  obtain ⟨k', b, q2, h⟩ := xI_some h
  subst q1 q2
  obtain ⟨hk, h⟩ := bT_some h
  obtain ⟨r, hr, h⟩ := oO_some h
  obtain ⟨rfl, rfl, rfl, rfl⟩ := pR_some h
  have hk := kN_inj hk
  subst hk
  refine good_pure hO hL trivial fun A Z w β ac ht => ?_
  have e1 : ac.eval y = .int k a := RdA.i_eq (cO_reads (o := ⟨dst, .binOp op xt y z yt, ty, pos, af, gd⟩) (by simp [Op.operands]) h1 hv ht)
  have e2 : ac.eval z = .int k b := RdA.i_eq (cO_reads (o := ⟨dst, .binOp op xt y z yt, ty, pos, af, gd⟩) (by simp [Op.operands]) h2 hv2 ht)
  obtain ⟨v, hrun, hrd⟩ := bin_run (P := P) hf hr xt y z w A Z β
  refine ⟨v, ?_, hrd⟩
  show (do let r ← (do eqGuard op xt y z (ac.eval y) (ac.eval z); binOp op xt (ac.eval y) (ac.eval z) : Go.Sem Value); pure (Next.value r) : Go.Sem Next).run P w = _
  rw [e1, e2, Sem.run_bind, hrun]
  rfl
theorem s_shf (_hT : TOk (TS m L T)) (hO : HOk H) (hL : HLt N H) {op : BinOp} {f : IntKind → Int → Int → Option AV} {xt yt : TypeId} {y z : Operand} {xo yo : XO} {x : XV} (hf : cShf op = some f) (h1 : cO m y = some xo) (h2 : cO m z = some yo)
    (h : opShf f xo yo call L T N H = some (.mk x N' H' g)) : Good P ops ⟨dst, .binOp op xt y z yt, ty, pos, af, gd⟩ (TS m L T) N H x N' H' g := by
  obtain ⟨v, hv, h⟩ := oO_some h
  obtain ⟨v2, hv2, h⟩ := oO_some h
  obtain ⟨k, a, q1, h⟩ := xI_some h
  obtain ⟨k', b, q2, h⟩ := xI_some h
  subst q1 q2
  obtain ⟨r, hr, h⟩ := oO_some h
  obtain ⟨rfl, rfl, rfl, rfl⟩ := pR_some h
  refine good_pure hO hL trivial fun A Z w β ac ht => ?_
  have e1 : ac.eval y = .int k a := RdA.i_eq (cO_reads (o := ⟨dst, .binOp op xt y z yt, ty, pos, af, gd⟩) (by simp [Op.operands]) h1 hv ht)
  have e2 : ac.eval z = .int k' b := RdA.i_eq (cO_reads (o := ⟨dst, .binOp op xt y z yt, ty, pos, af, gd⟩) (by simp [Op.operands]) h2 hv2 ht)
  cases op <;> simp [cShf] at hf <;> subst hf
  · unfold fShl at hr
    rw [bI_eq, ltI_eq] at hr
    split at hr
    · cases hr
    · rename_i h0
      injection hr with hr; subst hr
      have h0 : ¬ b < 0 := by simpa using h0
      exact ⟨.int k (k.wrap (a * 2 ^ (min b.toNat k.bits))), by simp [execOp, e1, e2, eqGuard, binOp, Op.shift, h0], .i _ _⟩
  · unfold fShr at hr
    rw [bI_eq, ltI_eq] at hr
    split at hr
    · cases hr
    · rename_i h0
      injection hr with hr; subst hr
      have h0 : ¬ b < 0 := by simpa using h0
      exact ⟨.int k (a.fdiv (2 ^ (min b.toNat k.bits))), by simp [execOp, e1, e2, eqGuard, binOp, Op.shift, h0], .i _ _⟩
theorem s_beq (_hT : TOk (TS m L T)) (hO : HOk H) (hL : HLt N H) {xt yt : TypeId} {y z : Operand} {xo yo : XO} {x : XV} (hu : P.underlying xt = some .bool) (h1 : cO m y = some xo) (h2 : cO m z = some yo)
    (h : opBeq false xo yo call L T N H = some (.mk x N' H' g)) : Good P ops ⟨dst, .binOp .eql xt y z yt, ty, pos, af, gd⟩ (TS m L T) N H x N' H' g := by
  obtain ⟨v, hv, h⟩ := oO_some h
  obtain ⟨v2, hv2, h⟩ := oO_some h
  obtain ⟨a, q1, h⟩ := xB_some h
  obtain ⟨b, q2, h⟩ := xB_some h
  subst q1 q2
  obtain ⟨rfl, rfl, rfl, rfl⟩ := pR_some h
  refine good_pure hO hL trivial fun A Z w β ac ht => ?_
  have e1 : ac.eval y = .bool a := RdA.b_eq (cO_reads (o := ⟨dst, .binOp .eql xt y z yt, ty, pos, af, gd⟩) (by simp [Op.operands]) h1 hv ht)
  have e2 : ac.eval z = .bool b := RdA.b_eq (cO_reads (o := ⟨dst, .binOp .eql xt y z yt, ty, pos, af, gd⟩) (by simp [Op.operands]) h2 hv2 ht)
  refine ⟨.bool (a == b), ?_, .b _⟩
  have h1 : (eqGuard .eql xt y z (.bool a) (.bool b)).run P w = .ok () w := rfl
  have h2 : binOp .eql xt (.bool a) (.bool b) = (do pure (.bool (← Op.equal xt (.bool a) (.bool b)))) := rfl
  simp only [execOp, e1, e2, Sem.run_bind, h1, Result.andThen_ok, h2, run_equal_bool hu, Sem.run_pure]
theorem s_bne (_hT : TOk (TS m L T)) (hO : HOk H) (hL : HLt N H) {xt yt : TypeId} {y z : Operand} {xo yo : XO} {x : XV} (hu : P.underlying xt = some .bool) (h1 : cO m y = some xo) (h2 : cO m z = some yo)
    (h : opBeq true xo yo call L T N H = some (.mk x N' H' g)) : Good P ops ⟨dst, .binOp .neq xt y z yt, ty, pos, af, gd⟩ (TS m L T) N H x N' H' g := by
  obtain ⟨v, hv, h⟩ := oO_some h
  obtain ⟨v2, hv2, h⟩ := oO_some h
  obtain ⟨a, q1, h⟩ := xB_some h
  obtain ⟨b, q2, h⟩ := xB_some h
  subst q1 q2
  obtain ⟨rfl, rfl, rfl, rfl⟩ := pR_some h
  refine good_pure hO hL trivial fun A Z w β ac ht => ?_
  have e1 : ac.eval y = .bool a := RdA.b_eq (cO_reads (o := ⟨dst, .binOp .neq xt y z yt, ty, pos, af, gd⟩) (by simp [Op.operands]) h1 hv ht)
  have e2 : ac.eval z = .bool b := RdA.b_eq (cO_reads (o := ⟨dst, .binOp .neq xt y z yt, ty, pos, af, gd⟩) (by simp [Op.operands]) h2 hv2 ht)
  refine ⟨.bool (!(a == b)), ?_, .b _⟩
  have h1 : (eqGuard .neq xt y z (.bool a) (.bool b)).run P w = .ok () w := rfl
  have h2 : binOp .neq xt (.bool a) (.bool b) = (do pure (.bool (!(← Op.equal xt (.bool a) (.bool b))))) := rfl
  simp only [execOp, e1, e2, Sem.run_bind, h1, Result.andThen_ok, h2, run_equal_bool hu, Sem.run_pure]
theorem run_equal_nil {xt e : TypeId} {w : World} {b : Option Addr} {n c : Nat} (hu : P.underlying xt = some (.slice e)) : (Op.equal xt (.slice b n c) (.slice none 0 0)).run P w = .ok b.isNone w := by
  unfold Op.equal Op.maxDepth
  rw [show (10000 : Nat) = 9999 + 1 from rfl, Op.equalIn]
  simp only [Sem.run_bind, run_underlying hu, Result.andThen_ok]
  cases b <;> rfl
theorem s_eqn (_hT : TOk (TS m L T)) (hO : HOk H) (hL : HLt N H) {xt yt e : TypeId} {y : Operand} {xo : XO} {x : XV} (hu : P.underlying xt = some (.slice e)) (h1 : cO m y = some xo)
    (h : opEqn false xo call L T N H = some (.mk x N' H' g)) : Good P ops ⟨dst, .binOp .eql xt y (.const (.slice none 0 0)) yt, ty, pos, af, gd⟩ (TS m L T) N H x N' H' g := by
  obtain ⟨v, hv, h⟩ := oO_some h
  obtain ⟨a, rfl, h⟩ := xC_some h
  have key : ∀ (ac : Act) (w : World) (b : Option Addr) (n c : Nat), ac.eval y = .slice b n c → (execOp ac.eval ⟨dst, .binOp .eql xt y (.const (.slice none 0 0)) yt, ty, pos, af, gd⟩).run P w = .ok (.value (.bool b.isNone)) w := by
    intro ac w b n c e1
    have h1 : (eqGuard .eql xt y (.const (.slice none 0 0)) (.slice b n c) (.slice none 0 0)).run P w = .ok () w := rfl
    have h2 : binOp .eql xt (.slice b n c) (.slice none 0 0) = (do pure (.bool (← Op.equal xt (.slice b n c) (.slice none 0 0)))) := rfl
    have e2 : ac.eval (.const (.slice none 0 0)) = .slice none 0 0 := rfl
    simp only [execOp, e1, e2, Sem.run_bind, h1, Result.andThen_ok, h2, run_equal_nil hu, Sem.run_pure]
  rcases aS_some h with ⟨k, off, n, lo, ex, m', rfl, h⟩ | ⟨rfl, h⟩ | ⟨rfl, h⟩
  · obtain ⟨rfl, rfl, rfl, rfl⟩ := pR_some h
    refine good_pure hO hL trivial fun A Z w β ac ht => ?_
    obtain ⟨c, e1, _⟩ := RdA.s_eq (cO_reads (o := ⟨dst, .binOp .eql xt y (.const (.slice none 0 0)) yt, ty, pos, af, gd⟩) (by simp [Op.operands]) h1 hv ht)
    exact ⟨_, key ac w _ _ _ e1, .b _⟩
  · obtain ⟨rfl, rfl, rfl, rfl⟩ := pR_some h
    refine good_pure hO hL trivial fun A Z w β ac ht => ?_
    have e1 := RdA.z_eq (cO_reads (o := ⟨dst, .binOp .eql xt y (.const (.slice none 0 0)) yt, ty, pos, af, gd⟩) (by simp [Op.operands]) h1 hv ht)
    exact ⟨_, key ac w _ _ _ e1, .b _⟩
  · cases h
theorem s_nen (_hT : TOk (TS m L T)) (hO : HOk H) (hL : HLt N H) {xt yt e : TypeId} {y : Operand} {xo : XO} {x : XV} (hu : P.underlying xt = some (.slice e)) (h1 : cO m y = some xo)
    (h : opEqn true xo call L T N H = some (.mk x N' H' g)) : Good P ops ⟨dst, .binOp .neq xt y (.const (.slice none 0 0)) yt, ty, pos, af, gd⟩ (TS m L T) N H x N' H' g := by
  obtain ⟨v, hv, h⟩ := oO_some h
  obtain ⟨a, rfl, h⟩ := xC_some h
  have key : ∀ (ac : Act) (w : World) (b : Option Addr) (n c : Nat), ac.eval y = .slice b n c → (execOp ac.eval ⟨dst, .binOp .neq xt y (.const (.slice none 0 0)) yt, ty, pos, af, gd⟩).run P w = .ok (.value (.bool (!b.isNone))) w := by
    intro ac w b n c e1
    have h1 : (eqGuard .neq xt y (.const (.slice none 0 0)) (.slice b n c) (.slice none 0 0)).run P w = .ok () w := rfl
    have h2 : binOp .neq xt (.slice b n c) (.slice none 0 0) = (do pure (.bool (!(← Op.equal xt (.slice b n c) (.slice none 0 0))))) := rfl
    have e2 : ac.eval (.const (.slice none 0 0)) = .slice none 0 0 := rfl
    simp only [execOp, e1, e2, Sem.run_bind, h1, Result.andThen_ok, h2, run_equal_nil hu, Sem.run_pure]
  rcases aS_some h with ⟨k, off, n, lo, ex, m', rfl, h⟩ | ⟨rfl, h⟩ | ⟨rfl, h⟩
  · obtain ⟨rfl, rfl, rfl, rfl⟩ := pR_some h
    refine good_pure hO hL trivial fun A Z w β ac ht => ?_
    obtain ⟨c, e1, _⟩ := RdA.s_eq (cO_reads (o := ⟨dst, .binOp .neq xt y (.const (.slice none 0 0)) yt, ty, pos, af, gd⟩) (by simp [Op.operands]) h1 hv ht)
    exact ⟨_, key ac w _ _ _ e1, .b _⟩
  · obtain ⟨rfl, rfl, rfl, rfl⟩ := pR_some h
    refine good_pure hO hL trivial fun A Z w β ac ht => ?_
    have e1 := RdA.z_eq (cO_reads (o := ⟨dst, .binOp .neq xt y (.const (.slice none 0 0)) yt, ty, pos, af, gd⟩) (by simp [Op.operands]) h1 hv ht)
    exact ⟨_, key ac w _ _ _ e1, .b _⟩
  · cases h
theorem s_fa (_hT : TOk (TS m L T)) (hO : HOk H) (hL : HLt N H) {U : TypeId} {f o' : Nat} {y : Operand} {xo : XO} {x : XV} (hU : fdB P U f = some o') (h1 : cO m y = some xo)
    (h : opFa o' xo call L T N H = some (.mk x N' H' g)) : Good P ops ⟨dst, .fieldAddr U y f, ty, pos, af, gd⟩ (TS m L T) N H x N' H' g := by
  obtain ⟨v, hv, h⟩ := oO_some h
  obtain ⟨k, off, rfl, h⟩ := xP_some h
  obtain ⟨rfl, rfl, rfl, rfl⟩ := pR_some h
  refine good_pure hO hL trivial fun A Z w β ac ht => ?_
  obtain ⟨e1, hk⟩ := RdA.p_eq (cO_reads (o := ⟨dst, .fieldAddr U y f, ty, pos, af, gd⟩) (by simp [Op.operands]) h1 hv ht)
  obtain ⟨fs, fd, g1, g2, g3, g4⟩ := fdB_run hU
  refine ⟨.pointer (some ⟨(β k).b, off + o', none⟩), ?_, .p _ _ hk⟩
  simp only [execOp, Instr.fieldAt, e1, Instr.sureAddr, Sem.run_bind, Sem.run_pure, Result.andThen_ok, run_underlying g1, g2, g4, addr_add]
theorem fd2_run {U : TypeId} {f off n : Nat} {b : Bool} (h : fd2 P U f = some (b, off, n)) : ∃ fs fd, P.underlying U = some (.struct fs) ∧ fs[f]? = some fd ∧ fd.offset = off ∧ tyB P fd.type = some (b, n) := by
  unfold fd2 at h
  split at h
  · rename_i fs h1
    split at h
    · rename_i fd h2
      split at h
      · rename_i b' n' h3
        injection h with h
        injection h with h4 h5
        injection h5 with h5 h6
        subst h4 h5 h6
        exact ⟨fs, fd, h1, h2, rfl, h3⟩
      · cases h
    · cases h
  · cases h
theorem s_fld (hT : TOk (TS m L T)) (hO : HOk H) (hL : HLt N H) {U : TypeId} {f o' n : Nat} {y : Operand} {xo : XO} {x : XV} (hU : fd2 P U f = some (true, o', n)) (h1 : cO m y = some xo)
    (h : opFld o' n xo call L T N H = some (.mk x N' H' g)) : Good P ops ⟨dst, .field U y f, ty, pos, af, gd⟩ (TS m L T) N H x N' H' g := by
  obtain ⟨v, hv, h2⟩ := oO_some h
  cases v with
  | a tot r =>
    obtain ⟨hn, h3⟩ := bT_some (show bT (Nat.ble (Nat.add o' n) tot) (pR (.a n (subR r tot o' n)) N H) = some (.mk x N' H' g) from h2)
    obtain ⟨rfl, rfl, rfl, rfl⟩ := pR_some h3
    rw [ble_iff] at hn
    obtain ⟨hr1, hr2⟩ := cO_ok hT h1 hv
    obtain ⟨g1, g2⟩ := subR_spec r tot o' n hr1 hr2 hn
    have hn' : o' + n ≤ r.flat.length := by rw [← hr2]; exact hn
    refine good_pure hO hL ⟨g1, by rw [g2]; simp; omega⟩ fun A Z w β ac ht => ?_
    obtain ⟨cs, e1, hr⟩ := cO_reads (o := ⟨dst, .field U y f, ty, pos, af, gd⟩) (by simp [Op.operands]) h1 hv ht
    obtain ⟨fs, fd, k1, k2, k3, k4⟩ := fd2_run hU
    obtain ⟨k5, k6⟩ := run_isAgg k4 w
    refine ⟨.agg (cs.extract o' (o' + n)), ?_, _, rfl, ?_⟩
    · simp only [execOp, Instr.field, e1, Sem.run_bind, Sem.run_pure, Result.andThen_ok, run_underlying k1, k2, part, asAgg, k5, k6, k3, if_true]
    · rw [g2]
      have := (hr.drop o').take n
      simpa [Array.toList_extract, List.extract_eq_take_drop] using this
  | _ => cases h2
theorem s_fl1 (hT : TOk (TS m L T)) (hO : HOk H) (hL : HLt N H) {U : TypeId} {f o' n : Nat} {y : Operand} {xo : XO} {x : XV} (hU : fd2 P U f = some (false, o', n)) (h1 : cO m y = some xo)
    (h : opFl1 o' xo call L T N H = some (.mk x N' H' g)) : Good P ops ⟨dst, .field U y f, ty, pos, af, gd⟩ (TS m L T) N H x N' H' g := by
  obtain ⟨v, hv, h2⟩ := oO_some h
  cases v with
  | a tot r =>
    obtain ⟨c, hc2, h3⟩ := oO_some (show oO (idxR r o') (fun a => pR (.c a) N H) = some (.mk x N' H' g) from h2)
    obtain ⟨rfl, rfl, rfl, rfl⟩ := pR_some h3
    obtain ⟨hr1, hr2⟩ := cO_ok hT h1 hv
    rw [idxR_spec r o' hr1] at hc2
    refine good_pure hO hL trivial fun A Z w β ac ht => ?_
    obtain ⟨cs, e1, hr⟩ := cO_reads (o := ⟨dst, .field U y f, ty, pos, af, gd⟩) (by simp [Op.operands]) h1 hv ht
    obtain ⟨fs, fd, k1, k2, k3, k4⟩ := fd2_run hU
    obtain ⟨k5, _⟩ := run_isAgg k4 w
    have hlt : o' < cs.toList.length := by rw [hr.1]; exact (List.getElem?_eq_some_iff.1 hc2).1
    have hv2 : cs.toList[o']? = some (cs.toList[o']'hlt) := List.getElem?_eq_getElem _
    refine ⟨_, ?_, hr.2 o' _ c hv2 hc2⟩
    have hv3 : cs[o']? = some (cs.toList[o']'hlt) := by rw [← Array.getElem?_toList]; exact hv2
    simp only [execOp, Instr.field, e1, Sem.run_bind, Sem.run_pure, Result.andThen_ok, run_underlying k1, k2, part, asAgg, k5, k3, hv3]
    rfl
  | _ => cases h2
theorem s_ext (hT : TOk (TS m L T)) (hO : HOk H) (hL : HLt N H) {i : Nat} {y : Operand} {xo : XO} {x : XV} (h1 : cO m y = some xo)
    (h : opExt xo i call L T N H = some (.mk x N' H' g)) : Good P ops ⟨dst, .extract y i, ty, pos, af, gd⟩ (TS m L T) N H x N' H' g := by
  obtain ⟨v, hv, h⟩ := oO_some h
  obtain ⟨ds, rfl, h⟩ := xT_some h
  obtain ⟨d, hd, h⟩ := oO_some h
  obtain ⟨rfl, rfl, rfl, rfl⟩ := pR_some h
  have nthD_eq : ∀ (ds : List XD) (i : Nat), nthD ds i = ds[i]? := by
    intro ds
    induction ds with
    | nil => intro i; simp [nthD]
    | cons d ds ih =>
      intro i
      show @Bool.rec (fun _ => Option XD) (nthD ds (Nat.pred i)) (some d) (Nat.beq i 0) = _
      rw [beq_if]
      cases i with
      | zero => rfl
      | succ i => rw [if_neg (by omega)]; simpa using ih i
  rw [nthD_eq] at hd
  have hok : ∀ d ∈ ds, xdok d := cO_ok hT h1 hv
  have hdk := hok d (List.mem_of_getElem? hd)
  refine good_pure hO hL (by cases d <;> exact hdk) fun A Z w β ac ht => ?_
  obtain ⟨vs, e1, hr⟩ := cO_reads (o := ⟨dst, .extract y i, ty, pos, af, gd⟩) (by simp [Op.operands]) h1 hv ht
  have hlt : i < ds.length := (List.getElem?_eq_some_iff.1 hd).1
  have hv : vs.toList[i]? = some (vs.toList[i]'(by rw [hr.1]; exact hlt)) := List.getElem?_eq_getElem _
  have hrd := hr.2 i _ d hv hd
  rw [Array.getElem?_toList] at hv
  refine ⟨vs.toList[i]'(by rw [hr.1]; exact hlt), ?_, ?_⟩
  · simp only [execOp, e1, Instr.extract, hv, Sem.run_bind, Sem.run_pure, Result.andThen_ok]
  · cases d <;> exact hrd
theorem s_len (_hT : TOk (TS m L T)) (hO : HOk H) (hL : HLt N H) {U : TypeId} {sz : Nat} {y : Operand} {xo : XO} {x : XV} (hU : slB P U = some sz) (h1 : cO m y = some xo)
    (h : opLen xo call L T N H = some (.mk x N' H' g)) : Good P ops ⟨dst, .call ⟨.builtin .len, #[y], #[U]⟩, ty, pos, af, gd⟩ (TS m L T) N H x N' H' g := by
  obtain ⟨v, hv, h⟩ := oO_some h
  obtain ⟨a, rfl, h⟩ := xC_some h
  have key : ∀ (ac : Act) (w : World) (b : Option Addr) (n c : Nat), ac.eval y = .slice b n c → (execOp ac.eval ⟨dst, .call ⟨.builtin .len, #[y], #[U]⟩, ty, pos, af, gd⟩).run P w = .ok (.value (.int .i64 n)) w := by
    intro ac w b n c e
    unfold slB at hU
    split at hU
    · rename_i el hu
      simp [execOp, resolve, invoke, builtin, Builtin.len_, e, run_underlying hu, goInt]
    · cases hU
  rcases aS_some h with ⟨k, off, n, lo, ex, m', rfl, h⟩ | ⟨rfl, h⟩ | ⟨rfl, h⟩
  · obtain ⟨rfl, rfl, rfl, rfl⟩ := pR_some h
    refine good_pure hO hL trivial fun A Z w β ac ht => ?_
    obtain ⟨c, e1, _⟩ := RdA.s_eq (cO_reads (o := ⟨dst, .call ⟨.builtin .len, #[y], #[U]⟩, ty, pos, af, gd⟩) (by simp [Op.operands, Call.operands]) h1 hv ht)
    exact ⟨_, key ac w _ _ _ e1, .i _ _⟩
  · obtain ⟨rfl, rfl, rfl, rfl⟩ := pR_some h
    refine good_pure hO hL trivial fun A Z w β ac ht => ?_
    have e1 := RdA.z_eq (cO_reads (o := ⟨dst, .call ⟨.builtin .len, #[y], #[U]⟩, ty, pos, af, gd⟩) (by simp [Op.operands, Call.operands]) h1 hv ht)
    exact ⟨_, key ac w _ _ _ e1, .i _ _⟩
  · obtain ⟨rfl, rfl, rfl, rfl⟩ := pR_some h
    refine good_pure hO hL trivial fun A Z w β ac ht => ?_
    obtain ⟨b, c, e1, _⟩ := RdA.ev_eq (cO_reads (o := ⟨dst, .call ⟨.builtin .len, #[y], #[U]⟩, ty, pos, af, gd⟩) (by simp [Op.operands, Call.operands]) h1 hv ht)
    exact ⟨_, key ac w _ _ _ e1, .i _ _⟩
theorem s_cap (_hT : TOk (TS m L T)) (hO : HOk H) (hL : HLt N H) {U : TypeId} {sz : Nat} {y : Operand} {xo : XO} {x : XV} (hU : slB P U = some sz) (h1 : cO m y = some xo)
    (h : opCap xo call L T N H = some (.mk x N' H' g)) : Good P ops ⟨dst, .call ⟨.builtin .cap, #[y], #[U]⟩, ty, pos, af, gd⟩ (TS m L T) N H x N' H' g := by
  obtain ⟨v, hv, h⟩ := oO_some h
  obtain ⟨a, rfl, h⟩ := xC_some h
  have key : ∀ (ac : Act) (w : World) (b : Option Addr) (n c : Nat), ac.eval y = .slice b n c → (execOp ac.eval ⟨dst, .call ⟨.builtin .cap, #[y], #[U]⟩, ty, pos, af, gd⟩).run P w = .ok (.value (.int .i64 c)) w := by
    intro ac w b n c e
    unfold slB at hU
    split at hU
    · rename_i el hu
      simp [execOp, resolve, invoke, builtin, Builtin.cap_, e, run_underlying hu, goInt]
    · cases hU
  rcases aS_some h with ⟨k, off, n, lo, ex, m', rfl, h⟩ | ⟨rfl, h⟩ | ⟨rfl, h⟩
  · obtain ⟨hex, h⟩ := bT_some h
    obtain ⟨rfl, rfl, rfl, rfl⟩ := pR_some h
    refine good_pure hO hL trivial fun A Z w β ac ht => ?_
    obtain ⟨c, e1, _, _, _, _, hc, _⟩ := RdA.s_eq (cO_reads (o := ⟨dst, .call ⟨.builtin .cap, #[y], #[U]⟩, ty, pos, af, gd⟩) (by simp [Op.operands, Call.operands]) h1 hv ht)
    have hc := hc hex
    subst hc
    exact ⟨_, key ac w _ _ _ e1, .i _ _⟩
  · obtain ⟨rfl, rfl, rfl, rfl⟩ := pR_some h
    refine good_pure hO hL trivial fun A Z w β ac ht => ?_
    have e1 := RdA.z_eq (cO_reads (o := ⟨dst, .call ⟨.builtin .cap, #[y], #[U]⟩, ty, pos, af, gd⟩) (by simp [Op.operands, Call.operands]) h1 hv ht)
    exact ⟨_, key ac w _ _ _ e1, .i _ _⟩
  · cases h
theorem s_ia (_hT : TOk (TS m L T)) (hO : HOk H) (hL : HLt N H) {U : TypeId} {sz : Nat} {y z : Operand} {xo yo : XO} {x : XV} (hU : slB P U = some sz) (h1 : cO m y = some xo) (h2 : cO m z = some yo)
    (h : opIa sz xo yo call L T N H = some (.mk x N' H' g)) : Good P ops ⟨dst, .indexAddr U y z, ty, pos, af, gd⟩ (TS m L T) N H x N' H' g := by
  obtain ⟨v, hv, h⟩ := oO_some h
  obtain ⟨v2, hv2, h⟩ := oO_some h
  obtain ⟨a, rfl, h⟩ := xC_some h
  obtain ⟨ki, j, rfl, h⟩ := xN_some h
  rcases aS_some h with ⟨k, off, n, lo, ex, m', rfl, h⟩ | ⟨rfl, h⟩ | ⟨rfl, h⟩
  · obtain ⟨hj, h⟩ := bT_some h
    obtain ⟨hm, h⟩ := bT_some h
    obtain ⟨rfl, rfl, rfl, rfl⟩ := pR_some h
    rw [blt_iff] at hj
    refine good_pure hO hL trivial fun A Z w β ac ht => ?_
    obtain ⟨c, e1, hk, _⟩ := RdA.s_eq (cO_reads (o := ⟨dst, .indexAddr U y z, ty, pos, af, gd⟩) (by simp [Op.operands]) h1 hv ht)
    have e2 := RdA.i_eq (cO_reads (o := ⟨dst, .indexAddr U y z, ty, pos, af, gd⟩) (by simp [Op.operands]) h2 hv2 ht)
    refine ⟨.pointer (some ⟨(β k).b, off + j * sz, none⟩), ?_, .p _ _ hk⟩
    unfold slB at hU
    split at hU
    case h_2 => cases hU
    rename_i el hul
    cases hinf : P.info? el with
    | none => rw [hinf] at hU; cases hU
    | some inf =>
      rw [hinf] at hU
      simp at hU
      have hso : ∀ w, (sizeOf el).run P w = .ok sz w := fun w => by unfold sizeOf typeInfo; simp [program, Sem.run, hinf, hU]
      have hj0 : (0 : Int) ≤ (j : Int) := by omega
      have hj1 : (j : Int) < (n : Int) := by omega
      simp [execOp, Instr.indexAt, e1, e2, asIntOf, run_underlying hul, hj0, hso, addr_add, hj]
  · cases h
  · cases h
end
end Go.Proofs.YthhhlpdbainlaaaGreat
