/- A run on known values: calls. -/
import Derived.Test.YthhhlpdbainlaaaGreatTaR
import Derived.Test.YthhhlpdbainlaaaGreatRows
import Derived.Deep.Slices
import Derived.ProofKit
import Derived.OpenShut
import Derived.Carry
namespace Go.Proofs.YthhhlpdbainlaaaGreat
open Go Go.RowKit
section
variable {P : Program} {n m : Nat} {T : Tr XV} {N : Nat} {H : Tr Bx}
theorem endX_some {F : XF} {κ : Tr XV → Nat → Tr Bx → Cr} {r : Ro} {y : Cr} (h : endX F κ r = y) (hy : y ≠ .no) : ∃ e T N H, r.out = some (e, T, N, H) ∧ (e = .normal ∨ e = .ret) ∧ κ T N H = y := by
  cases r with
  | no => exact absurd h.symm hy
  | n T N H => exact ⟨_, T, N, H, rfl, .inl rfl, h⟩
  | x id T N H => exact absurd h.symm hy
  | r T N H => exact ⟨_, T, N, H, rfl, .inr rfl, h⟩
theorem cF_some {pu : Bool} {fn : Func} {F : XF} (h : cF P pu m fn = some F) : ∃ c, fn.body = some c ∧ cC P fn.ntmps m c = some F.run ∧ allO (cR2 P m) fn.results.toList = some F.rs ∧ F.na = fn.ntmps := by
  unfold cF at h
  split at h
  · cases h
  · rename_i c hc
    split at h
    · rename_i x rs h1 h2
      injection h with h
      subst h
      exact ⟨c, hc, h1, h2, rfl⟩
    · cases h
theorem HOk_nil : HOk .e := fun k b h => by cases h
theorem HLt_nil : HLt 0 .e := fun k b h => by cases h
theorem body_sound {fn : Func} {c : Code} {fid : FuncId} {args : Array Value} {w : World} {vs : List XV} {V A : Nat → Prop} {β : Nat → Pl} {e : Exit} {T' : Tr XV} {N' : Nat} {H' : Tr Bx} {rs : List XR} {ds : List XD}
    (hf : P.funcs[fid]? = some fn) (hb : fn.body = some c) (hrs : allO (cR2 P m) fn.results.toList = some rs) (he : e = .normal ∨ e = .ret) (hds : resL2 T' H' rs = some ds)
    (hd : Does P fn.ntmps m (fun Q => c.wp P Q) (argsTr vs 0 .e) N H (e, T', N', H')) (hA : ∀ k, A k → ¬ (N ≤ k ∧ k < N')) (hm : Mem V A (HS H) β w) (hr : RdXs A (Zs V (HS H) β) w β args.toList vs) (hn : vs.length ≤ fn.ntmps) :
    Calls P fid args w fun e w' => ∃ v A' β', e = .returned v ∧ (∀ k, A k → A' k) ∧ (∀ k, A' k → Ad A N N' k) ∧ Mem V A' (HS H') β' w' ∧ Hst N N' A (HS H) β w (HS H') β' w' ∧ ∃ us : List Value, RdDs A' (Zs V (HS H') β') w' β' us ds ∧ v = (if h : us.toArray.size = 1 then us.toArray[0] else .tuple us.toArray) := by
  refine calls_of_wp hf hb ?_
  obtain ⟨k1, k2, k3, k4, k5⟩ := hd
  refine k5 (bodyPost P fn _) V A β _ w hA (entry hm hr hn) fun a' w' ⟨A', β', f1, f2, f3, f4⟩ => ?_
  obtain ⟨g1, g2⟩ := resL2_run (n := fn.ntmps) k2 k3 _ _ _ hrs hds
  obtain ⟨us, hrun, hrd⟩ := g2 V A' β' a' w' f4
  have hres := results_run hrun
  rcases he with rfl | rfl
  · exact ⟨f4.dfr, _, hres, _, A', β', rfl, f1, f2, f4.mem, f3, us, hrd, rfl⟩
  · exact ⟨f4.dfr, _, hres, _, A', β', rfl, f1, f2, f4.mem, f3, us, hrd, rfl⟩
theorem callB_sound (hfol : P.follows .mixedOrders = true) {ih : CallX} (hih : CallOk P ih) {F : XF} {pu : Bool} {fn : Func} {g : FuncId} (hF : cF P pu m fn = some F) (hf : P.funcs[g]? = some fn) (hcal : callable P g = true) {fuel : Nat} {vs : List XV} (hvs : ∀ v ∈ vs, xok v) (hO : HOk H) (hL : HLt N H) :
    (∀ x, callB F ih fuel vs N H = .p x → CallP P g vs x) ∧ ∀ x N' H', callB F ih fuel vs N H = .h x N' H' → CallH P g vs N H x N' H' := by
  obtain ⟨c, hb, hc, hrs, hna⟩ := cF_some hF
  have hcode := code_sound hfol c hc
  have hlen : ∀ {y}, callB F ih fuel vs N H = y → y ≠ .no → vs.length ≤ fn.ntmps ∧ (@Bool.rec (fun _ => Cr)
    (endX F (fun T N' H' => @Option.rec (List XD) (fun _ => Cr) .no (fun ds => .h (joinX ds) N' H') (resL2 T H' F.rs)) (F.run ih fuel (argsTr vs 0 .e) N H))
    (endX F (fun T _ H' => @Option.rec (List XD) (fun _ => Cr) .no (fun ds => @Bool.rec (fun _ => Cr) .no (.p (joinX ds)) (puD ds)) (resL2 T H' F.rs)) (F.run ih fuel (argsTr vs 0 .e) 0 .e))
    (bA F.pure (puL vs))) = y := by
    intro y h hy
    unfold callB at h
    cases hl : lenB vs F.na with
    | false => rw [hl] at h; exact absurd h.symm hy
    | true => rw [hl] at h; exact ⟨by rw [← hna]; exact lenB_spec _ _ hl, h⟩
  refine ⟨fun x h => ?_, fun x N' H' h => ?_⟩
  · obtain ⟨hn, h⟩ := hlen h (by simp)
    cases hp : bA F.pure (puL vs) with
    | false =>
      rw [hp] at h
      obtain ⟨e, T1, N1, H1, _, _, h⟩ := endX_some h (by simp)
      cases hd : resL2 T1 H1 F.rs with
      | none => rw [hd] at h; cases h
      | some ds => rw [hd] at h; cases h
    | true =>
      rw [hp] at h
      have hpu := puL_spec (bA_some hp).2
      obtain ⟨e, T1, N1, H1, ho, he, h⟩ := endX_some h (by simp)
      cases hd : resL2 T1 H1 F.rs with
      | none => rw [hd] at h; cases h
      | some ds =>
        rw [hd] at h
        dsimp only at h
        cases hq : puD ds with
        | false => rw [hq] at h; cases h
        | true =>
          rw [hq] at h
          injection h with h
          subst h
          have hdo := hcode ih hih fuel _ _ _ _ (args_tok (m := m) hvs) HOk_nil HLt_nil ho
          have hdok := (resL2_run (n := fn.ntmps) hdo.2.1 hdo.2.2.1 _ _ _ hrs hd).1
          refine ⟨hcal, joinX_ok hdok, fun Z A β args w hZ hr => ?_⟩
          have hm : Mem Z (fun _ => False) (HS .e) β w := ⟨hZ, fun k hk => absurd rfl hk, fun k hk => hk.elim, fun k l hk => absurd rfl hk, fun k hk => absurd rfl hk, fun k U cs hk => by cases hk⟩
          have hk1 : Keep Z (Zs Z (HS .e) β) w w := ⟨Nat.le_refl _, fun _ _ _ => rfl, fun b _ hb => by
            rcases hb with hb | ⟨k, hk, _⟩
            · exact hb
            · exact absurd rfl hk⟩
          have hr2 : RdXs (fun _ => False) (Zs Z (HS .e) β) w β args.toList vs := ⟨hr.1, fun j v x hv hx => (hr.2 j v x hv hx).pure hk1 (hvs x (List.mem_of_getElem? hx)) (hpu x (List.mem_of_getElem? hx))⟩
          refine (body_sound hf hb hrs he hd hdo (V := Z) (A := fun _ => False) (β := β) (fun k hk => hk.elim) hm hr2 hn).mono fun e' w' hh => ?_
          obtain ⟨v, A', β', rfl, _, _, hm', hh', us, hus, rfl⟩ := hh
          have hk2 : Keep (Zs Z (HS H1) β') Z w' w' := ⟨Nat.le_refl _, fun _ _ _ => rfl, fun b _ hb => .inl hb⟩
          refine ⟨_, rfl, fun A2 β2 => joinX_reads ⟨hus.1, fun j v d hv hd2 => (hus.2 j v d hv hd2).pure hk2 (hdok d (List.mem_of_getElem? hd2)) (puD_spec hq d (List.mem_of_getElem? hd2))⟩, hh'.os, hh'.tape, hh'.output, hh'.size, fun k hk => hh'.blk k hk fun j hj => absurd rfl hj⟩
  · obtain ⟨hn, h⟩ := hlen h (by simp)
    cases hp : bA F.pure (puL vs) with
    | true =>
      rw [hp] at h
      obtain ⟨e, T1, N1, H1, _, _, h⟩ := endX_some h (by simp)
      cases hd : resL2 T1 H1 F.rs with
      | none => rw [hd] at h; cases h
      | some ds =>
        rw [hd] at h
        dsimp only at h
        cases hq : puD ds with
        | false => rw [hq] at h; cases h
        | true => rw [hq] at h; cases h
    | false =>
      rw [hp] at h
      obtain ⟨e, T1, N1, H1, ho, he, h⟩ := endX_some h (by simp)
      cases hd : resL2 T1 H1 F.rs with
      | none => rw [hd] at h; cases h
      | some ds =>
        rw [hd] at h
        injection h with h1 h2 h3
        subst h1 h2 h3
        have hdo := hcode ih hih fuel _ _ _ _ (args_tok (m := m) hvs) hO hL ho
        have hdok := (resL2_run (n := fn.ntmps) hdo.2.1 hdo.2.2.1 _ _ _ hrs hd).1
        refine ⟨hdo.1, hcal, joinX_ok hdok, hdo.2.2.1, hdo.2.2.2.1, fun V A β args w hA hm hr => ?_⟩
        refine (body_sound hf hb hrs he hd hdo hA hm hr hn).mono fun e' w' hh => ?_
        obtain ⟨v, A', β', rfl, g1, g2, hm', hh', us, hus, rfl⟩ := hh
        exact ⟨_, A', β', rfl, g1, g2, hm', hh', joinX_reads hus⟩
structure EnvOk (P : Program) (E : Env) : Prop where
  pr : ∀ g p vs ds, E.pr.get g = some p → (∀ v ∈ vs, xok v) → p vs = some ds → CallP P g vs (joinX ds)
  fs : ∀ g F, E.fs.get g = some (some F) → ∃ pu m fn, cF P pu m fn = some F ∧ P.funcs[g]? = some fn ∧ callable P g = true
theorem callX_sound (hfol : P.follows .mixedOrders = true) {E : Env} (hE : EnvOk P E) {fuel : Nat} : ∀ depth, CallOk P (callX E fuel depth)
  | 0 => fun f vs N H _ _ _ => ⟨fun x h => (by cases h), fun x N' H' h => (by cases h)⟩
  | d + 1 => fun f vs N H hvs hO hL => by
    have e1 : callX E fuel (d + 1) f vs N H = @Option.rec (List XD) (fun _ => Cr) (@Option.rec XF (fun _ => Cr) .no (fun F => callB F (callX E fuel d) fuel vs N H) (oO (E.fs.get f) fun x => x)) (fun ds => .p (joinX ds)) (oO (E.pr.get f) fun p => p vs) := rfl
    cases hp : (oO (E.pr.get f) fun p => p vs) with
    | some ds =>
      rw [e1, hp]
      obtain ⟨p, h1, h2⟩ := oO_some hp
      refine ⟨fun x h => ?_, fun x N' H' h => (by cases h)⟩
      injection h with h
      subst h
      exact hE.pr f p vs ds h1 hvs h2
    | none =>
      rw [e1, hp]
      cases hF : (oO (E.fs.get f) fun x => x) with
      | none => exact ⟨fun x h => (by cases h), fun x N' H' h => (by cases h)⟩
      | some F =>
        obtain ⟨y, h1, h2⟩ := oO_some hF
        subst h2
        obtain ⟨pu, m, fn, h3, h4, h5⟩ := hE.fs f F h1
        exact callB_sound hfol (callX_sound hfol hE d) h3 h4 h5 hvs hO hL
end
section
variable {β : Type}
noncomputable def aLm (x : AV) (f : Nat → Option β) : Option β := @AV.rec (fun _ => Option β) (fun _ => none) (fun _ _ => none) f (fun _ _ => none) (fun _ _ _ _ _ _ => none) (f 0) none none (fun _ => none) (fun _ _ _ _ => none) x
noncomputable def aZ (s x : AV) (f : Int → Option β) : Option β := aB s fun b => aLm x fun n => @Bool.rec (fun _ => Option β) (f (.ofNat n)) (@Nat.rec (fun _ => Option β) none (fun m _ => f (.negSucc m)) n) b
noncomputable def aF (x : AV) (y : Option β) : Option β := aB x fun b => @Bool.rec (fun _ => Option β) y none b
noncomputable def rCc (r : Rp) (f : AV → Option β) : Option β := @Rp.rec (fun _ => Option β) none f (fun _ _ _ _ _ _ => none) r
noncomputable def r2 (r : Rp) (f : AV → AV → Option β) : Option β := @Rp.rec (fun _ => Option β) none (fun _ => none) (fun _ _ l r _ _ => rCc l fun x => rCc r fun y => f x y) r
end
noncomputable def c2 (r : Rp) : Option (AV × AV) := @Option.rec (AV × AV) (fun _ => Option (AV × AV)) (oO (idxR r 0) fun x => oO (idxR r 1) fun y => some (x, y)) some (r2 r fun x y => some (x, y))
noncomputable def c4f (r : Rp) : Option (AV × AV × AV × AV) := @Rp.rec (fun _ => Option (AV × AV × AV × AV)) none (fun _ => none) (fun _ _ l r _ _ => r2 l fun s x => r2 r fun t y => some (s, x, t, y)) r
noncomputable def c4 (r : Rp) : Option (AV × AV × AV × AV) := @Option.rec (AV × AV × AV × AV) (fun _ => Option (AV × AV × AV × AV)) (oO (idxR r 0) fun x => oO (idxR r 1) fun y => oO (idxR r 2) fun t => oO (idxR r 3) fun w => some (x, y, t, w)) some (c4f r)
noncomputable def smN (n : Nat) : Bool := Nat.blt n 1000000000000000000000000000000000000000000000000000000000000000000000000
noncomputable def dZ {β : Type} (v : XV) (f : Int → Option β) : Option β := xA v fun n r => bT (Nat.beq n 2) (oO (c2 r) fun p => aZ p.1 p.2 fun z => bT (smN z.natAbs) (f z))
noncomputable def dQ2 {β : Type} (v : XV) (f : Int → Nat → Option β) : Option β := xA v fun n r => bT (Nat.beq n 4) (oO (c4 r) fun p => aZ p.1 p.2.1 fun z => aF p.2.2.1 (aLm p.2.2.2 fun d =>
  bT (Nat.blt 0 d) (bT (Nat.beq (Nat.gcd z.natAbs d) 1) (bT (smN z.natAbs) (bT (smN d) (f z d))))))
noncomputable def dW {β : Type} (v : XV) (f : Int → Option β) : Option β := xI v fun k x => bT (Nat.beq (kN k) 3) (bI (ltI x (-9223372036854775808)) none (bI (ltI 9223372036854775807 x) none (f x)))
noncomputable def rZ (z : Int) : Rp := @Int.rec (fun _ => Rp) (fun n => .n 1 true (.c (.b false)) (.c (.l n))) (fun n => .n 1 true (.c (.b true)) (.c (.l (Nat.succ n)))) z
noncomputable def xZ (z : Int) : XD := .a 2 (rZ z)
noncomputable def xQ (z : Int) (d : Nat) : XD := .a 4 (.n 2 true (rZ z) (.n 1 true (.c (.b false)) (.c (.l d))))
noncomputable def dvZ (z : Int) (g : Nat) : Int := @Int.rec (fun _ => Int) (fun n => .ofNat (Nat.div n g)) (fun n => Int.neg (.ofNat (Nat.div (Nat.succ n) g))) z
noncomputable def rdQg (z : Int) (d g : Nat) : XD := xQ (dvZ z g) (Nat.div d g)
noncomputable def rdQ (z : Int) (d : Nat) : XD := rdQg z d (Nat.gcd z.natAbs d)
noncomputable def sgZ (y z : Int) : Int := @Int.rec (fun _ => Int) (fun _ => z) (fun _ => Int.neg z) y
noncomputable def xW (n : Int) : XD := .c (.i .i64 n)
noncomputable def xBo (b : Bool) : XD := .c (.b b)
noncomputable def cmZ (x y : Int) : Int := bI (ltI x y) (-1) (bI (ltI y x) 1 0)
abbrev Prm := List XV → Option (List XD)
noncomputable def l1 (f : XV → Option (List XD)) : Prm := fun vs => @List.rec XV (fun _ => Option (List XD)) none (fun v r _ => @List.rec XV (fun _ => Option (List XD)) (f v) (fun _ _ _ => none) r) vs
noncomputable def l2 (f : XV → XV → Option (List XD)) : Prm := fun vs => @List.rec XV (fun _ => Option (List XD)) none (fun v r _ => @List.rec XV (fun _ => Option (List XD)) none (fun v2 r2 _ => @List.rec XV (fun _ => Option (List XD)) (f v v2) (fun _ _ _ => none) r2) r) vs
noncomputable def q1 (f : Int → Nat → Option (List XD)) : Prm := l1 fun v => dQ2 v f
noncomputable def q2 (f : Int → Nat → Int → Nat → Option (List XD)) : Prm := l2 fun v v2 => dQ2 v fun a b => dQ2 v2 fun c d => f a b c d
noncomputable def z1 (f : Int → Option (List XD)) : Prm := l1 fun v => dZ v f
noncomputable def z2 (f : Int → Int → Option (List XD)) : Prm := l2 fun v v2 => dZ v fun a => dZ v2 fun b => f a b
noncomputable def w1 (f : Int → Option (List XD)) : Prm := l1 fun v => dW v f
noncomputable def w2 (f : Int → Int → Option (List XD)) : Prm := l2 fun v v2 => dW v fun a => dW v2 fun b => f a b
noncomputable def sqBt (n : Nat) (k : Nat) : Nat → Nat := @Nat.rec (fun _ => Nat → Nat) (fun s => s) (fun j ih s => bI (Nat.ble (Nat.mul (Nat.add s (Nat.pow 2 j)) (Nat.add s (Nat.pow 2 j))) n) (ih (Nat.add s (Nat.pow 2 j))) (ih s)) k
noncomputable def sqT (n s : Nat) (f : Nat → Option (List XD)) : Option (List XD) := bT (Nat.ble (Nat.mul s s) n) (bT (Nat.blt n (Nat.mul (Nat.succ s) (Nat.succ s))) (f s))
noncomputable def sqN (n : Nat) (f : Nat → Option (List XD)) : Option (List XD) := sqT n (sqBt n (Nat.succ (Nat.div (Nat.log2 n) 2)) 0) f
noncomputable def sqZ (z : Int) (f : Nat → Option (List XD)) : Option (List XD) := @Int.rec (fun _ => Option (List XD)) (fun n => sqN n f) (fun _ => none) z
noncomputable def pAddX : Prm := q2 fun a b c d => some [rdQ (Int.add (Int.mul a d) (Int.mul c b)) (Nat.mul b d)]
noncomputable def pSubX : Prm := q2 fun a b c d => some [rdQ (Int.sub (Int.mul a d) (Int.mul c b)) (Nat.mul b d)]
noncomputable def pMulX : Prm := q2 fun a b c d => some [rdQ (Int.mul a c) (Nat.mul b d)]
noncomputable def pDivX : Prm := q2 fun a b c d => bI (eqI c 0) none (some [rdQ (sgZ c (Int.mul a d)) (Nat.mul b c.natAbs), xW 0])
noncomputable def pNegX : Prm := q1 fun a b => some [xQ (Int.neg a) b]
noncomputable def pCmpX : Prm := q2 fun a b c d => some [xW (cmZ (Int.mul a d) (Int.mul c b))]
noncomputable def pSignX : Prm := q1 fun a _ => some [xW (cmZ a 0)]
noncomputable def pFromX : Prm := w1 fun a => some [xQ a 1]
noncomputable def pFloorX : Prm := q1 fun a b => some [xZ (@Int.rec (fun _ => Int) (fun n => .ofNat (Nat.div n b)) (fun n => .negSucc (Nat.div n b)) a)]
noncomputable def pMakeX : Prm := z2 fun a b => bI (eqI b 0) none (some [rdQ (sgZ b a) b.natAbs, xW 0])
noncomputable def pFracX : Prm := w2 fun a b => bI (eqI b 0) none (some [rdQ (sgZ b a) b.natAbs])
noncomputable def xRR (z w : Int) : XD := .a 4 (.n 2 true (rZ z) (rZ w))
noncomputable def pSqrtX : Prm := q1 fun a b => @Int.rec (fun _ => Option (List XD)) (fun n => sqN n fun s => sqN b fun t => bI (bA (Nat.beq (Nat.mul s s) n) (Nat.beq (Nat.mul t t) b)) (some [xRR s t, xBo true]) (some [xRR 0 0, xBo false])) (fun _ => some [xRR 0 0, xBo false]) a
noncomputable def pValidX : Prm := q1 fun _ _ => some [xBo true]
noncomputable def nSignX : Prm := z1 fun a => some [xW (cmZ a 0)]
noncomputable def nCmpX : Prm := z2 fun a b => some [xW (cmZ a b)]
noncomputable def nFromX : Prm := w1 fun a => some [xZ a]
noncomputable def nNegX : Prm := z1 fun a => some [xZ (Int.neg a)]
noncomputable def nMulX : Prm := z2 fun a b => some [xZ (Int.mul a b)]
noncomputable def nAddX : Prm := z2 fun a b => some [xZ (Int.add a b)]
noncomputable def nDivModX : Prm := z2 fun a b => bI (eqI b 0) none (some [xZ (Int.fdiv a b), xZ (Int.fmod a b), xW 0])
noncomputable def nGCDX : Prm := z2 fun a b => some [xZ (.ofNat (Nat.gcd a.natAbs b.natAbs))]
noncomputable def nSqrtX : Prm := z1 fun a => sqZ a fun s => some [xZ (.ofNat s), xW 0]
noncomputable def nInt64X : Prm := z1 fun a => bI (ltI a (-9223372036854775808)) none (bI (ltI 9223372036854775807 a) none (some [xW a, xBo true]))
section
variable {P : Program}
def AC (x : AV) (u : CellD) : Prop := ∀ A Z w β v, RdA A Z w β v x → RdC Z w v u
def CA (u : CellD) (x : AV) : Prop := ∀ A Z w β v, RdC Z w v u → RdA A Z w β v x
theorem AC.b (b : Bool) : AC (.b b) (.b b) := fun A Z w β v h => by
  cases h with
  | b => exact .b b
  | f _ _ _ _ h1 => cases h1
theorem AC.i (k : IntKind) (n : Int) : AC (.i k n) (.i k n) := fun A Z w β v h => by
  cases h with
  | i => exact .i k n
  | f _ _ _ _ h1 => cases h1
theorem AC.l (n : Nat) : AC (.l n) (cL n) := fun A Z w β v h => by
  cases h with
  | l _ _ h => exact h
  | f _ _ _ _ h1 => cases h1
theorem cL_zero : cL ((0 : Nat) : Int) = .s 0 [] := by
  have : lim (0 : Nat) = [] := by unfold lim; rfl
  show CellD.s (lim 0).length ((lim 0).map (CellD.i .u32)) = _
  rw [this]; rfl
theorem AC.z : AC .z (cL ((0 : Nat) : Int)) := fun A Z w β v h => by
  cases h with
  | z => rw [cL_zero]; exact .s0 none 0 (by omega)
  | f _ _ _ _ h1 => cases h1
theorem CA.b (b : Bool) : CA (.b b) (.b b) := fun A Z w β v h => by cases h with
  | b => exact .b b
theorem CA.i (k : IntKind) (n : Int) : CA (.i k n) (.i k n) := fun A Z w β v h => by cases h with
  | i => exact .i k n
theorem CA.l (n : Nat) : CA (cL n) (.l n) := fun _A _Z _w _β v h => .l v n h
def ACs : List AV → List CellD → Prop
  | [], [] => True
  | x :: xs, u :: us => AC x u ∧ ACs xs us
  | _, _ => False
def CAs : List CellD → List AV → Prop
  | [], [] => True
  | u :: us, x :: xs => CA u x ∧ CAs us xs
  | _, _ => False
theorem ACs.reads {A Z : Nat → Prop} {w : World} {β : Nat → Pl} : ∀ {xs : List AV} {us : List CellD} {vs : List Value}, ACs xs us → RdAs A Z w β vs xs → RdCs Z w vs us
  | [], [], vs, _, h => by
    have : vs = [] := List.eq_nil_of_length_eq_zero h.1
    subst this; exact RdCs.nil
  | x :: xs, y :: us, [], _, h => absurd h.1 (by simp)
  | x :: xs, y :: us, v :: vs, hc, h => by
    obtain ⟨h1, h2⟩ := h.uncons
    exact RdCs.cons (hc.1 _ _ _ _ _ h1) (hc.2.reads h2)
  | [], _ :: _, _, hc, _ => hc.elim
  | _ :: _, [], _, hc, _ => hc.elim
theorem CAs.len : ∀ {us : List CellD} {xs : List AV}, CAs us xs → us.length = xs.length
  | [], [], _ => rfl
  | _ :: us, _ :: xs, h => by simp [h.2.len]
  | [], _ :: _, h => h.elim
  | _ :: _, [], h => h.elim
theorem CAs.at : ∀ {us : List CellD} {xs : List AV}, CAs us xs → ∀ {j : Nat} {x : AV}, xs[j]? = some x → ∃ y, us[j]? = some y ∧ CA y x
  | [], [], _, j, x, h => by simp at h
  | y :: us, x0 :: xs, h, 0, x, hx => by simp at hx; subst hx; exact ⟨y, rfl, h.1⟩
  | y :: us, x0 :: xs, h, j + 1, x, hx => by simpa using h.2.at (by simpa using hx)
  | [], _ :: _, h, _, _, _ => h.elim
  | _ :: _, [], h, _, _, _ => h.elim
theorem CAs.reads {A Z : Nat → Prop} {w : World} {β : Nat → Pl} {us : List CellD} {xs : List AV} {vs : List Value} (hc : CAs us xs) (h : RdCs Z w vs us) : RdAs A Z w β vs xs := by
  refine ⟨h.1.trans hc.len, fun j v x hv hx => ?_⟩
  obtain ⟨y, h1, h2⟩ := hc.at hx
  exact h2 _ _ _ _ _ (h.2 j v y hv h1)
def InD (x : XV) (d : D0) : Prop := ∀ A Z w β v, RdX2 A Z w β v x → RdV Z w v d
def OutD (d : D0) (x : XD) : Prop := xdok x ∧ ∀ A Z w β v, RdV Z w v d → RdD A Z w β v x
def InL : List XV → List D0 → Prop
  | [], [] => True
  | x :: xs, u :: us => InD x u ∧ InL xs us
  | _, _ => False
def OutL : List D0 → List XD → Prop
  | [], [] => True
  | u :: us, x :: xs => OutD u x ∧ OutL us xs
  | _, _ => False
theorem InL.reads {A Z : Nat → Prop} {w : World} {β : Nat → Pl} : ∀ {xs : List XV} {us : List D0} {vs : List Value}, InL xs us → RdXs A Z w β vs xs → RdL Z w vs us
  | [], [], vs, _, h => by
    have : vs = [] := List.eq_nil_of_length_eq_zero h.1
    subst this; exact RdL.nil
  | x :: xs, y :: us, [], _, h => absurd h.1 (by simp)
  | x :: xs, y :: us, v :: vs, hc, h => by
    exact RdL.cons (hc.1 _ _ _ _ _ (h.2 0 v x rfl rfl)) (hc.2.reads (A := A) (β := β) ⟨by have := h.1; simpa using this, fun j u z hu hz => h.2 (j + 1) u z (by simpa using hu) (by simpa using hz)⟩)
  | [], _ :: _, _, hc, _ => hc.elim
  | _ :: _, [], _, hc, _ => hc.elim
theorem OutL.ok : ∀ {us : List D0} {xs : List XD}, OutL us xs → ∀ d ∈ xs, xdok d
  | [], [], _, d, h => by cases h
  | _ :: us, x :: xs, h, d, hd => by
    rcases List.mem_cons.1 hd with rfl | hd
    · exact h.1.1
    · exact h.2.ok d hd
  | [], _ :: _, h, _, _ => h.elim
  | _ :: _, [], h, _, _ => h.elim
theorem OutL.reads {A Z : Nat → Prop} {w : World} {β : Nat → Pl} : ∀ {us : List D0} {xs : List XD} {vs : List Value}, OutL us xs → RdL Z w vs us → RdDs A Z w β vs xs
  | [], [], vs, _, h => by
    have : vs = [] := List.eq_nil_of_length_eq_zero h.1
    subst this; exact ⟨rfl, fun j v d hv => by simp at hv⟩
  | y :: us, x :: xs, [], _, h => absurd h.1 (by simp)
  | y :: us, x :: xs, v :: vs, hc, h => by
    obtain ⟨h1, h2⟩ := h.uncons
    have h3 := hc.2.reads (A := A) (β := β) h2
    refine ⟨by simp [h3.1], fun j u d hu hd => ?_⟩
    cases j with
    | zero => simp at hu hd; subst hu hd; exact hc.1.2 _ _ _ _ _ h1
    | succ j => simp at hu hd; exact h3.2 j u d hu hd
  | [], _ :: _, _, hc, _ => hc.elim
  | _ :: _, [], _, hc, _ => hc.elim
theorem outR {us : List D0} {xs : List XD} (hc : OutL us xs) {A Z : Nat → Prop} {w : World} {β : Nat → Pl} {v : Value} (h : RdR Z w v us) : RdX2 A Z w β v (joinX xs) := by
  match us, xs, hc, h with
  | [d], [x], hc, h => exact ofD_reads.2 (hc.1.2 _ _ _ _ _ h)
  | [], [], hc, h =>
    obtain ⟨vs, e, h⟩ := h
    exact ⟨vs, e, hc.reads h⟩
  | d :: d' :: us, x :: x' :: xs, hc, h =>
    obtain ⟨vs, e, h⟩ := h
    exact ⟨vs, e, hc.reads h⟩
  | [], _ :: _, hc, _ => exact hc.elim
  | _ :: _, [], hc, _ => exact hc.elim
  | [d], x :: x' :: xs, hc, _ => exact hc.2.elim
  | d :: d' :: us, [x], hc, _ => exact hc.2.elim
theorem callP_of {f : FuncId} {vs : List XV} {us rs : List D0} {xs : List XD} (hok : Ok P f us rs) (hi : InL vs us) (ho : OutL rs xs) : CallP P f vs (joinX xs) := by
  refine ⟨hok.cal, joinX_ok ho.ok, fun Z A β args w hZ hr => ?_⟩
  refine (hok.run Z args w hZ (hi.reads hr)).mono fun e w' h => ?_
  obtain ⟨v, rfl, h1, h2⟩ := h
  exact ⟨v, rfl, fun A' β' => outR ho h1, h2⟩
theorem aLm_some {β : Type} {x : AV} {f : Nat → Option β} {y : β} (h : aLm x f = some y) : ∃ n : Nat, AC x (cL n) ∧ f n = some y := by
  cases x with
  | l n => exact ⟨n, AC.l n, h⟩
  | z => exact ⟨0, AC.z, h⟩
  | _ => cases h
theorem aZ_some {β : Type} {s x : AV} {f : Int → Option β} {y : β} (h : aZ s x f = some y) : ∃ z : Int, AC s (.b (decide (z < 0))) ∧ AC x (cL z) ∧ f z = some y := by
  obtain ⟨b, rfl, h⟩ := aB_some h
  obtain ⟨n, hn, h⟩ := aLm_some h
  cases b with
  | false => exact ⟨(n : Int), by rw [show decide ((n : Int) < 0) = false by simp]; exact AC.b _, hn, h⟩
  | true =>
    cases n with
    | zero => cases h
    | succ m =>
      refine ⟨.negSucc m, by rw [show decide (Int.negSucc m < 0) = true from decide_eq_true (Int.negSucc_lt_zero m)]; exact AC.b _, ?_, h⟩
      have : cL (Int.negSucc m) = cL ((m + 1 : Nat) : Int) := by unfold cL; rfl
      rw [this]; exact hn
theorem r2_some {β : Type} {r : Rp} {f : AV → AV → Option β} {y : β} (h : r2 r f = some y) : ∃ a b, r.flat = [a, b] ∧ f a b = some y := by
  cases r with
  | n ls pu l r =>
    cases l with
    | c a =>
      cases r with
      | c b => exact ⟨a, b, rfl, h⟩
      | _ => cases h
    | _ => cases h
  | _ => cases h
theorem c2_some {r : Rp} {p : AV × AV} (hr : r.ok) (hl : r.flat.length = 2) (h : c2 r = some p) : r.flat = [p.1, p.2] := by
  unfold c2 at h
  cases h1 : (r2 r fun x y => some (x, y)) with
  | some q =>
    rw [h1] at h
    injection h with h
    subst h
    obtain ⟨a, b, e, h2⟩ := r2_some h1
    injection h2 with h2
    subst h2
    exact e
  | none =>
    rw [h1] at h
    obtain ⟨x, hx, h⟩ := oO_some (show (oO (idxR r 0) fun x => oO (idxR r 1) fun y => some (x, y)) = some p from h)
    obtain ⟨y, hy, h⟩ := oO_some h
    injection h with h
    subst h
    rw [idxR_spec _ _ hr] at hx hy
    match hf : r.flat, hl with
    | [a, b], _ => rw [hf] at hx hy; simp at hx hy; rw [hx, hy]
theorem c4_some {r : Rp} {p : AV × AV × AV × AV} (hr : r.ok) (hl : r.flat.length = 4) (h : c4 r = some p) : r.flat = [p.1, p.2.1, p.2.2.1, p.2.2.2] := by
  unfold c4 at h
  cases h1 : c4f r with
  | some q =>
    rw [h1] at h
    injection h with h
    subst h
    cases r with
    | n ls pu l r =>
      obtain ⟨a, b, e1, h2⟩ := r2_some (show (r2 l fun s x => r2 r fun t y => some (s, x, t, y)) = some q from h1)
      obtain ⟨c, d, e2, h3⟩ := r2_some h2
      injection h3 with h3
      subst h3
      show l.flat ++ r.flat = _
      rw [e1, e2]; rfl
    | _ => cases h1
  | none =>
    rw [h1] at h
    obtain ⟨x, hx, h⟩ := oO_some (show (oO (idxR r 0) fun x => oO (idxR r 1) fun y => oO (idxR r 2) fun t => oO (idxR r 3) fun w => some (x, y, t, w)) = some p from h)
    obtain ⟨y, hy, h⟩ := oO_some h
    obtain ⟨t, ht, h⟩ := oO_some h
    obtain ⟨w, hw, h⟩ := oO_some h
    injection h with h
    subst h
    rw [idxR_spec _ _ hr] at hx hy ht hw
    match hf : r.flat, hl with
    | [a, b, c, d], _ => rw [hf] at hx hy ht hw; simp at hx hy ht hw; rw [hx, hy, ht, hw]
theorem inA {n : Nat} {r : Rp} {us : List CellD} (h : ACs r.flat us) : InD (.a n r) (.a us) := fun A Z w β v hv => by
  obtain ⟨cs, e, hr⟩ := hv
  exact ⟨cs, e, h.reads hr⟩
theorem dZ_some {β : Type} {v : XV} {f : Int → Option β} {y : β} (hv : xok v) (h : dZ v f = some y) : ∃ z : Int, InD v (dI z) ∧ smN z.natAbs = true ∧ f z = some y := by
  cases v with
  | a n r =>
    obtain ⟨hn, h⟩ := bT_some (show bT (Nat.beq n 2) (oO (c2 r) fun p => aZ p.1 p.2 fun z => bT (smN z.natAbs) (f z)) = some y from h)
    obtain ⟨p, hp, h⟩ := oO_some h
    obtain ⟨z, h1, h2, h⟩ := aZ_some h
    obtain ⟨h3, h⟩ := bT_some h
    have hn := Nat.eq_of_beq_eq_true hn
    have hf := c2_some hv.1 (by rw [← hv.2]; exact hn) hp
    exact ⟨z, inA (by rw [hf]; exact ⟨h1, h2, trivial⟩), h3, h⟩
  | _ => cases h
end
section
variable {P : Program} {g : FuncId}
theorem smN_sz {k : Nat} (hk : 8 ≤ k) {z : Int} (h : smN z.natAbs = true) : Sz k z := by
  have h1 : z.natAbs < 1000000000000000000000000000000000000000000000000000000000000000000000000 := blt_iff.1 h
  have h2 := pw_le hk
  have e : pw 8 = 1000000000000000000000000000000000000000000000000000000000000000000000000 := by decide +kernel
  rw [e] at h2
  exact ⟨by omega, by omega⟩
theorem dQ2_some {β : Type} {v : XV} {f : Int → Nat → Option β} {y : β} (hv : xok v) (h : dQ2 v f = some y) : ∃ x : Rat, InD v (dR x) ∧ Rz 300 x ∧ f x.num x.den = some y := by
  cases v with
  | a n r =>
    obtain ⟨hn, h⟩ := bT_some (show bT (Nat.beq n 4) (oO (c4 r) fun p => aZ p.1 p.2.1 fun z => aF p.2.2.1 (aLm p.2.2.2 fun d =>
      bT (Nat.blt 0 d) (bT (Nat.beq (Nat.gcd z.natAbs d) 1) (bT (smN z.natAbs) (bT (smN d) (f z d)))))) = some y from h)
    obtain ⟨p, hp, h⟩ := oO_some h
    obtain ⟨z, h1, h2, h⟩ := aZ_some h
    obtain ⟨b, hb, h⟩ := aB_some h
    cases b with
    | true => cases h
    | false =>
      obtain ⟨d, hd, h⟩ := aLm_some h
      obtain ⟨g1, h⟩ := bT_some h
      obtain ⟨g2, h⟩ := bT_some h
      obtain ⟨g3, h⟩ := bT_some h
      obtain ⟨g4, h⟩ := bT_some h
      have hn := Nat.eq_of_beq_eq_true hn
      have hf := c4_some hv.1 (by rw [← hv.2]; exact hn) hp
      have hd0 : 0 < d := blt_iff.1 g1
      have hg : Nat.gcd z.natAbs d = 1 := Nat.eq_of_beq_eq_true g2
      refine ⟨⟨z, d, by omega, hg⟩, inA (by
        rw [hf]
        refine ⟨h1, h2, ?_, hd, trivial⟩
        rw [hb, show decide (((d : Nat) : Int) < 0) = false by simp]
        exact AC.b _), ⟨smN_sz (by decide) g3, smN_sz (by decide) (by simpa using g4)⟩, h⟩
  | _ => cases h
theorem dW_some {β : Type} {v : XV} {f : Int → Option β} {y : β} (h : dW v f = some y) : ∃ x : Int, InD v (.c (.i .i64 x)) ∧ -9223372036854775808 ≤ x ∧ x ≤ 9223372036854775807 ∧ f x = some y := by
  obtain ⟨k, x, rfl, h3⟩ := xI_some (show xI v (fun k x => bT (Nat.beq (kN k) 3) (bI (ltI x (-9223372036854775808)) none (bI (ltI 9223372036854775807 x) none (f x)))) = some y from h)
  obtain ⟨hk, h4⟩ := bT_some h3
  have hk : k = .i64 := by cases k <;> first | rfl | cases hk
  subst hk
  cases h1 : ltI x (-9223372036854775808) with
  | true => rw [h1] at h4; cases h4
  | false =>
    rw [h1] at h4
    have h5 : bI (ltI 9223372036854775807 x) none (f x) = some y := h4
    cases h2 : ltI 9223372036854775807 x with
    | true => rw [h2] at h5; cases h5
    | false =>
      rw [h2] at h5
      rw [ltI_eq] at h1 h2
      simp only [decide_eq_false_iff_not] at h1 h2
      exact ⟨x, fun A Z w β v hv => AC.i _ _ _ _ _ _ _ hv, by omega, by omega, h5⟩
theorem l1_some {f : XV → Option (List XD)} {vs : List XV} {ds : List XD} (h : l1 f vs = some ds) : ∃ v, vs = [v] ∧ f v = some ds := by
  match vs, h with
  | [v], h => exact ⟨v, rfl, h⟩
theorem l2_some {f : XV → XV → Option (List XD)} {vs : List XV} {ds : List XD} (h : l2 f vs = some ds) : ∃ v v2, vs = [v, v2] ∧ f v v2 = some ds := by
  match vs, h with
  | [v, v2], h => exact ⟨v, v2, rfl, h⟩
def PrOk (P : Program) (g : FuncId) (p : Prm) : Prop := ∀ vs ds, (∀ v ∈ vs, xok v) → p vs = some ds → CallP P g vs (joinX ds)
theorem q1_ok {f : Int → Nat → Option (List XD)} (h : ∀ (x : Rat) ds, Rz 300 x → f x.num x.den = some ds → ∃ rs, Ok P g [dR x] rs ∧ OutL rs ds) : PrOk P g (q1 f) := fun vs ds hvs hp => by
  obtain ⟨v, rfl, h1⟩ := l1_some hp
  obtain ⟨x, i1, s1, h1⟩ := dQ2_some (hvs v (by simp)) h1
  obtain ⟨rs, ho, hl⟩ := h x ds s1 h1
  exact callP_of ho ⟨i1, trivial⟩ hl
theorem q2_ok {f : Int → Nat → Int → Nat → Option (List XD)} (h : ∀ (x y : Rat) ds, Rz 300 x → Rz 300 y → f x.num x.den y.num y.den = some ds → ∃ rs, Ok P g [dR x, dR y] rs ∧ OutL rs ds) : PrOk P g (q2 f) := fun vs ds hvs hp => by
  obtain ⟨v, v2, rfl, h1⟩ := l2_some hp
  obtain ⟨x, i1, s1, h1⟩ := dQ2_some (hvs v (by simp)) h1
  obtain ⟨y, i2, s2, h1⟩ := dQ2_some (hvs v2 (by simp)) h1
  obtain ⟨rs, ho, hl⟩ := h x y ds s1 s2 h1
  exact callP_of ho ⟨i1, i2, trivial⟩ hl
theorem z1_ok {f : Int → Option (List XD)} (h : ∀ (x : Int) ds, (∀ k, 8 ≤ k → Sz k x) → f x = some ds → ∃ rs, Ok P g [dI x] rs ∧ OutL rs ds) : PrOk P g (z1 f) := fun vs ds hvs hp => by
  obtain ⟨v, rfl, h1⟩ := l1_some hp
  obtain ⟨x, i1, s1, h1⟩ := dZ_some (hvs v (by simp)) h1
  obtain ⟨rs, ho, hl⟩ := h x ds (fun k hk => smN_sz hk s1) h1
  exact callP_of ho ⟨i1, trivial⟩ hl
theorem z2_ok {f : Int → Int → Option (List XD)} (h : ∀ (x y : Int) ds, (∀ k, 8 ≤ k → Sz k x) → (∀ k, 8 ≤ k → Sz k y) → f x y = some ds → ∃ rs, Ok P g [dI x, dI y] rs ∧ OutL rs ds) : PrOk P g (z2 f) := fun vs ds hvs hp => by
  obtain ⟨v, v2, rfl, h1⟩ := l2_some hp
  obtain ⟨x, i1, s1, h1⟩ := dZ_some (hvs v (by simp)) h1
  obtain ⟨y, i2, s2, h1⟩ := dZ_some (hvs v2 (by simp)) h1
  obtain ⟨rs, ho, hl⟩ := h x y ds (fun k hk => smN_sz hk s1) (fun k hk => smN_sz hk s2) h1
  exact callP_of ho ⟨i1, i2, trivial⟩ hl
theorem w1_ok {f : Int → Option (List XD)} (h : ∀ (x : Int) ds, -9223372036854775808 ≤ x → x ≤ 9223372036854775807 → f x = some ds → ∃ rs, Ok P g [.c (.i .i64 x)] rs ∧ OutL rs ds) : PrOk P g (w1 f) := fun vs ds hvs hp => by
  obtain ⟨v, rfl, h1⟩ := l1_some hp
  obtain ⟨x, i1, a1, b1, h1⟩ := dW_some h1
  obtain ⟨rs, ho, hl⟩ := h x ds a1 b1 h1
  exact callP_of ho ⟨i1, trivial⟩ hl
theorem w2_ok {f : Int → Int → Option (List XD)} (h : ∀ (x y : Int) ds, -9223372036854775808 ≤ x → x ≤ 9223372036854775807 → -9223372036854775808 ≤ y → y ≤ 9223372036854775807 → f x y = some ds → ∃ rs, Ok P g [.c (.i .i64 x), .c (.i .i64 y)] rs ∧ OutL rs ds) : PrOk P g (w2 f) := fun vs ds hvs hp => by
  obtain ⟨v, v2, rfl, h1⟩ := l2_some hp
  obtain ⟨x, i1, a1, b1, h1⟩ := dW_some h1
  obtain ⟨y, i2, a2, b2, h1⟩ := dW_some h1
  obtain ⟨rs, ho, hl⟩ := h x y ds a1 b1 a2 b2 h1
  exact callP_of ho ⟨i1, i2, trivial⟩ hl
theorem out_w (n : Int) : OutD (.c (.i .i64 n)) (xW n) := ⟨trivial, fun _A _Z _w _β _v h => CA.i _ _ _ _ _ _ _ h⟩
theorem out_b (b : Bool) : OutD (.c (.b b)) (xBo b) := ⟨trivial, fun _A _Z _w _β _v h => CA.b _ _ _ _ _ _ h⟩
theorem rZ_spec (z : Int) : (rZ z).ok ∧ CAs (cI z) (rZ z).flat ∧ (rZ z).flat.length = 2 ∧ ∀ x ∈ (rZ z).flat, puA x = true := by
  cases z with
  | ofNat n => exact ⟨⟨rfl, trivial, trivial, fun _ x hx => by rcases List.mem_cons.1 hx with rfl | hx; rfl; rw [List.mem_singleton.1 hx]; rfl⟩, ⟨by rw [show decide (Int.ofNat n < 0) = false by simp]; exact CA.b _, CA.l n, trivial⟩, rfl, fun x hx => by rcases List.mem_cons.1 hx with rfl | hx; rfl; rw [List.mem_singleton.1 hx]; rfl⟩
  | negSucc n => exact ⟨⟨rfl, trivial, trivial, fun _ x hx => by rcases List.mem_cons.1 hx with rfl | hx; rfl; rw [List.mem_singleton.1 hx]; rfl⟩, ⟨by rw [show decide (Int.negSucc n < 0) = true from decide_eq_true (Int.negSucc_lt_zero n)]; exact CA.b _, (by
      have : cL (Int.negSucc n) = cL ((n + 1 : Nat) : Int) := by unfold cL; rfl
      rw [this]; exact CA.l _), trivial⟩, rfl, fun x hx => by rcases List.mem_cons.1 hx with rfl | hx; rfl; rw [List.mem_singleton.1 hx]; rfl⟩
theorem out_a {us : List CellD} {n : Nat} {r : Rp} (h1 : r.ok) (h2 : n = r.flat.length) (h : CAs us r.flat) : OutD (.a us) (.a n r) := ⟨⟨h1, h2⟩, fun A Z w β v hv => by
  obtain ⟨cs, e, hr⟩ := hv
  exact ⟨cs, e, h.reads hr⟩⟩
theorem out_z (z : Int) : OutD (dI z) (xZ z) := by
  obtain ⟨h1, h2, h3, _⟩ := rZ_spec z
  exact out_a h1 h3.symm h2
theorem CAs.append : ∀ {us us' : List CellD} {xs xs' : List AV}, CAs us xs → CAs us' xs' → CAs (us ++ us') (xs ++ xs')
  | [], _, [], _, _, h => h
  | _ :: _, _, _ :: _, _, h, h' => ⟨h.1, h.2.append h'⟩
  | [], _, _ :: _, _, h, _ => h.elim
  | _ :: _, _, [], _, h, _ => h.elim
theorem out_rr (z t : Int) : OutD (dQ z t) (xRR z t) := by
  obtain ⟨h1, h2, h3, h4⟩ := rZ_spec z
  obtain ⟨g1, g2, g3, g4⟩ := rZ_spec t
  refine out_a (r := .n 2 true (rZ z) (rZ t)) ⟨h3.symm, h1, g1, fun _ x hx => ?_⟩ ?_ (h2.append g2)
  · rcases List.mem_append.1 hx with hx | hx
    · exact h4 x hx
    · exact g4 x hx
  · show 4 = ((rZ z).flat ++ (rZ t).flat).length
    simp [h3, g3]
theorem out_q {x : Rat} {n : Int} {d : Nat} (hn : x.num = n) (hd : x.den = d) : OutD (dR x) (xQ n d) := by
  subst hn hd
  exact out_rr x.num (x.den : Int)
theorem dvZ_eq {z : Int} {g : Nat} (hg : (g : Int) ∣ z) : dvZ z g = z / g := by
  cases z with
  | ofNat n => rfl
  | negSucc n =>
    show -((((n + 1) / g : Nat) : Int)) = _
    obtain ⟨c, hc⟩ := hg
    by_cases h0 : g = 0
    · subst h0; simp at hc
    · have h1 : ((n + 1 : Nat) : Int) = g * (-c) := by rw [Int.mul_neg, ← hc]; rfl
      rw [hc, Int.mul_ediv_cancel_left _ (by omega), Int.natCast_ediv, h1, Int.mul_ediv_cancel_left _ (by omega), Int.neg_neg]
theorem out_mk (n : Int) {d : Nat} (hd : d ≠ 0) : OutD (dR (mkRat n d)) (rdQ n d) := by
  refine out_q ?_ ?_
  · rw [Rat.num_mkRat, if_neg hd, Nat.gcd_comm]
    exact (dvZ_eq (Int.ofNat_dvd_left.2 (Nat.gcd_dvd_left _ _))).symm
  · rw [Rat.den_mkRat, if_neg hd, Nat.gcd_comm]
    rfl
theorem pr_add (h : ∀ {x y : Rat}, Rz 300 x → Rz 300 y → Ok P g [dR x, dR y] [dR (x + y)]) : PrOk P g pAddX := q2_ok fun x y ds hx hy hd => by
  injection hd with hd
  subst hd
  exact ⟨_, h hx hy, by rw [Rat.add_def']; exact out_mk _ (Nat.mul_ne_zero x.den_nz y.den_nz), trivial⟩
theorem pr_sub (h : ∀ {x y : Rat}, Rz 300 x → Rz 300 y → Ok P g [dR x, dR y] [dR (x - y)]) : PrOk P g pSubX := q2_ok fun x y ds hx hy hd => by
  injection hd with hd
  subst hd
  exact ⟨_, h hx hy, by rw [Rat.sub_def']; exact out_mk _ (Nat.mul_ne_zero x.den_nz y.den_nz), trivial⟩
theorem pr_mul (h : ∀ {x y : Rat}, Rz 300 x → Rz 300 y → Ok P g [dR x, dR y] [dR (x * y)]) : PrOk P g pMulX := q2_ok fun x y ds hx hy hd => by
  injection hd with hd
  subst hd
  exact ⟨_, h hx hy, by rw [Rat.mul_def']; exact out_mk _ (Nat.mul_ne_zero x.den_nz y.den_nz), trivial⟩
theorem pr_neg (h : ∀ {x : Rat}, Rz 300 x → Ok P g [dR x] [dR (-x)]) : PrOk P g pNegX := q1_ok fun x ds hx hd => by
  injection hd with hd
  subst hd
  exact ⟨_, h hx, out_q rfl rfl, trivial⟩
theorem pr_valid (h : ∀ {x : Rat}, Rz 300 x → Ok P g [dR x] [.c (.b true)]) : PrOk P g pValidX := q1_ok fun x ds hx hd => by
  injection hd with hd
  subst hd
  exact ⟨_, h hx, out_b true, trivial⟩
end
section
variable {P : Program} {g : FuncId}
theorem cmZ_eq (x y : Int) : cmZ x y = cmpI x y := by
  unfold cmZ cmpI
  rw [ltI_eq, ltI_eq]
  by_cases h : x < y
  · rw [decide_eq_true h, if_pos h]; rfl
  · rw [decide_eq_false h, if_neg h]
    by_cases h2 : y < x
    · rw [decide_eq_true h2, if_pos h2]; rfl
    · rw [decide_eq_false h2, if_neg h2]; rfl
theorem out_wc {a b : Int} (h : a = b) : OutD (.c (.i .i64 a)) (xW b) := by subst h; exact out_w a
theorem out_bc {a b : Bool} (h : a = b) : OutD (.c (.b a)) (xBo b) := by subst h; exact out_b a
theorem out_zc {a b : Int} (h : a = b) : OutD (dI a) (xZ b) := by subst h; exact out_z a
theorem pr_cmp (h : ∀ {x y : Rat}, Rz 300 x → Rz 300 y → Ok P g [dR x, dR y] [.c (.i .i64 (cmpR x y))]) : PrOk P g pCmpX := q2_ok fun x y ds hx hy hd => by
  injection hd with hd
  subst hd
  exact ⟨_, h hx hy, out_wc (by rw [cmZ_eq]; exact cmp_rat.symm), trivial⟩
theorem pr_sign (h : ∀ {x : Rat}, Ok P g [dR x] [.c (.i .i64 (cmpR x 0))]) : PrOk P g pSignX := q1_ok fun x ds hx hd => by
  injection hd with hd
  subst hd
  exact ⟨_, h, out_wc (by rw [cmZ_eq, ← cmpR_num]), trivial⟩
theorem pr_from (h : ∀ {n : Int}, -9223372036854775808 ≤ n → n ≤ 9223372036854775807 → Ok P g [.c (.i .i64 n)] [dR (n : Rat)]) : PrOk P g pFromX := w1_ok fun x ds h1 h2 hd => by
  injection hd with hd
  subst hd
  exact ⟨_, h h1 h2, out_q rfl rfl, trivial⟩
theorem pr_nsign (h : ∀ {x : Int}, Ok P g [dI x] [.c (.i .i64 (cmpI x 0))]) : PrOk P g nSignX := z1_ok fun x ds hx hd => by
  injection hd with hd
  subst hd
  exact ⟨_, h, out_wc (cmZ_eq _ _).symm, trivial⟩
theorem pr_ncmp (h : ∀ {x y : Int}, Sz 1000000 x → Sz 1000000 y → Ok P g [dI x, dI y] [.c (.i .i64 (cmpI x y))]) : PrOk P g nCmpX := z2_ok fun x y ds hx hy hd => by
  injection hd with hd
  subst hd
  exact ⟨_, h (hx _ (by decide)) (hy _ (by decide)), out_wc (cmZ_eq _ _).symm, trivial⟩
theorem pr_nfrom (h : ∀ {x : Int}, -9223372036854775808 ≤ x → x ≤ 9223372036854775807 → Ok P g [.c (.i .i64 x)] [dI x]) : PrOk P g nFromX := w1_ok fun x ds h1 h2 hd => by
  injection hd with hd
  subst hd
  exact ⟨_, h h1 h2, out_z _, trivial⟩
theorem pr_nneg (h : ∀ {x : Int}, Sz 1000000 x → Ok P g [dI x] [dI (-x)]) : PrOk P g nNegX := z1_ok fun x ds hx hd => by
  injection hd with hd
  subst hd
  exact ⟨_, h (hx _ (by decide)), out_z _, trivial⟩
theorem pr_nmul (h : ∀ {x y : Int}, Sz 400000 x → Sz 400000 y → Ok P g [dI x, dI y] [dI (x * y)]) : PrOk P g nMulX := z2_ok fun x y ds hx hy hd => by
  injection hd with hd
  subst hd
  exact ⟨_, h (hx _ (by decide)) (hy _ (by decide)), out_z _, trivial⟩
theorem pr_nadd (h : ∀ {x y : Int}, Sz 900000 x → Sz 900000 y → Ok P g [dI x, dI y] [dI (x + y)]) : PrOk P g nAddX := z2_ok fun x y ds hx hy hd => by
  injection hd with hd
  subst hd
  exact ⟨_, h (hx _ (by decide)) (hy _ (by decide)), out_z _, trivial⟩
theorem pr_ngcd (h : ∀ {x y : Int}, Sz 1000 x → Sz 1000 y → Ok P g [dI x, dI y] [dI (Int.gcd x y : Int)]) : PrOk P g nGCDX := z2_ok fun x y ds hx hy hd => by
  injection hd with hd
  subst hd
  exact ⟨_, h (hx _ (by decide)) (hy _ (by decide)), out_z _, trivial⟩
theorem pr_ndivmod (h : ∀ {x y : Int}, Sz 1000 x → Sz 1000 y → y ≠ 0 → Ok P g [dI x, dI y] [dI (x.fdiv y), dI (x.fmod y), .c (.i .i64 0)]) : PrOk P g nDivModX := z2_ok fun x y ds hx hy hd => by
  cases h0 : eqI y 0 with
  | true => rw [h0] at hd; cases hd
  | false =>
    rw [h0] at hd
    injection hd with hd
    subst hd
    have hy0 : y ≠ 0 := fun e => by subst e; cases h0
    exact ⟨_, h (hx _ (by decide)) (hy _ (by decide)) hy0, out_z _, out_z _, out_w 0, trivial⟩
end
section
variable {P : Program} {g : FuncId}
theorem divInt_sg (x y : Int) : Rat.divInt x y = mkRat (sgZ y x) y.natAbs := by
  cases y with
  | ofNat n => rfl
  | negSucc n => exact Rat.normalize_eq_mkRat (num := -x) (den := n.succ) (by omega)
theorem eqI_ne {y : Int} (h : eqI y 0 = false) : y ≠ 0 := fun e => by subst e; cases h
theorem out_di {x y : Int} (h : y ≠ 0) : OutD (dR (Rat.divInt x y)) (rdQ (sgZ y x) y.natAbs) := by
  rw [divInt_sg]; exact out_mk _ (by omega)
theorem pr_make (h : ∀ {x y : Int}, Sz 999 x → Sz 999 y → y ≠ 0 → Ok P g [dI x, dI y] [dR (Rat.divInt x y), .c (.i .i64 0)]) : PrOk P g pMakeX := z2_ok fun x y ds hx hy hd => by
  cases h0 : eqI y 0 with
  | true => rw [h0] at hd; cases hd
  | false =>
    rw [h0] at hd
    injection hd with hd
    subst hd
    exact ⟨_, h (hx _ (by decide)) (hy _ (by decide)) (eqI_ne h0), out_di (eqI_ne h0), out_w 0, trivial⟩
theorem pr_frac (h : ∀ {n d : Int}, -9223372036854775808 ≤ n → n ≤ 9223372036854775807 → -9223372036854775808 ≤ d → d ≤ 9223372036854775807 → d ≠ 0 → Ok P g [.c (.i .i64 n), .c (.i .i64 d)] [dR (Rat.divInt n d)]) : PrOk P g pFracX := w2_ok fun x y ds h1 h2 h3 h4 hd => by
  cases h0 : eqI y 0 with
  | true => rw [h0] at hd; cases hd
  | false =>
    rw [h0] at hd
    injection hd with hd
    subst hd
    exact ⟨_, h h1 h2 h3 h4 (eqI_ne h0), out_di (eqI_ne h0), trivial⟩
theorem sgZ_mul (c a d : Int) : sgZ c (a * d) = a * sgZ c d := by
  cases c with
  | ofNat n => rfl
  | negSucc n => exact (Int.mul_neg a d).symm
theorem div_mk (x y : Rat) : x / y = mkRat (sgZ y.num (x.num * (y.den : Int))) (x.den * y.num.natAbs) := by
  rw [Rat.div_def, Rat.inv_def, divInt_sg, sgZ_mul, ← Rat.mkRat_mul_mkRat, Rat.mkRat_self]
theorem pr_div (h : ∀ {x y : Rat}, Rz 300 x → Rz 300 y → y ≠ 0 → Ok P g [dR x, dR y] [dR (x / y), .c (.i .i64 0)]) : PrOk P g pDivX := q2_ok fun x y ds hx hy hd => by
  cases h0 : eqI y.num 0 with
  | true => rw [h0] at hd; cases hd
  | false =>
    rw [h0] at hd
    injection hd with hd
    subst hd
    have hn := eqI_ne h0
    have hy0 : y ≠ 0 := fun e => hn (by subst e; rfl)
    exact ⟨_, h hx hy hy0, by rw [div_mk]; exact out_mk _ (Nat.mul_ne_zero x.den_nz (by omega)), out_w 0, trivial⟩
theorem floor_eq (a : Int) {b : Nat} (hb : b ≠ 0) : a.fdiv (b : Int) = @Int.rec (fun _ => Int) (fun n => .ofNat (Nat.div n b)) (fun n => .negSucc (Nat.div n b)) a := by
  cases b with
  | zero => exact absurd rfl hb
  | succ b =>
    cases a with
    | ofNat n =>
      cases n with
      | zero => show (0 : Int) = Int.ofNat (0 / (b + 1)); simp
      | succ n => rfl
    | negSucc n => rfl
theorem pr_floor (h : ∀ {x : Rat}, Rz 300 x → Ok P g [dR x] [dI (x.num.fdiv (x.den : Int))]) : PrOk P g pFloorX := q1_ok fun x ds hx hd => by
  injection hd with hd
  subst hd
  exact ⟨_, h hx, out_zc (floor_eq _ x.den_nz), trivial⟩
end
section
variable {P : Program} {g : FuncId}
theorem sqN_some {n : Nat} {f : Nat → Option (List XD)} {ds : List XD} (h : sqN n f = some ds) : ∃ s : Nat, isqI (n : Int) = (s : Int) ∧ f s = some ds := by
  unfold sqN sqT at h
  obtain ⟨h1, h2⟩ := bT_some h
  obtain ⟨h3, h4⟩ := bT_some h2
  refine ⟨_, isqI_unique (by omega) (by omega) ?_ ?_, h4⟩
  · have := Nat.le_of_ble_eq_true h1; exact_mod_cast this
  · have := blt_iff.1 h3; exact_mod_cast this
theorem pr_nsqrt (h : ∀ {x : Int}, Sz 999 x → Ok P g [dI x] [dI (isqI x), .c (.i .i64 (if x < 0 then 7 else 0))]) : PrOk P g nSqrtX := z1_ok fun x ds hx hd => by
  cases x with
  | negSucc n => cases hd
  | ofNat n =>
    obtain ⟨s, h1, h2⟩ := sqN_some (show sqN n (fun s => some [xZ (.ofNat s), xW 0]) = some ds from hd)
    injection h2 with h2
    subst h2
    exact ⟨_, h (hx _ (by decide)), out_zc h1, out_wc (if_neg (by simp)), trivial⟩
theorem sqI_nat {n s : Nat} (h : isqI (n : Int) = (s : Int)) : sqI (n : Int) = Nat.beq (Nat.mul s s) n := by
  unfold sqI
  rw [h]
  cases hb : Nat.beq (Nat.mul s s) n with
  | true =>
    have := Nat.eq_of_beq_eq_true hb
    rw [beq_iff_eq]; exact_mod_cast this
  | false =>
    have := Nat.ne_of_beq_eq_false hb
    rw [beq_eq_false_iff_ne]; exact fun e => this (by exact_mod_cast e)
theorem out_rrc {z t z' t' : Int} (h1 : z = z') (h2 : t = t') : OutD (dQ z t) (xRR z' t') := by subst h1 h2; exact out_rr z t
theorem pr_sqrt (h : ∀ {x : Rat}, Rz 300 x → Ok P g [dR x] [dQ (if sqR x then isqI x.num else 0) (if sqR x then isqI (x.den : Int) else 0), .c (.b (sqR x))]) : PrOk P g pSqrtX := q1_ok fun x ds hx hd => by
  refine ⟨_, h hx, ?_⟩
  cases hn : x.num with
  | negSucc n =>
    rw [hn] at hd
    have hd : some [xRR 0 0, xBo false] = some ds := hd
    injection hd with hd
    subst hd
    have hs : sqR x = false := by unfold sqR; rw [hn, sqI_neg (Int.negSucc_lt_zero n)]; rfl
    rw [hs]
    exact ⟨out_rrc (if_neg (by simp)) (if_neg (by simp)), out_b false, trivial⟩
  | ofNat n =>
    rw [hn] at hd
    obtain ⟨s, h1, h2⟩ := sqN_some (show sqN n (fun s => sqN x.den fun t => bI (bA (Nat.beq (Nat.mul s s) n) (Nat.beq (Nat.mul t t) x.den)) (some [xRR s t, xBo true]) (some [xRR 0 0, xBo false])) = some ds from hd)
    obtain ⟨t, h3, h4⟩ := sqN_some h2
    have hs : sqR x = bA (Nat.beq (Nat.mul s s) n) (Nat.beq (Nat.mul t t) x.den) := by
      unfold sqR
      rw [hn, show Int.ofNat n = (n : Int) from rfl, sqI_nat h1, sqI_nat h3]
      cases Nat.beq (Nat.mul s s) n <;> rfl
    cases hb : bA (Nat.beq (Nat.mul s s) n) (Nat.beq (Nat.mul t t) x.den) with
    | true =>
      rw [hb] at h4 hs
      have h4 : some [xRR s t, xBo true] = some ds := h4
      injection h4 with h4
      subst h4
      rw [hs]
      exact ⟨out_rrc ((if_pos rfl).trans h1) ((if_pos rfl).trans h3), out_b true, trivial⟩
    | false =>
      rw [hb] at h4 hs
      have h4 : some [xRR 0 0, xBo false] = some ds := h4
      injection h4 with h4
      subst h4
      rw [hs]
      exact ⟨out_rrc (if_neg (by simp)) (if_neg (by simp)), out_b false, trivial⟩
end
noncomputable def cF2 (P : Program) (r : Nat × Bool × Nat) : Option XF := match P.funcs[r.1]? with
  | some fn => cF P r.2.1 r.2.2 fn
  | none => none
noncomputable def envOf (P : Program) (ps : List (Nat × Prm)) (rs : List (Nat × Bool × Nat)) : Env := ⟨mkTr ps, mkTr (rs.map fun r => (r.1, cF2 P r))⟩
def PrAll (P : Program) : List (Nat × Prm) → Prop
  | [] => True
  | p :: r => PrOk P p.1 p.2 ∧ PrAll P r
theorem PrAll.get {P : Program} : ∀ {l : List (Nat × Prm)}, PrAll P l → ∀ {k : Nat} {p : Prm}, (k, p) ∈ l → PrOk P k p
  | [], _, _, _, h => by cases h
  | q :: r, hl, k, p, h => by
    rcases List.mem_cons.1 h with e | h
    · have h1 := hl.1
      rw [← e] at h1; exact h1
    · exact hl.2.get h
theorem envOf_ok {P : Program} {ps : List (Nat × Prm)} {rs : List (Nat × Bool × Nat)} (hp : PrAll P ps) (hc : (rs.all fun r => callable P r.1) = true) : EnvOk P (envOf P ps rs) := by
  refine ⟨fun g p vs ds hg hv hd => hp.get (mkTr_get ps g hg) vs ds hv hd, fun g F hg => ?_⟩
  have hm := mkTr_get _ g hg
  obtain ⟨r, hr, e⟩ := List.mem_map.1 hm
  injection e with e1 e2
  have hcal : callable P g = true := by rw [← e1]; exact List.all_eq_true.1 hc r hr
  unfold cF2 at e2
  rw [e1] at e2
  cases hf : P.funcs[g]? with
  | none => rw [hf] at e2; cases e2
  | some fn => rw [hf] at e2; exact ⟨r.2.1, r.2.2, fn, e2, rfl, hcal⟩
structure Mm where
  g : Nat
  ns : List Int
  N : Nat
  H : Tr Bx
  x : XV
  N' : Nat
  H' : Tr Bx
def wsOf : List Int → List XV
  | [] => []
  | n :: ns => .c (.i .i64 n) :: wsOf ns
noncomputable def wEq (n : Int) : XV → Bool
  | .c (.i k i) => Nat.beq (kN k) 3 && eqI n i
  | _ => false
noncomputable def vsEq (ns : List Int) : List XV → Bool := @List.rec Int (fun _ => List XV → Bool) (fun vs => @List.rec XV (fun _ => Bool) true (fun _ _ _ => false) vs) (fun n _ ih vs => @List.rec XV (fun _ => Bool) false (fun v vs _ => bA (wEq n v) (ih vs)) vs) ns
noncomputable def trEq (H : Tr Bx) : Tr Bx → Bool := @Tr.rec Bx (fun _ => Tr Bx → Bool) (fun K => @Tr.rec Bx (fun _ => Bool) true (fun _ _ _ _ _ => false) K) (fun _ v _ el er K => @Tr.rec Bx (fun _ => Bool) false (fun l' v' r' _ _ => bA (el l') (bA (bxEq v v') (er r'))) K) H
theorem wEq_eq {n : Int} {v : XV} (h : wEq n v = true) : v = .c (.i .i64 n) := by
  unfold wEq at h
  split at h
  · rename_i k i
    rw [Bool.and_eq_true] at h
    have h1 : k = .i64 := by cases k <;> first | rfl | exact absurd h.1 (by decide)
    have h2 := h.2
    rw [eqI_eq] at h2
    have h3 : n = i := by simpa using h2
    rw [h1, h3]
  · cases h
theorem vsEq_eq : ∀ {ns : List Int} {vs : List XV}, vsEq ns vs = true → vs = wsOf ns
  | [], [], _ => rfl
  | n :: ns, v :: vs, h => by
    have h := bA_some (show bA (wEq n v) (vsEq ns vs) = true from h)
    rw [wEq_eq h.1, vsEq_eq h.2]; rfl
  | [], _ :: _, h => by cases h
  | _ :: _, [], h => by cases h
theorem trEq_HS : ∀ {H K : Tr Bx}, trEq H K = true → ∀ k, bxEq (H.get k) (K.get k) = true
  | .e, .e, _, k => rfl
  | .n l v r, .n l' v' r', h, k => by
    obtain ⟨g1, g2⟩ := bA_some (show bA (trEq l l') (bA (bxEq v v') (trEq r r')) = true from h)
    obtain ⟨g3, g4⟩ := bA_some g2
    show bxEq (@Bool.rec (fun _ => Option Bx) (@Bool.rec (fun _ => Option Bx) (r.get (Nat.div k 2)) (l.get (Nat.div k 2)) (Nat.beq (Nat.mod k 2) 1)) v (Nat.beq k 0)) (@Bool.rec (fun _ => Option Bx) (@Bool.rec (fun _ => Option Bx) (r'.get (Nat.div k 2)) (l'.get (Nat.div k 2)) (Nat.beq (Nat.mod k 2) 1)) v' (Nat.beq k 0)) = true
    cases Nat.beq k 0 with
    | true => exact g3
    | false =>
      cases Nat.beq (Nat.mod k 2) 1 with
      | true => exact trEq_HS g1 _
      | false => exact trEq_HS g4 _
  | .e, .n _ _ _, h, _ => by cases h
  | .n _ _ _, .e, h, _ => by cases h
noncomputable def mmEq (m : Mm) (g : Nat) (vs : List XV) (N : Nat) (H : Tr Bx) : Bool := bA (Nat.beq m.g g) (bA (vsEq m.ns vs) (bA (Nat.beq m.N N) (trEq m.H H)))
noncomputable def findM (ms : List Mm) (g : Nat) (vs : List XV) (N : Nat) (H : Tr Bx) : Option Cr := @List.rec Mm (fun _ => Option Cr) none (fun m _ ih => @Bool.rec (fun _ => Option Cr) ih (some (.h m.x m.N' m.H')) (mmEq m g vs N H)) ms
noncomputable def stepX (E : Env) (fuel : Nat) (ih : CallX) : CallX := fun g vs N H =>
  @Option.rec (List XD) (fun _ => Cr) (@Option.rec XF (fun _ => Cr) .no (fun F => callB F ih fuel vs N H) (oO (E.fs.get g) fun x => x)) (fun ds => .p (joinX ds)) (oO (E.pr.get g) fun p => p vs)
noncomputable def callM (E : Env) (ms : List Mm) (fuel depth : Nat) : CallX :=
  @Nat.rec (fun _ => CallX) (fun _ _ _ _ => .no) (fun _ ih g vs N H => @Option.rec Cr (fun _ => Cr) (stepX E fuel ih g vs N H) (fun c => c) (findM ms g vs N H)) depth
section
variable {P : Program}
def MmOk (P : Program) (ms : List Mm) : Prop := ∀ m ∈ ms, CallH P m.g (wsOf m.ns) m.N m.H m.x m.N' m.H'
theorem stepX_sound (hfol : P.follows .mixedOrders = true) {E : Env} (hE : EnvOk P E) {fuel : Nat} {ih : CallX} (hih : CallOk P ih) : CallOk P (stepX E fuel ih) := fun f vs N H hvs hO hL => by
  have e1 : stepX E fuel ih f vs N H = @Option.rec (List XD) (fun _ => Cr) (@Option.rec XF (fun _ => Cr) .no (fun F => callB F ih fuel vs N H) (oO (E.fs.get f) fun x => x)) (fun ds => .p (joinX ds)) (oO (E.pr.get f) fun p => p vs) := rfl
  cases hp : (oO (E.pr.get f) fun p => p vs) with
  | some ds =>
    rw [e1, hp]
    obtain ⟨p, h1, h2⟩ := oO_some hp
    refine ⟨fun x h => ?_, fun x N' H' h => (by cases h)⟩
    injection h with h
    subst h
    exact hE.pr f p vs ds h1 hvs h2
  | none =>
    rw [e1, hp]
    cases hF : (oO (E.fs.get f) fun x => x) with
    | none => exact ⟨fun x h => (by cases h), fun x N' H' h => (by cases h)⟩
    | some F =>
      obtain ⟨y, h1, h2⟩ := oO_some hF
      subst h2
      obtain ⟨pu, m, fn, h3, h4, h5⟩ := hE.fs f F h1
      exact callB_sound hfol hih h3 h4 h5 hvs hO hL
theorem CallH.same {f : FuncId} {vs : List XV} {N N' : Nat} {H K H' : Tr Bx} {x : XV} (h : CallH P f vs N H x N' H') (e : HS H = HS K) : CallH P f vs N K x N' H' := by
  obtain ⟨h1, h2, h3, h4, h5, h6⟩ := h
  rw [e] at h6
  exact ⟨h1, h2, h3, h4, h5, h6⟩
theorem findM_some {ms : List Mm} (hm : MmOk P ms) {g : Nat} {vs : List XV} {N : Nat} {H : Tr Bx} {c : Cr} (h : findM ms g vs N H = some c) : ∃ x N' H', c = .h x N' H' ∧ CallH P g vs N H x N' H' := by
  induction ms with
  | nil => cases h
  | cons m ms ih =>
    have h9 : @Bool.rec (fun _ => Option Cr) (findM ms g vs N H) (some (.h m.x m.N' m.H')) (mmEq m g vs N H) = some c := h
    clear h
    cases hq : mmEq m g vs N H with
    | false => rw [hq] at h9; exact ih (fun m' h' => hm m' (List.mem_cons_of_mem _ h')) h9
    | true =>
      rw [hq] at h9
      have h10 : some (Cr.h m.x m.N' m.H') = some c := h9
      injection h10 with h11
      obtain ⟨q1, q2⟩ := bA_some hq
      obtain ⟨q3, q4⟩ := bA_some q2
      obtain ⟨q5, q6⟩ := bA_some q4
      have q1 := Nat.eq_of_beq_eq_true q1
      have q5 := Nat.eq_of_beq_eq_true q5
      subst q1 q5
      rw [vsEq_eq q3]
      exact ⟨_, _, _, h11.symm, (hm m (List.mem_cons_self ..)).same (funext fun k => bxEq_HS (trEq_HS q6 k))⟩
theorem callM_sound (hfol : P.follows .mixedOrders = true) {E : Env} (hE : EnvOk P E) {ms : List Mm} (hm : MmOk P ms) {fuel : Nat} : ∀ depth, CallOk P (callM E ms fuel depth)
  | 0 => fun f vs N H _ _ _ => ⟨fun x h => (by cases h), fun x N' H' h => (by cases h)⟩
  | d + 1 => fun f vs N H hvs hO hL => by
    have e1 : callM E ms fuel (d + 1) f vs N H = @Option.rec Cr (fun _ => Cr) (stepX E fuel (callM E ms fuel d) f vs N H) (fun c => c) (findM ms f vs N H) := rfl
    rw [e1]
    cases hf : findM ms f vs N H with
    | none => exact stepX_sound hfol hE (callM_sound hfol hE hm d) f vs N H hvs hO hL
    | some c =>
      obtain ⟨x, N', H', rfl, hc⟩ := findM_some hm hf
      refine ⟨fun y h => (by cases h), fun y M K h => ?_⟩
      injection h with h1 h2 h3
      subst h1 h2 h3
      exact hc
noncomputable def getB (H : Tr Bx) (ks : List Nat) : Option (List Bx) := @List.rec Nat (fun _ => Option (List Bx)) (some []) (fun k _ ih => oO (H.get k) fun b => oO ih fun bs => some (b :: bs)) ks
noncomputable def crP (c : Cr) (ks : List Nat) : Option (XV × Nat × List Bx) := @Cr.rec (fun _ => Option (XV × Nat × List Bx)) none (fun _ => none) (fun x N H => oO (getB H ks) fun bs => some (x, N, bs)) c
noncomputable def setB : List Nat → List Bx → Tr Bx
  | k :: ks, b :: bs => (setB ks bs).set b k
  | _, _ => .e
theorem getB_some {H : Tr Bx} : ∀ {ks : List Nat} {bs : List Bx}, getB H ks = some bs → ∀ k b, (setB ks bs).get k = some b → H.get k = some b
  | [], bs, h, k, b, hk => by
    injection h with h
    subst h
    cases hk
  | k0 :: ks, bs, h, k, b, hk => by
    obtain ⟨b0, h1, h2⟩ := oO_some (show oO (H.get k0) (fun b => oO (getB H ks) fun bs => some (b :: bs)) = some bs from h)
    obtain ⟨bs', h3, h4⟩ := oO_some h2
    injection h4 with h4
    subst h4
    rcases Tr.set_get (setB ks bs') k0 k hk with ⟨e1, e2⟩ | ⟨_, e2⟩
    · rw [e1, e2]; exact h1
    · exact getB_some h3 k b e2
theorem memo_of {call : CallX} (hc : CallOk P call) {f : FuncId} {vs : List XV} {N : Nat} {H : Tr Bx} {x : XV} {N' : Nat} {ks : List Nat} {bs : List Bx} (hvs : ∀ v ∈ vs, xok v) (hO : HOk H) (hL : HLt N H) (h : crP (call f vs N H) ks = some (x, N', bs)) :
    CallH P f vs N H x N' (setB ks bs) := by
  cases hr : call f vs N H with
  | no => rw [hr] at h; cases h
  | p y => rw [hr] at h; cases h
  | h y M K =>
    rw [hr] at h
    obtain ⟨bs', h1, h2⟩ := oO_some (show oO (getB K ks) (fun bs => some (y, M, bs)) = some (x, N', bs) from h)
    injection h2 with h2
    injection h2 with h3 h4
    injection h4 with h4 h5
    subst h3 h4 h5
    have hg := getB_some h1
    have hs : ∀ k c, HS (setB ks bs') k = some c → HS K k = some c := by
      intro k c hk
      unfold HS at hk ⊢
      cases h9 : (setB ks bs').get k with
      | none => rw [h9] at hk; cases hk
      | some b => rw [h9] at hk; rw [hg k b h9]; exact hk
    obtain ⟨q1, q2, q3, q4, q5, q6⟩ := (hc f vs N H hvs hO hL).2 _ _ _ hr
    refine ⟨q1, q2, q3, fun k b hk => q4 k b (hg k b hk), fun k b hk => q5 k b (hg k b hk), fun V A β args w hA hm hx => ?_⟩
    refine (q6 V A β args w hA hm hx).mono fun e w' ⟨v, A', β', e1, e2, e3, e4, e5, e6⟩ => ?_
    have hk2 : Keep (Zs V (HS K) β') (Zs V (HS (setB ks bs')) β') w' w' := ⟨Nat.le_refl _, fun _ _ _ => rfl, fun b _ hb => hb.imp id fun ⟨k, hk, e⟩ => ⟨k, (by
      cases q : HS (setB ks bs') k with
      | none => exact absurd q hk
      | some c => rw [hs k c q]; simp), e⟩⟩
    exact ⟨v, A', β', e1, e2, e3, e4.sub hs, e5.less hs, e6.mono hk2 (fun _ h => h) (fun _ _ => rfl)⟩
theorem wsOf_ok : ∀ {ns : List Int} (v : XV), v ∈ wsOf ns → xok v
  | [], v, h => by cases h
  | n :: ns, v, h => by
    rcases List.mem_cons.1 h with rfl | h
    · trivial
    · exact wsOf_ok v h
theorem runM_bool {E : Env} {ms : List Mm} (hfol : P.follows .mixedOrders = true) (hE : EnvOk P E) (hm : MmOk P ms) {fuel depth f : Nat} {v : Bool} (h : callM E ms fuel depth f [] 0 .e = .p (.c (.b v))) : Ok P f [] [.c (.b v)] := by
  have hc := ((callM_sound hfol hE hm depth) f [] 0 .e (fun v hv => by cases hv) HOk_nil HLt_nil).1 _ h
  refine ⟨hc.cal, fun av vs w hav hr => ?_⟩
  have hn : vs.toList = [] := List.eq_nil_of_length_eq_zero hr.1
  refine (hc.run av (fun _ => False) (fun _ => ⟨0, 0⟩) vs w hav (by rw [hn]; exact ⟨rfl, fun j v x hv => by simp at hv⟩)).mono fun e w' ⟨v', h1, h2, h3⟩ => ?_
  refine ⟨v', h1, ?_, h3⟩
  have h4 : RdA (fun _ => False) av w' (fun _ => ⟨0, 0⟩) v' (.b v) := h2 _ _
  exact AC.b v _ _ _ _ _ h4
end
section
variable {P : Program} {g : FuncId}
theorem pr_int64 (h : ∀ {x : Int}, Sz 1000000 x → Ok P g [dI x] [.c (.i .i64 (if fitB x then x else 0)), .c (.b (fitB x))]) : PrOk P g nInt64X := z1_ok fun x ds hx hd => by
  have hd : bI (ltI x (-9223372036854775808)) none (bI (ltI 9223372036854775807 x) none (some [xW x, xBo true])) = some ds := hd
  rw [bI_eq, bI_eq, ltI_eq, ltI_eq] at hd
  by_cases h1 : x < -9223372036854775808
  · rw [decide_eq_true h1, if_pos rfl] at hd; cases hd
  · rw [decide_eq_false h1, if_neg (by decide)] at hd
    by_cases h2 : 9223372036854775807 < x
    · rw [decide_eq_true h2, if_pos rfl] at hd; cases hd
    · rw [decide_eq_false h2, if_neg (by decide)] at hd
      injection hd with hd
      subst hd
      have hf := fit_in h1 h2
      exact ⟨_, h (hx _ (by decide)), out_wc (by rw [hf]; exact if_pos rfl), out_bc hf, trivial⟩
end
noncomputable def awake15_ok_p : List (Nat × Prm) := [(117, pAddX), (78, pSubX), (63, pMulX), (237, pDivX), (66, pNegX), (16, pCmpX), (25, pSignX), (18, pFromX), (65, pFloorX), (14, pMakeX), (284, pSqrtX), (46, pAddX), (17, pSubX), (61, pMulX), (292, pDivX), (47, pNegX), (95, pCmpX), (58, pSignX), (50, pFromX), (7, pFracX), (59, pSqrtX), (192, pValidX), (39, nSignX), (44, nCmpX), (15, nFromX), (37, nNegX), (45, nMulX), (34, nAddX), (86, nDivModX), (88, nGCDX), (85, nSqrtX), (64, nInt64X)]
def awake15_ok_r : List (Nat × Bool × Nat) := [(4, true, 1125899906842368), (5, true, 274877906880), (6, true, 4685400655653207277056), (8, true, 480), (9, true, 1048288), (10, true, 535820256), (19, false, 134217528), (20, false, 4032), (21, true, 2216606850670720), (22, true, 2040), (23, true, 1073212416), (24, true, 272730422784), (26, true, 17112759072), (27, true, 72048789883946240), (28, true, 524224), (31, true, 9007164626501504), (32, true, 120), (33, true, 131064), (35, true, 590295528883728907520), (36, true, 65504), (38, true, 4088), (40, true, 536346304), (49, false, 17592185913328), (51, false, 880), (52, false, 8096), (53, true, 492), (54, true, 1016), (55, true, 2342663876815506890496), (56, true, 137304734720), (57, true, 2040), (60, true, 120), (62, true, 2080640), (67, true, 63436), (68, true, 1073741634), (69, true, 72048728684359692), (76, true, 541030611968), (77, true, 1099478007296), (79, true, 170141183460469231731651204550052804608), (80, true, 16777184), (81, true, 2), (87, true, 32128), (89, true, 2), (90, true, 65472), (96, false, 128830136002), (97, false, 67645733762), (98, true, 224), (100, false, 2164663252930), (101, false, 160991621694332718744134739591712), (102, true, 32128), (103, true, 524256), (104, true, 32760), (105, true, 1016), (106, true, 8796093013888), (107, true, 4722366482869644681216), (108, true, 2), (110, true, 2), (111, true, 2251799813668876), (112, true, 1002), (118, true, 82412135736188904041465274988559857664), (119, true, 224), (120, true, 56), (130, true, 18014364149739512), (131, true, 2233767818627643138), (132, false, 1125898833096642), (133, false, 20767918545523485135596689991645186), (134, false, 140736280329090), (135, false, 590295809224297346050), (136, true, 8355584), (137, false, 234), (138, true, 3458763964056330252), (139, false, 8589868856), (140, false, 16364), (141, true, 17045634816), (142, false, 68215103634), (143, false, 9007196980433472), (144, true, 35184372087552), (145, true, 20769177530013426516628044935373064), (146, true, 992), (147, true, 480), (148, true, 299794640011520261908062208), (149, true, 1099478007296), (150, true, 224), (151, true, 224), (152, true, 224), (153, true, 38373713921438564727213981696), (157, true, 262056), (161, true, 2305838606872215528), (162, true, 4194296), (163, true, 268435448), (164, true, 130976), (165, true, 480), (166, true, 1065336704), (167, true, 4191712), (168, true, 536870880), (169, false, 38683264972351511461869568), (170, false, 2658453451316871132205038193350799360), (171, false, 72057525310044168), (172, true, 4397912293248), (173, true, 2040), (174, true, 480), (175, true, 4191712), (176, false, 356811880641193946689691826088336933575984096), (177, true, 250), (178, true, 520128), (179, true, 8386496), (180, false, 134152108), (181, true, 8388576), (182, false, 4398046510464), (183, false, 140733191411976), (184, true, 8998402087972864), (185, true, 18446462598728383488), (186, true, 549688700800), (187, false, 4874388766335463507745424384), (188, true, 1143913721236427312), (189, true, 133168160), (190, true, 1016), (191, true, 1095216644096), (193, true, 992), (194, true, 480), (195, true, 520128), (196, true, 1116892393921035776), (197, true, 134217696), (198, true, 35184372088800), (199, true, 134217664), (200, true, 4194272), (201, true, 262136), (202, false, 1099376359360), (203, true, 16777184), (204, false, 18446603335147452168), (205, true, 35184303928832), (206, true, 224), (207, true, 224), (208, true, 224), (209, true, 2), (210, true, 16777184), (211, true, 4398046511072), (212, false, 9007182074854640), (213, false, 1152921496014807280), (214, false, 147573917370944446704), (215, true, 7890306461253730544), (216, false, 17179835632), (217, true, 2787571881499075797774052896007796375347440), (218, true, 1237938821800130672580355040), (219, true, 383123885193474569774374055887950278561850630313329632), (220, true, 524010), (221, true, 33537770), (222, true, 2287828592379265024), (223, true, 1208556884733154979333440), (224, true, 4191712), (225, false, 8795823538048), (226, false, 4397509111564), (227, false, 234), (228, true, 32736), (229, true, 2199023254272), (230, false, 4072), (231, true, 261920), (232, true, 492), (233, true, 240), (234, true, 8160), (235, true, 8108), (236, true, 549722250112), (238, true, 1073212416), (239, true, 61432), (240, false, 32505728), (242, true, 233701344), (243, true, 65504), (244, true, 2199023255424), (245, true, 480), (246, true, 1016), (247, true, 1016), (248, true, 295145090429585437760), (249, true, 536534912), (250, true, 137438683136), (251, true, 24), (252, false, 67042176), (253, false, 19040581658860040755331072), (254, false, 9007130535263744), (255, true, 511703040), (256, true, 4194296), (257, true, 4088), (258, true, 480), (259, false, 4835702990227041035219936), (260, true, 122), (261, true, 8589934586), (262, true, 261872), (263, true, 2199023251392), (264, true, 1968), (265, true, 536835968), (266, true, 536837888), (267, true, 2147221184), (268, true, 140737488223232), (269, false, 8379264), (270, false, 73786971896790252544), (271, false, 144115188038106624), (272, true, 457804), (273, true, 232), (274, true, 2145384448), (275, false, 508), (276, true, 960), (277, true, 274876858112), (278, false, 73786413310256577292), (279, true, 492), (280, true, 112), (281, true, 549486788576), (282, true, 130976), (283, true, 18889465913882099754112), (285, true, 8184), (286, true, 16352), (287, true, 8388480), (288, true, 162259276829213363039734289268480), (289, true, 2097120), (290, true, 64896), (291, true, 32760), (293, true, 536870624), (294, true, 140737488223232), (295, true, 4088), (296, true, 88), (297, true, 224), (298, true, 224), (299, true, 524256), (300, true, 1152921504606844416), (301, true, 2097088), (302, true, 16376), (303, true, 16320), (304, true, 524160), (305, true, 224), (306, true, 65504), (307, true, 502529024), (308, true, 4290769888), (309, true, 880), (310, true, 67108288), (311, true, 524256), (312, true, 34359737088), (313, true, 2251799813684224), (314, true, 274877861888), (315, true, 224), (316, true, 224), (317, true, 16320), (318, true, 262136), (319, true, 225024), (320, true, 58), (321, true, 4026268672), (322, false, 9205357602911804472), (323, true, 457804), (324, true, 2016), (326, true, 56), (327, true, 4194272), (328, true, 1016), (329, true, 536837888), (330, true, 4080), (331, true, 4397710966272), (332, true, 480), (334, true, 2), (335, true, 67108288), (336, true, 33554368), (337, true, 131064), (338, true, 224), (339, true, 562949953421184), (340, true, 16777152), (341, false, 9007182074854640), (342, false, 1671831826720280358868393332158590220324288833552426328065262486496), (343, true, 16352), (344, true, 114560), (345, false, 288230376142271456), (346, false, 274877897696)]
theorem awake15_ok_ok : PrAll Tryz.prog awake15_ok_p := ⟨pr_add pAdd_ok, pr_sub pSub_ok, pr_mul pMul_ok, pr_div pDiv_ok, pr_neg pNeg_ok, pr_cmp pCmp_ok, pr_sign pSign_ok, pr_from pFrom_ok, pr_floor pFloor_ok, pr_make pMake_ok, pr_sqrt pSqrt_ok, pr_add sAdd_ok, pr_sub sSub_ok, pr_mul sMul_ok, pr_div sDiv_ok, pr_neg sNeg_ok, pr_cmp sCmp_ok, pr_sign sSign_ok, pr_from sFrom_ok, pr_frac sFrac_ok, pr_sqrt sSqrt_ok, pr_valid (fun h => sValid_R (h.mono (by decide))), pr_nsign iSign_ok, pr_ncmp (fun _ _ => iCmp_ok), pr_nfrom iFrom_ok, pr_nneg (fun h => iNeg_ok (h.mono (by decide))), pr_nmul (fun h g => iMul_ok (h.mono (by decide)) (g.mono (by decide))), pr_nadd (fun h g => iAdd_ok (h.mono (by decide)) (g.mono (by decide))), pr_ndivmod (fun h g => iDivMod_ok (h.mono (by decide)) (g.mono (by decide))), pr_ngcd (fun h g => iGCD_ok (h.mono (by decide)) (g.mono (by decide))), pr_nsqrt (fun h => iSqrt_ok (h.mono (by decide))), pr_int64 iInt64_ok, trivial⟩
theorem awake15_ok_env : EnvOk Tryz.prog (envOf Tryz.prog awake15_ok_p awake15_ok_r) := envOf_ok awake15_ok_ok (by kernel_rfl)
def awake15_ok_b306 : Bx := (.mk 102 264 (Rp.n 198 true (Rp.n 132 true (Rp.n 66 true (Rp.n 1 true (Rp.c (AV.b false)) (Rp.n 12 true (Rp.n 4 true (Rp.n 2 true (Rp.n 1 true (Rp.c (AV.b false)) (Rp.c (AV.l 0))) (Rp.n 1 true (Rp.c (AV.b false)) (Rp.c (AV.l 1)))) (Rp.n 4 true (Rp.n 2 true (Rp.n 1 true (Rp.c (AV.b false)) (Rp.c (AV.l 2))) (Rp.n 1 true (Rp.c (AV.b false)) (Rp.c (AV.l 1)))) (Rp.n 2 true (Rp.n 1 true (Rp.c (AV.b false)) (Rp.c (AV.l 0))) (Rp.n 1 true (Rp.c (AV.b false)) (Rp.c (AV.l 1)))))) (Rp.n 1 true (Rp.c (AV.b false)) (Rp.n 1 true (Rp.c AV.z) (Rp.n 1 true (Rp.c (AV.b false)) (Rp.n 1 true (Rp.c AV.z) (Rp.n 1 true (Rp.c (AV.b false)) (Rp.n 1 true (Rp.c AV.z) (Rp.n 1 true (Rp.c (AV.b false)) (Rp.n 1 true (Rp.c AV.z) (Rp.n 1 true (Rp.c (AV.b false)) (Rp.n 1 true (Rp.c AV.z) (Rp.n 1 true (Rp.c (AV.b false)) (Rp.n 1 true (Rp.c AV.z) (Rp.n 1 true (Rp.c (AV.b false)) (Rp.n 20 true (Rp.n 4 true (Rp.n 2 true (Rp.n 1 true (Rp.c (AV.b false)) (Rp.c (AV.l 0))) (Rp.n 1 true (Rp.c (AV.b false)) (Rp.c (AV.l 1)))) (Rp.n 4 true (Rp.n 2 true (Rp.n 1 true (Rp.c (AV.b false)) (Rp.c (AV.l 0))) (Rp.n 1 true (Rp.c (AV.b false)) (Rp.c (AV.l 1)))) (Rp.n 4 true (Rp.n 2 true (Rp.n 1 true (Rp.c (AV.b false)) (Rp.c (AV.l 0))) (Rp.n 1 true (Rp.c (AV.b false)) (Rp.c (AV.l 1)))) (Rp.n 4 true (Rp.n 2 true (Rp.n 1 true (Rp.c (AV.b false)) (Rp.c (AV.l 0))) (Rp.n 1 true (Rp.c (AV.b false)) (Rp.c (AV.l 1)))) (Rp.n 2 true (Rp.n 1 true (Rp.c (AV.b false)) (Rp.c (AV.l 0))) (Rp.n 1 true (Rp.c (AV.b false)) (Rp.c (AV.l 1)))))))) (Rp.n 4 true (Rp.n 2 true (Rp.n 1 true (Rp.c (AV.b false)) (Rp.c (AV.l 2))) (Rp.n 1 true (Rp.c (AV.b false)) (Rp.c (AV.l 1)))) (Rp.n 4 true (Rp.n 2 true (Rp.n 1 true (Rp.c (AV.b false)) (Rp.c (AV.l 0))) (Rp.n 1 true (Rp.c (AV.b false)) (Rp.c (AV.l 1)))) (Rp.n 4 true (Rp.n 2 true (Rp.n 1 true (Rp.c (AV.b false)) (Rp.c (AV.l 0))) (Rp.n 1 true (Rp.c (AV.b false)) (Rp.c (AV.l 1)))) (Rp.n 4 true (Rp.n 2 true (Rp.n 1 true (Rp.c (AV.b false)) (Rp.c (AV.l 0))) (Rp.n 1 true (Rp.c (AV.b false)) (Rp.c (AV.l 1)))) (Rp.n 2 true (Rp.n 1 true (Rp.c (AV.b false)) (Rp.c (AV.l 0))) (Rp.n 1 true (Rp.c (AV.b false)) (Rp.c (AV.l 1)))))))))))))))))))))))) (Rp.n 1 true (Rp.c (AV.b false)) (Rp.n 12 true (Rp.n 4 true (Rp.n 2 true (Rp.n 1 true (Rp.c (AV.b false)) (Rp.c (AV.l 2))) (Rp.n 1 true (Rp.c (AV.b false)) (Rp.c (AV.l 1)))) (Rp.n 4 true (Rp.n 2 true (Rp.n 1 true (Rp.c (AV.b false)) (Rp.c (AV.l 0))) (Rp.n 1 true (Rp.c (AV.b false)) (Rp.c (AV.l 1)))) (Rp.n 2 true (Rp.n 1 true (Rp.c (AV.b false)) (Rp.c (AV.l 0))) (Rp.n 1 true (Rp.c (AV.b false)) (Rp.c (AV.l 1)))))) (Rp.n 1 true (Rp.c (AV.b false)) (Rp.n 1 true (Rp.c AV.z) (Rp.n 1 true (Rp.c (AV.b false)) (Rp.n 1 true (Rp.c AV.z) (Rp.n 1 true (Rp.c (AV.b false)) (Rp.n 1 true (Rp.c AV.z) (Rp.n 1 true (Rp.c (AV.b false)) (Rp.n 1 true (Rp.c AV.z) (Rp.n 1 true (Rp.c (AV.b false)) (Rp.n 1 true (Rp.c AV.z) (Rp.n 1 true (Rp.c (AV.b false)) (Rp.n 1 true (Rp.c AV.z) (Rp.n 1 true (Rp.c (AV.b false)) (Rp.n 20 true (Rp.n 4 true (Rp.n 2 true (Rp.n 1 true (Rp.c (AV.b false)) (Rp.c (AV.l 0))) (Rp.n 1 true (Rp.c (AV.b false)) (Rp.c (AV.l 1)))) (Rp.n 4 true (Rp.n 2 true (Rp.n 1 true (Rp.c (AV.b false)) (Rp.c (AV.l 0))) (Rp.n 1 true (Rp.c (AV.b false)) (Rp.c (AV.l 1)))) (Rp.n 4 true (Rp.n 2 true (Rp.n 1 true (Rp.c (AV.b false)) (Rp.c (AV.l 0))) (Rp.n 1 true (Rp.c (AV.b false)) (Rp.c (AV.l 1)))) (Rp.n 4 true (Rp.n 2 true (Rp.n 1 true (Rp.c (AV.b false)) (Rp.c (AV.l 0))) (Rp.n 1 true (Rp.c (AV.b false)) (Rp.c (AV.l 1)))) (Rp.n 2 true (Rp.n 1 true (Rp.c (AV.b false)) (Rp.c (AV.l 0))) (Rp.n 1 true (Rp.c (AV.b false)) (Rp.c (AV.l 1)))))))) (Rp.n 4 true (Rp.n 2 true (Rp.n 1 true (Rp.c (AV.b false)) (Rp.c (AV.l 0))) (Rp.n 1 true (Rp.c (AV.b false)) (Rp.c (AV.l 1)))) (Rp.n 4 true (Rp.n 2 true (Rp.n 1 true (Rp.c (AV.b false)) (Rp.c (AV.l 0))) (Rp.n 1 true (Rp.c (AV.b false)) (Rp.c (AV.l 1)))) (Rp.n 4 true (Rp.n 2 true (Rp.n 1 true (Rp.c (AV.b false)) (Rp.c (AV.l 2))) (Rp.n 1 true (Rp.c (AV.b false)) (Rp.c (AV.l 1)))) (Rp.n 4 true (Rp.n 2 true (Rp.n 1 true (Rp.c (AV.b false)) (Rp.c (AV.l 0))) (Rp.n 1 true (Rp.c (AV.b false)) (Rp.c (AV.l 1)))) (Rp.n 2 true (Rp.n 1 true (Rp.c (AV.b false)) (Rp.c (AV.l 0))) (Rp.n 1 true (Rp.c (AV.b false)) (Rp.c (AV.l 1))))))))))))))))))))))))) (Rp.n 1 true (Rp.c (AV.b false)) (Rp.n 12 true (Rp.n 4 true (Rp.n 2 true (Rp.n 1 true (Rp.c (AV.b false)) (Rp.c (AV.l 0))) (Rp.n 1 true (Rp.c (AV.b false)) (Rp.c (AV.l 1)))) (Rp.n 4 true (Rp.n 2 true (Rp.n 1 true (Rp.c (AV.b true)) (Rp.c (AV.l 2))) (Rp.n 1 true (Rp.c (AV.b false)) (Rp.c (AV.l 1)))) (Rp.n 2 true (Rp.n 1 true (Rp.c (AV.b true)) (Rp.c (AV.l 4))) (Rp.n 1 true (Rp.c (AV.b false)) (Rp.c (AV.l 1)))))) (Rp.n 1 true (Rp.c (AV.b false)) (Rp.n 1 true (Rp.c AV.z) (Rp.n 1 true (Rp.c (AV.b false)) (Rp.n 1 true (Rp.c AV.z) (Rp.n 1 true (Rp.c (AV.b false)) (Rp.n 1 true (Rp.c AV.z) (Rp.n 1 true (Rp.c (AV.b false)) (Rp.n 1 true (Rp.c AV.z) (Rp.n 1 true (Rp.c (AV.b false)) (Rp.n 1 true (Rp.c AV.z) (Rp.n 1 true (Rp.c (AV.b false)) (Rp.n 1 true (Rp.c AV.z) (Rp.n 1 true (Rp.c (AV.b false)) (Rp.n 20 true (Rp.n 4 true (Rp.n 2 true (Rp.n 1 true (Rp.c (AV.b false)) (Rp.c (AV.l 0))) (Rp.n 1 true (Rp.c (AV.b false)) (Rp.c (AV.l 1)))) (Rp.n 4 true (Rp.n 2 true (Rp.n 1 true (Rp.c (AV.b false)) (Rp.c (AV.l 0))) (Rp.n 1 true (Rp.c (AV.b false)) (Rp.c (AV.l 1)))) (Rp.n 4 true (Rp.n 2 true (Rp.n 1 true (Rp.c (AV.b false)) (Rp.c (AV.l 2))) (Rp.n 1 true (Rp.c (AV.b false)) (Rp.c (AV.l 1)))) (Rp.n 4 true (Rp.n 2 true (Rp.n 1 true (Rp.c (AV.b false)) (Rp.c (AV.l 0))) (Rp.n 1 true (Rp.c (AV.b false)) (Rp.c (AV.l 1)))) (Rp.n 2 true (Rp.n 1 true (Rp.c (AV.b false)) (Rp.c (AV.l 0))) (Rp.n 1 true (Rp.c (AV.b false)) (Rp.c (AV.l 1)))))))) (Rp.n 4 true (Rp.n 2 true (Rp.n 1 true (Rp.c (AV.b false)) (Rp.c (AV.l 2))) (Rp.n 1 true (Rp.c (AV.b false)) (Rp.c (AV.l 1)))) (Rp.n 4 true (Rp.n 2 true (Rp.n 1 true (Rp.c (AV.b false)) (Rp.c (AV.l 0))) (Rp.n 1 true (Rp.c (AV.b false)) (Rp.c (AV.l 1)))) (Rp.n 4 true (Rp.n 2 true (Rp.n 1 true (Rp.c (AV.b false)) (Rp.c (AV.l 2))) (Rp.n 1 true (Rp.c (AV.b false)) (Rp.c (AV.l 1)))) (Rp.n 4 true (Rp.n 2 true (Rp.n 1 true (Rp.c (AV.b false)) (Rp.c (AV.l 0))) (Rp.n 1 true (Rp.c (AV.b false)) (Rp.c (AV.l 1)))) (Rp.n 2 true (Rp.n 1 true (Rp.c (AV.b false)) (Rp.c (AV.l 0))) (Rp.n 1 true (Rp.c (AV.b false)) (Rp.c (AV.l 1))))))))))))))))))))))))) (Rp.n 1 true (Rp.c (AV.b false)) (Rp.n 12 true (Rp.n 4 true (Rp.n 2 true (Rp.n 1 true (Rp.c (AV.b true)) (Rp.c (AV.l 2))) (Rp.n 1 true (Rp.c (AV.b false)) (Rp.c (AV.l 1)))) (Rp.n 4 true (Rp.n 2 true (Rp.n 1 true (Rp.c (AV.b false)) (Rp.c (AV.l 0))) (Rp.n 1 true (Rp.c (AV.b false)) (Rp.c (AV.l 1)))) (Rp.n 2 true (Rp.n 1 true (Rp.c (AV.b true)) (Rp.c (AV.l 4))) (Rp.n 1 true (Rp.c (AV.b false)) (Rp.c (AV.l 1)))))) (Rp.n 1 true (Rp.c (AV.b false)) (Rp.n 1 true (Rp.c AV.z) (Rp.n 1 true (Rp.c (AV.b false)) (Rp.n 1 true (Rp.c AV.z) (Rp.n 1 true (Rp.c (AV.b false)) (Rp.n 1 true (Rp.c AV.z) (Rp.n 1 true (Rp.c (AV.b false)) (Rp.n 1 true (Rp.c AV.z) (Rp.n 1 true (Rp.c (AV.b false)) (Rp.n 1 true (Rp.c AV.z) (Rp.n 1 true (Rp.c (AV.b false)) (Rp.n 1 true (Rp.c AV.z) (Rp.n 1 true (Rp.c (AV.b false)) (Rp.n 20 true (Rp.n 4 true (Rp.n 2 true (Rp.n 1 true (Rp.c (AV.b false)) (Rp.c (AV.l 2))) (Rp.n 1 true (Rp.c (AV.b false)) (Rp.c (AV.l 1)))) (Rp.n 4 true (Rp.n 2 true (Rp.n 1 true (Rp.c (AV.b false)) (Rp.c (AV.l 0))) (Rp.n 1 true (Rp.c (AV.b false)) (Rp.c (AV.l 1)))) (Rp.n 4 true (Rp.n 2 true (Rp.n 1 true (Rp.c (AV.b false)) (Rp.c (AV.l 0))) (Rp.n 1 true (Rp.c (AV.b false)) (Rp.c (AV.l 1)))) (Rp.n 4 true (Rp.n 2 true (Rp.n 1 true (Rp.c (AV.b false)) (Rp.c (AV.l 0))) (Rp.n 1 true (Rp.c (AV.b false)) (Rp.c (AV.l 1)))) (Rp.n 2 true (Rp.n 1 true (Rp.c (AV.b false)) (Rp.c (AV.l 0))) (Rp.n 1 true (Rp.c (AV.b false)) (Rp.c (AV.l 1)))))))) (Rp.n 4 true (Rp.n 2 true (Rp.n 1 true (Rp.c (AV.b false)) (Rp.c (AV.l 2))) (Rp.n 1 true (Rp.c (AV.b false)) (Rp.c (AV.l 1)))) (Rp.n 4 true (Rp.n 2 true (Rp.n 1 true (Rp.c (AV.b false)) (Rp.c (AV.l 0))) (Rp.n 1 true (Rp.c (AV.b false)) (Rp.c (AV.l 1)))) (Rp.n 4 true (Rp.n 2 true (Rp.n 1 true (Rp.c (AV.b false)) (Rp.c (AV.l 2))) (Rp.n 1 true (Rp.c (AV.b false)) (Rp.c (AV.l 1)))) (Rp.n 4 true (Rp.n 2 true (Rp.n 1 true (Rp.c (AV.b false)) (Rp.c (AV.l 0))) (Rp.n 1 true (Rp.c (AV.b false)) (Rp.c (AV.l 1)))) (Rp.n 2 true (Rp.n 1 true (Rp.c (AV.b false)) (Rp.c (AV.l 0))) (Rp.n 1 true (Rp.c (AV.b false)) (Rp.c (AV.l 1))))))))))))))))))))))))))
def awake15_ok_x0 : XV := (XV.a 1 (Rp.c (AV.s 306 0 4 4 false 66)))
def awake15_ok_b614 : Bx := (.mk 102 264 (Rp.n 198 true (Rp.n 132 true (Rp.n 66 true (Rp.n 1 true (Rp.c (AV.b false)) (Rp.n 12 true (Rp.n 4 true (Rp.n 2 true (Rp.n 1 true (Rp.c (AV.b false)) (Rp.c (AV.l 0))) (Rp.n 1 true (Rp.c (AV.b false)) (Rp.c (AV.l 1)))) (Rp.n 4 true (Rp.n 2 true (Rp.n 1 true (Rp.c (AV.b false)) (Rp.c (AV.l 2))) (Rp.n 1 true (Rp.c (AV.b false)) (Rp.c (AV.l 1)))) (Rp.n 2 true (Rp.n 1 true (Rp.c (AV.b false)) (Rp.c (AV.l 2))) (Rp.n 1 true (Rp.c (AV.b false)) (Rp.c (AV.l 1)))))) (Rp.n 1 true (Rp.c (AV.b false)) (Rp.n 1 true (Rp.c AV.z) (Rp.n 1 true (Rp.c (AV.b false)) (Rp.n 1 true (Rp.c AV.z) (Rp.n 1 true (Rp.c (AV.b false)) (Rp.n 1 true (Rp.c AV.z) (Rp.n 1 true (Rp.c (AV.b false)) (Rp.n 1 true (Rp.c AV.z) (Rp.n 1 true (Rp.c (AV.b false)) (Rp.n 1 true (Rp.c AV.z) (Rp.n 1 true (Rp.c (AV.b false)) (Rp.n 1 true (Rp.c AV.z) (Rp.n 1 true (Rp.c (AV.b false)) (Rp.n 20 true (Rp.n 4 true (Rp.n 2 true (Rp.n 1 true (Rp.c (AV.b false)) (Rp.c (AV.l 1))) (Rp.n 1 true (Rp.c (AV.b false)) (Rp.c (AV.l 1)))) (Rp.n 4 true (Rp.n 2 true (Rp.n 1 true (Rp.c (AV.b false)) (Rp.c (AV.l 0))) (Rp.n 1 true (Rp.c (AV.b false)) (Rp.c (AV.l 1)))) (Rp.n 4 true (Rp.n 2 true (Rp.n 1 true (Rp.c (AV.b false)) (Rp.c (AV.l 1))) (Rp.n 1 true (Rp.c (AV.b false)) (Rp.c (AV.l 1)))) (Rp.n 4 true (Rp.n 2 true (Rp.n 1 true (Rp.c (AV.b false)) (Rp.c (AV.l 0))) (Rp.n 1 true (Rp.c (AV.b false)) (Rp.c (AV.l 1)))) (Rp.n 2 true (Rp.n 1 true (Rp.c (AV.b false)) (Rp.c (AV.l 0))) (Rp.n 1 true (Rp.c (AV.b false)) (Rp.c (AV.l 1)))))))) (Rp.n 4 true (Rp.n 2 true (Rp.n 1 true (Rp.c (AV.b false)) (Rp.c (AV.l 3))) (Rp.n 1 true (Rp.c (AV.b false)) (Rp.c (AV.l 1)))) (Rp.n 4 true (Rp.n 2 true (Rp.n 1 true (Rp.c (AV.b false)) (Rp.c (AV.l 0))) (Rp.n 1 true (Rp.c (AV.b false)) (Rp.c (AV.l 1)))) (Rp.n 4 true (Rp.n 2 true (Rp.n 1 true (Rp.c (AV.b false)) (Rp.c (AV.l 1))) (Rp.n 1 true (Rp.c (AV.b false)) (Rp.c (AV.l 1)))) (Rp.n 4 true (Rp.n 2 true (Rp.n 1 true (Rp.c (AV.b false)) (Rp.c (AV.l 0))) (Rp.n 1 true (Rp.c (AV.b false)) (Rp.c (AV.l 1)))) (Rp.n 2 true (Rp.n 1 true (Rp.c (AV.b false)) (Rp.c (AV.l 0))) (Rp.n 1 true (Rp.c (AV.b false)) (Rp.c (AV.l 1)))))))))))))))))))))))) (Rp.n 1 true (Rp.c (AV.b false)) (Rp.n 12 true (Rp.n 4 true (Rp.n 2 true (Rp.n 1 true (Rp.c (AV.b false)) (Rp.c (AV.l 2))) (Rp.n 1 true (Rp.c (AV.b false)) (Rp.c (AV.l 1)))) (Rp.n 4 true (Rp.n 2 true (Rp.n 1 true (Rp.c (AV.b false)) (Rp.c (AV.l 0))) (Rp.n 1 true (Rp.c (AV.b false)) (Rp.c (AV.l 1)))) (Rp.n 2 true (Rp.n 1 true (Rp.c (AV.b false)) (Rp.c (AV.l 2))) (Rp.n 1 true (Rp.c (AV.b false)) (Rp.c (AV.l 1)))))) (Rp.n 1 true (Rp.c (AV.b false)) (Rp.n 1 true (Rp.c AV.z) (Rp.n 1 true (Rp.c (AV.b false)) (Rp.n 1 true (Rp.c AV.z) (Rp.n 1 true (Rp.c (AV.b false)) (Rp.n 1 true (Rp.c AV.z) (Rp.n 1 true (Rp.c (AV.b false)) (Rp.n 1 true (Rp.c AV.z) (Rp.n 1 true (Rp.c (AV.b false)) (Rp.n 1 true (Rp.c AV.z) (Rp.n 1 true (Rp.c (AV.b false)) (Rp.n 1 true (Rp.c AV.z) (Rp.n 1 true (Rp.c (AV.b false)) (Rp.n 20 true (Rp.n 4 true (Rp.n 2 true (Rp.n 1 true (Rp.c (AV.b false)) (Rp.c (AV.l 1))) (Rp.n 1 true (Rp.c (AV.b false)) (Rp.c (AV.l 1)))) (Rp.n 4 true (Rp.n 2 true (Rp.n 1 true (Rp.c (AV.b false)) (Rp.c (AV.l 0))) (Rp.n 1 true (Rp.c (AV.b false)) (Rp.c (AV.l 1)))) (Rp.n 4 true (Rp.n 2 true (Rp.n 1 true (Rp.c (AV.b false)) (Rp.c (AV.l 1))) (Rp.n 1 true (Rp.c (AV.b false)) (Rp.c (AV.l 1)))) (Rp.n 4 true (Rp.n 2 true (Rp.n 1 true (Rp.c (AV.b false)) (Rp.c (AV.l 0))) (Rp.n 1 true (Rp.c (AV.b false)) (Rp.c (AV.l 1)))) (Rp.n 2 true (Rp.n 1 true (Rp.c (AV.b false)) (Rp.c (AV.l 0))) (Rp.n 1 true (Rp.c (AV.b false)) (Rp.c (AV.l 1)))))))) (Rp.n 4 true (Rp.n 2 true (Rp.n 1 true (Rp.c (AV.b false)) (Rp.c (AV.l 1))) (Rp.n 1 true (Rp.c (AV.b false)) (Rp.c (AV.l 1)))) (Rp.n 4 true (Rp.n 2 true (Rp.n 1 true (Rp.c (AV.b false)) (Rp.c (AV.l 0))) (Rp.n 1 true (Rp.c (AV.b false)) (Rp.c (AV.l 1)))) (Rp.n 4 true (Rp.n 2 true (Rp.n 1 true (Rp.c (AV.b false)) (Rp.c (AV.l 3))) (Rp.n 1 true (Rp.c (AV.b false)) (Rp.c (AV.l 1)))) (Rp.n 4 true (Rp.n 2 true (Rp.n 1 true (Rp.c (AV.b false)) (Rp.c (AV.l 0))) (Rp.n 1 true (Rp.c (AV.b false)) (Rp.c (AV.l 1)))) (Rp.n 2 true (Rp.n 1 true (Rp.c (AV.b false)) (Rp.c (AV.l 0))) (Rp.n 1 true (Rp.c (AV.b false)) (Rp.c (AV.l 1))))))))))))))))))))))))) (Rp.n 1 true (Rp.c (AV.b false)) (Rp.n 12 true (Rp.n 4 true (Rp.n 2 true (Rp.n 1 true (Rp.c (AV.b false)) (Rp.c (AV.l 0))) (Rp.n 1 true (Rp.c (AV.b false)) (Rp.c (AV.l 1)))) (Rp.n 4 true (Rp.n 2 true (Rp.n 1 true (Rp.c (AV.b true)) (Rp.c (AV.l 2))) (Rp.n 1 true (Rp.c (AV.b false)) (Rp.c (AV.l 1)))) (Rp.n 2 true (Rp.n 1 true (Rp.c (AV.b true)) (Rp.c (AV.l 6))) (Rp.n 1 true (Rp.c (AV.b false)) (Rp.c (AV.l 1)))))) (Rp.n 1 true (Rp.c (AV.b false)) (Rp.n 1 true (Rp.c AV.z) (Rp.n 1 true (Rp.c (AV.b false)) (Rp.n 1 true (Rp.c AV.z) (Rp.n 1 true (Rp.c (AV.b false)) (Rp.n 1 true (Rp.c AV.z) (Rp.n 1 true (Rp.c (AV.b false)) (Rp.n 1 true (Rp.c AV.z) (Rp.n 1 true (Rp.c (AV.b false)) (Rp.n 1 true (Rp.c AV.z) (Rp.n 1 true (Rp.c (AV.b false)) (Rp.n 1 true (Rp.c AV.z) (Rp.n 1 true (Rp.c (AV.b false)) (Rp.n 20 true (Rp.n 4 true (Rp.n 2 true (Rp.n 1 true (Rp.c (AV.b false)) (Rp.c (AV.l 1))) (Rp.n 1 true (Rp.c (AV.b false)) (Rp.c (AV.l 1)))) (Rp.n 4 true (Rp.n 2 true (Rp.n 1 true (Rp.c (AV.b false)) (Rp.c (AV.l 0))) (Rp.n 1 true (Rp.c (AV.b false)) (Rp.c (AV.l 1)))) (Rp.n 4 true (Rp.n 2 true (Rp.n 1 true (Rp.c (AV.b false)) (Rp.c (AV.l 3))) (Rp.n 1 true (Rp.c (AV.b false)) (Rp.c (AV.l 1)))) (Rp.n 4 true (Rp.n 2 true (Rp.n 1 true (Rp.c (AV.b false)) (Rp.c (AV.l 0))) (Rp.n 1 true (Rp.c (AV.b false)) (Rp.c (AV.l 1)))) (Rp.n 2 true (Rp.n 1 true (Rp.c (AV.b false)) (Rp.c (AV.l 0))) (Rp.n 1 true (Rp.c (AV.b false)) (Rp.c (AV.l 1)))))))) (Rp.n 4 true (Rp.n 2 true (Rp.n 1 true (Rp.c (AV.b false)) (Rp.c (AV.l 3))) (Rp.n 1 true (Rp.c (AV.b false)) (Rp.c (AV.l 1)))) (Rp.n 4 true (Rp.n 2 true (Rp.n 1 true (Rp.c (AV.b false)) (Rp.c (AV.l 0))) (Rp.n 1 true (Rp.c (AV.b false)) (Rp.c (AV.l 1)))) (Rp.n 4 true (Rp.n 2 true (Rp.n 1 true (Rp.c (AV.b false)) (Rp.c (AV.l 3))) (Rp.n 1 true (Rp.c (AV.b false)) (Rp.c (AV.l 1)))) (Rp.n 4 true (Rp.n 2 true (Rp.n 1 true (Rp.c (AV.b false)) (Rp.c (AV.l 0))) (Rp.n 1 true (Rp.c (AV.b false)) (Rp.c (AV.l 1)))) (Rp.n 2 true (Rp.n 1 true (Rp.c (AV.b false)) (Rp.c (AV.l 0))) (Rp.n 1 true (Rp.c (AV.b false)) (Rp.c (AV.l 1))))))))))))))))))))))))) (Rp.n 1 true (Rp.c (AV.b false)) (Rp.n 12 true (Rp.n 4 true (Rp.n 2 true (Rp.n 1 true (Rp.c (AV.b true)) (Rp.c (AV.l 2))) (Rp.n 1 true (Rp.c (AV.b false)) (Rp.c (AV.l 1)))) (Rp.n 4 true (Rp.n 2 true (Rp.n 1 true (Rp.c (AV.b false)) (Rp.c (AV.l 0))) (Rp.n 1 true (Rp.c (AV.b false)) (Rp.c (AV.l 1)))) (Rp.n 2 true (Rp.n 1 true (Rp.c (AV.b true)) (Rp.c (AV.l 6))) (Rp.n 1 true (Rp.c (AV.b false)) (Rp.c (AV.l 1)))))) (Rp.n 1 true (Rp.c (AV.b false)) (Rp.n 1 true (Rp.c AV.z) (Rp.n 1 true (Rp.c (AV.b false)) (Rp.n 1 true (Rp.c AV.z) (Rp.n 1 true (Rp.c (AV.b false)) (Rp.n 1 true (Rp.c AV.z) (Rp.n 1 true (Rp.c (AV.b false)) (Rp.n 1 true (Rp.c AV.z) (Rp.n 1 true (Rp.c (AV.b false)) (Rp.n 1 true (Rp.c AV.z) (Rp.n 1 true (Rp.c (AV.b false)) (Rp.n 1 true (Rp.c AV.z) (Rp.n 1 true (Rp.c (AV.b false)) (Rp.n 20 true (Rp.n 4 true (Rp.n 2 true (Rp.n 1 true (Rp.c (AV.b false)) (Rp.c (AV.l 3))) (Rp.n 1 true (Rp.c (AV.b false)) (Rp.c (AV.l 1)))) (Rp.n 4 true (Rp.n 2 true (Rp.n 1 true (Rp.c (AV.b false)) (Rp.c (AV.l 0))) (Rp.n 1 true (Rp.c (AV.b false)) (Rp.c (AV.l 1)))) (Rp.n 4 true (Rp.n 2 true (Rp.n 1 true (Rp.c (AV.b false)) (Rp.c (AV.l 1))) (Rp.n 1 true (Rp.c (AV.b false)) (Rp.c (AV.l 1)))) (Rp.n 4 true (Rp.n 2 true (Rp.n 1 true (Rp.c (AV.b false)) (Rp.c (AV.l 0))) (Rp.n 1 true (Rp.c (AV.b false)) (Rp.c (AV.l 1)))) (Rp.n 2 true (Rp.n 1 true (Rp.c (AV.b false)) (Rp.c (AV.l 0))) (Rp.n 1 true (Rp.c (AV.b false)) (Rp.c (AV.l 1)))))))) (Rp.n 4 true (Rp.n 2 true (Rp.n 1 true (Rp.c (AV.b false)) (Rp.c (AV.l 3))) (Rp.n 1 true (Rp.c (AV.b false)) (Rp.c (AV.l 1)))) (Rp.n 4 true (Rp.n 2 true (Rp.n 1 true (Rp.c (AV.b false)) (Rp.c (AV.l 0))) (Rp.n 1 true (Rp.c (AV.b false)) (Rp.c (AV.l 1)))) (Rp.n 4 true (Rp.n 2 true (Rp.n 1 true (Rp.c (AV.b false)) (Rp.c (AV.l 3))) (Rp.n 1 true (Rp.c (AV.b false)) (Rp.c (AV.l 1)))) (Rp.n 4 true (Rp.n 2 true (Rp.n 1 true (Rp.c (AV.b false)) (Rp.c (AV.l 0))) (Rp.n 1 true (Rp.c (AV.b false)) (Rp.c (AV.l 1)))) (Rp.n 2 true (Rp.n 1 true (Rp.c (AV.b false)) (Rp.c (AV.l 0))) (Rp.n 1 true (Rp.c (AV.b false)) (Rp.c (AV.l 1))))))))))))))))))))))))))
def awake15_ok_x1 : XV := (XV.a 1 (Rp.c (AV.s 614 0 4 4 false 66)))
set_option maxRecDepth 100000 in
theorem awake15_ok_m0 : CallH Tryz.prog 19 (wsOf [0, 0, 2]) (0) .e awake15_ok_x0 (308) (setB [306] [awake15_ok_b306]) := memo_of (callX_sound (by kernel_rfl) awake15_ok_env (fuel := 10000) 60) wsOf_ok HOk_nil HLt_nil (by kernel_rfl)
set_option maxRecDepth 100000 in
theorem awake15_ok_m1 : CallH Tryz.prog 19 (wsOf [1, 1, 2]) (308) (setB [306] [awake15_ok_b306]) awake15_ok_x1 (616) (setB [306, 614] [awake15_ok_b306, awake15_ok_b614]) := memo_of (callX_sound (by kernel_rfl) awake15_ok_env (fuel := 10000) 60) wsOf_ok awake15_ok_m0.hok awake15_ok_m0.hlt (by kernel_rfl)
noncomputable def awake15_ok_ms : List Mm := [⟨19, [0, 0, 2], 0, .e, awake15_ok_x0, 308, (setB [306] [awake15_ok_b306])⟩, ⟨19, [1, 1, 2], 308, (setB [306] [awake15_ok_b306]), awake15_ok_x1, 616, (setB [306, 614] [awake15_ok_b306, awake15_ok_b614])⟩]
theorem awake15_ok_mk : MmOk Tryz.prog awake15_ok_ms := fun m hm => by
  simp only [awake15_ok_ms, List.mem_cons, List.not_mem_nil, or_false] at hm
  rcases hm with rfl | rfl
  · exact awake15_ok_m0
  · exact awake15_ok_m1
set_option maxRecDepth 100000 in
theorem awake15_ok : Ok Tryz.prog 4 [] [.c (.b true)] := runM_bool (by kernel_rfl) awake15_ok_env awake15_ok_mk (fuel := 10000) (depth := 60) (by kernel_rfl)
end Go.Proofs.YthhhlpdbainlaaaGreat
namespace Go.Proofs.YthhhlpdbainlaaaGreat
open Go.ChangeShapes Go.WideShapes Go.ChangeAt Go.RowKit Go.Deep
theorem own : ownKnob Tryz.prog.godebug = none := by kernel_rfl
theorem laidOut : laidOutB Tryz.prog = true := by kernel_rfl
def NoB : Nat → Prop := fun _ => False
section
variable {H : Type} {enc : TypeId × Value → H} {w : World} {base : Nat} {spare : Nat → Bool} {held : Bool}
theorem law_of {f : FuncId} {ds : List D0} {vs : Array Value} {W : World} (h : Ok Tryz.prog f ds [.c (.b true)]) (hr : RdL NoB W vs.toList ds) : Calls Tryz.prog f vs W fun e W' => e = .returned (.bool true) ∧ Below W.heap.size W W' :=
  (h.run NoB vs W (fun _ h => h.elim) hr).mono fun e w' ⟨v, e1, h1, h2⟩ => by
    have := RdC.bool_eq h1
    subst this
    exact ⟨e1, h2⟩
end
section
variable {H : Type} {enc : TypeId × Value → H} {w : World} {base : Nat} {spare : Nat → Bool} {held : Bool}
set_option maxRecDepth 100000 in
theorem surd_of {fuel : Nat} {cs : List Value} {x : DataW H × List MemPlace} (h : DataW.trod enc Tryz.prog w base spare held fuel 25 cs = some x) :
    ∃ A B C D E F : Int, (-32768 ≤ A ∧ A ≤ 32767) ∧ (-32768 ≤ B ∧ B ≤ 32767) ∧ (0 ≤ C ∧ C ≤ 65535) ∧ (0 ≤ D ∧ D ≤ 255) ∧ (0 ≤ E ∧ E ≤ 255) ∧ (0 ≤ F ∧ F ≤ 255) ∧ RdCs NoB w cs ([.i .i16 A] ++ [.i .i16 B] ++ [.i .u16 C] ++ [.i .u8 D] ++ [.i .u8 E] ++ [.i .u8 F]) := by
  obtain ⟨xs, n, _, _, hcl, hxl, hf⟩ := DataW.trod_struct (P := Tryz.prog) Tryz.underlying25 h
  have hcl : cs.length = 6 := hcl.trans (by kernel_rfl)
  have hxl : xs.length = 6 := hxl.trans (by kernel_rfl)
  match cs, hcl with
  | [c0, c1, c2, c3, c4, c5], _ =>
    have h0 : DataW.trod enc Tryz.prog w base spare held n 22 [c0] = xs[0]? := hf 0 _ rfl
    have h1 : DataW.trod enc Tryz.prog w base spare held n 22 [c1] = xs[1]? := hf 1 _ rfl
    have h2 : DataW.trod enc Tryz.prog w base spare held n 23 [c2] = xs[2]? := hf 2 _ rfl
    have h3 : DataW.trod enc Tryz.prog w base spare held n 5 [c3] = xs[3]? := hf 3 _ rfl
    have h4 : DataW.trod enc Tryz.prog w base spare held n 5 [c4] = xs[4]? := hf 4 _ rfl
    have h5 : DataW.trod enc Tryz.prog w base spare held n 5 [c5] = xs[5]? := hf 5 _ rfl
    rw [List.getElem?_eq_getElem (by omega)] at h0 h1 h2 h3 h4 h5
    obtain ⟨A, e0, _, g0⟩ := DataW.trod_int (P := Tryz.prog) Tryz.underlying22 h0
    obtain ⟨B, e1, _, g1⟩ := DataW.trod_int (P := Tryz.prog) Tryz.underlying22 h1
    obtain ⟨C, e2, _, g2⟩ := DataW.trod_int (P := Tryz.prog) Tryz.underlying23 h2
    obtain ⟨D, e3, _, g3⟩ := DataW.trod_int (P := Tryz.prog) Tryz.underlying5 h3
    obtain ⟨E, e4, _, g4⟩ := DataW.trod_int (P := Tryz.prog) Tryz.underlying5 h4
    obtain ⟨F, e5, _, g5⟩ := DataW.trod_int (P := Tryz.prog) Tryz.underlying5 h5
    simp at e0 e1 e2 e3 e4 e5
    subst e0 e1 e2 e3 e4 e5
    simp [Lit.wf, IntKind.min, IntKind.max, IntKind.signed, IntKind.bits] at g0 g1 g2 g3 g4 g5
    have k : ∀ (t : IntKind) (q : Int), RdCs NoB w [Value.int t q] [.i t q] := fun t q => RdCs.cons (.i _ _) RdCs.nil
    exact ⟨A, B, C, D, E, F, by omega, by omega, by omega, by omega, by omega, by omega, RdCs.append (RdCs.append (RdCs.append (RdCs.append (RdCs.append (k _ A) (k _ B)) (k _ C)) (k _ D)) (k _ E)) (k _ F)⟩
end
end Go.Proofs.YthhhlpdbainlaaaGreat
namespace Go.Proofs.YthhhlpdbainlaaaGreat
open Go.ChangeShapes Go.WideShapes Go.ChangeAt Go.RowKit
theorem law_topfilter {A B C D E F n : Int} (hA : -32768 ≤ A ∧ A ≤ 32767) (hB : -32768 ≤ B ∧ B ≤ 32767) (hC : 0 ≤ C ∧ C ≤ 65535) (hD : 0 ≤ D ∧ D ≤ 255) (hE : 0 ≤ E ∧ E ≤ 255) (hF : 0 ≤ F ∧ F ≤ 255) (n0 : 0 ≤ n) (n1 : n ≤ 255) :
    Ok Tryz.prog 3 [.a ([.i .i16 A] ++ [.i .i16 B] ++ [.i .u16 C] ++ [.i .u8 D] ++ [.i .u8 E] ++ [.i .u8 F]), .c (.i .u8 n)] [.c (.b true)] := by
  by_cases hn : 60 < n
  · exact lTF_big awake15_ok hn
  obtain ⟨x, y, z, h1, h2, h3, h4, h5, h6, h7⟩ := surd_root hA hB hC hD hE hF
  obtain ⟨m, rfl⟩ := Int.eq_ofNat_of_zero_le n0
  cases hk : skI (rtLo x y z) (rtHi x y z) with
  | true => exact lTF_k awake15_ok h1 h2 h3 h4 h5 h6 h7 (by omega) hk
  | false => exact lTF_u awake15_ok h1 h2 h3 h4 h5 h6 h7 (by omega) hk
set_option maxRecDepth 100000 in
theorem topfilter_lifted (os : Os) (started : os.Started) (H : Type) (enc : TypeId × Value → H) :
    ReturnsInHanded {} Tryz.checked os 3 .any (Rows.topFilterSpec.pre6 enc Tryz.prog Tryz.f3 Rows.topFilterRow.domain false) (Rows.topFilterSpec.post enc Tryz.prog Tryz.f3 false true false false) := by
  refine returnsInHanded_of_change (C := Tryz.checked) own started (by kernel_rfl) Tryz.func3
    (ChangeSpec.witness6 (enc := enc) (C := Tryz.checked) false ⟨#[], #[.agg #[.int .i16 0, .int .i16 0, .int .u16 0, .int .u8 0, .int .u8 0, .int .u8 0], .int .u8 0], []⟩ 8 (by kernel_rfl) (by kernel_rfl) (by kernel_rfl) (by kernel_rfl)) ?_
  intro W base args ds gs before hval0 hW hcnd _
  have hval : ∀ (j : Nat) t v, Tryz.f3.params[j]? = some t → args[j]? = some v → Value.okWide Tryz.prog W .any base t v := hval0
  have hW' := hW
  obtain ⟨p, q, hA0, hV, rfl, hfz, hnd⟩ := hW
  have hA : DataW.TrodAll enc Tryz.prog W 0 (fun _ => true) true Tryz.f3.params.toList args.toList ds p := hA0
  rw [Tryz.params3] at hA hval
  obtain ⟨v0, vs0, d0, ds0, p0, q0, hargs, rfl, rfl, h0, r0⟩ := trodAll_cons hA
  obtain ⟨v1, vs1, d1, ds1, p1, q1, rfl, rfl, rfl, h1, r1⟩ := trodAll_cons r0
  obtain ⟨rfl, rfl, rfl⟩ := trodAll_nil r1
  obtain rfl : args = #[v0, v1] := by cases args; simp_all
  obtain ⟨rfl, rfl⟩ := trodVars_none hV
  obtain ⟨a0, rfl, _⟩ := okWide_struct Tryz.underlying25 (hval 0 25 v0 rfl rfl)
  have k0 := h0
  have lt0 : ∀ x ∈ p0, x.block < W.heap.size := by obtain ⟨m, hm⟩ := k0; exact DataW.trod_lt m _ _ _ hm
  obtain ⟨a1, rfl, rfl, rfl, w1⟩ := open_int Tryz.underlying5 (hval 1 5 v1 rfl rfl) h1
  obtain ⟨y00, y01, y02, y03, y04, y05, g00, g01, g02, g03, g04, g05, hr0⟩ := surd_of (show DataW.trod enc Tryz.prog W 0 _ _ h0.choose 25 a0.toList = some _ from h0.choose_spec)
  have g1 : 0 ≤ a1 ∧ a1 ≤ 255 := by have := w1; simp [Lit.wf, IntKind.min, IntKind.max, IntKind.signed, IntKind.bits] at this; omega
  clear hA0 hval0
  refine (law_of (law_topfilter g00 g01 g02 g03 g04 g05 g1.1 g1.2) (RdL.cons ⟨a0, rfl, hr0⟩ (RdL.cons (.i _ _) RdL.nil))).mono fun e W' ⟨he, bel⟩ => ?_
  subst he
  exact ⟨_, rfl, _, _, _, [], _, [], hW', trodAll_mk1 (shut_bool Tryz.underlying4 _), (trodAll_cons_mk (Below.trod laidOut (by kernel_rfl) (of_decide_eq_true (by kernel_rfl)) k0 bel lt0) (trodAll_cons_mk (shut_int Tryz.underlying5 w1) trodAll_mk0)), rfl, bel.frame _, fun h => by cases h⟩
theorem topfilter_proved : Rows.TopFilterSaid :=
  OpenClaim.holds_of_wide 3 Tryz.f3 rfl rfl rfl rfl rfl rfl rfl ⟨rfl, rfl, rfl, rfl, rfl⟩ rfl rfl rfl rfl rfl (by kernel_rfl) Tryz.func3 (by kernel_rfl)
    (of_decide_eq_true (by kernel_rfl)) (by unfold Func.isWrapper; first | (rw [if_pos (by decide +kernel)]; kernel_rfl) | (rw [if_neg (by decide +kernel)]; exact ⟨rfl, rfl⟩))
    (fun os started H enc _ => topfilter_lifted os started H enc)
end Go.Proofs.YthhhlpdbainlaaaGreat
