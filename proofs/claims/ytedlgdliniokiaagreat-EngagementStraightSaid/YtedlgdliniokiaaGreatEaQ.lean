/- A run on known values: calls. -/
import Derived.Test.YtedlgdliniokiaaGreatEaP
import Derived.Test.YtedlgdliniokiaaGreatRows
import Derived.Deep.Slices
import Derived.ProofKit
import Derived.OpenShut
import Derived.Carry
namespace Go.Proofs.YtedlgdliniokiaaGreat
open Go Go.RowKit
section
variable {P : Program} {n m : Nat} {T : Tr XV} {N : Nat} {H : Tr Bx}
theorem endX_some {F : XF} {κ : Tr XV → Nat → Tr Bx → Cr} {r : Ro} {y : Cr} (h : endX F κ r = y) (hy : y ≠ .no) : ∃ e T N H, r.out = some (e, T, N, H) ∧ (e = .normal ∨ e = .ret) ∧ κ T N H = y := by
  cases r with
  | no => exact absurd h.symm hy
  | n T N H => exact ⟨_, T, N, H, rfl, .inl rfl, h⟩
  | x id T N H => exact absurd h.symm hy
  | r T N H => exact ⟨_, T, N, H, rfl, .inr rfl, h⟩
theorem cF_some {pu : Bool} {fn : Func} {F : XF} (h : cF P pu m fn = some F) : ∃ c, fn.body = some c ∧ cC P fn.ntmps m c = some F.run ∧ allO (cR2 P m) fn.results.toList = some F.rs ∧ F.na = fn.ntmps := by
  unfold cF at h
  split at h
  · cases h
  · rename_i c hc
    split at h
    · rename_i x rs h1 h2
      injection h with h
      subst h
      exact ⟨c, hc, h1, h2, rfl⟩
    · cases h
theorem HS_nil : HS .e = e0 := rfl
theorem HOk_nil : HOk .e := fun k b h => by cases h
theorem HLt_nil : HLt 0 .e := fun k b h => by cases h
/-- The body, run: what the call comes to. -/
theorem body_sound {fn : Func} {c : Code} {fid : FuncId} {args : Array Value} {w : World} {vs : List XV} {V A : Nat → Prop} {β : Nat → Pl} {e : Exit} {T' : Tr XV} {N' : Nat} {H' : Tr Bx} {rs : List XR} {ds : List XD}
    (hf : P.funcs[fid]? = some fn) (hb : fn.body = some c) (hrs : allO (cR2 P m) fn.results.toList = some rs) (he : e = .normal ∨ e = .ret) (hds : resL2 T' H' rs = some ds)
    (hd : Does P fn.ntmps m (fun Q => c.wp P Q) (argsTr vs 0 .e) N H (e, T', N', H')) (hA : ∀ k, A k → ¬ (N ≤ k ∧ k < N')) (hm : Mem V A (HS H) β w) (hr : RdXs A (Zs V (HS H) β) w β args.toList vs) (hn : vs.length ≤ fn.ntmps) :
    Calls P fid args w fun e w' => ∃ v A' β', e = .returned v ∧ (∀ k, A k → A' k) ∧ (∀ k, A' k → Ad A N N' k) ∧ Mem V A' (HS H') β' w' ∧ Hst N N' A (HS H) β w (HS H') β' w' ∧ ∃ us : List Value, RdDs A' (Zs V (HS H') β') w' β' us ds ∧ v = (if h : us.toArray.size = 1 then us.toArray[0] else .tuple us.toArray) := by
  refine calls_of_wp hf hb ?_
  obtain ⟨k1, k2, k3, k4, k5⟩ := hd
  refine k5 (bodyPost P fn _) V A β _ w hA (entry hm hr hn) fun a' w' ⟨A', β', f1, f2, f3, f4⟩ => ?_
  obtain ⟨g1, g2⟩ := resL2_run (n := fn.ntmps) k2 k3 _ _ _ hrs hds
  obtain ⟨us, hrun, hrd⟩ := g2 V A' β' a' w' f4
  have hres := results_run hrun
  rcases he with rfl | rfl
  · exact ⟨f4.dfr, _, hres, _, A', β', rfl, f1, f2, f4.mem, f3, us, hrd, rfl⟩
  · exact ⟨f4.dfr, _, hres, _, A', β', rfl, f1, f2, f4.mem, f3, us, hrd, rfl⟩
theorem callB_sound (hfol : P.follows .mixedOrders = true) {ih : CallX} (hih : CallOk P ih) {F : XF} {pu : Bool} {fn : Func} {g : FuncId} (hF : cF P pu m fn = some F) (hf : P.funcs[g]? = some fn) (hcal : callable P g = true) {fuel : Nat} {vs : List XV} (hvs : ∀ v ∈ vs, xok v) (hO : HOk H) (hL : HLt N H) :
    (∀ x, callB F ih fuel vs N H = .p x → CallP P g vs x) ∧ ∀ x N' H', callB F ih fuel vs N H = .h x N' H' → CallH P g vs N H x N' H' := by
  obtain ⟨c, hb, hc, hrs, hna⟩ := cF_some hF
  have hcode := code_sound hfol c hc
  have hlen : ∀ {y}, callB F ih fuel vs N H = y → y ≠ .no → vs.length ≤ fn.ntmps ∧ (@Bool.rec (fun _ => Cr)
    (endX F (fun T N' H' => @Option.rec (List XD) (fun _ => Cr) .no (fun ds => .h (joinX ds) N' H') (resL2 T H' F.rs)) (F.run ih fuel (argsTr vs 0 .e) N H))
    (endX F (fun T _ H' => @Option.rec (List XD) (fun _ => Cr) .no (fun ds => @Bool.rec (fun _ => Cr) .no (.p (joinX ds)) (puD ds)) (resL2 T H' F.rs)) (F.run ih fuel (argsTr vs 0 .e) 0 .e))
    (bA F.pure (puL vs))) = y := by
    intro y h hy
    unfold callB at h
    cases hl : lenB vs F.na with
    | false => rw [hl] at h; exact absurd h.symm hy
    | true => rw [hl] at h; exact ⟨by rw [← hna]; exact lenB_spec _ _ hl, h⟩
  refine ⟨fun x h => ?_, fun x N' H' h => ?_⟩
  · obtain ⟨hn, h⟩ := hlen h (by simp)
    cases hp : bA F.pure (puL vs) with
    | false =>
      rw [hp] at h
      obtain ⟨e, T1, N1, H1, _, _, h⟩ := endX_some h (by simp)
      cases hd : resL2 T1 H1 F.rs with
      | none => rw [hd] at h; cases h
      | some ds => rw [hd] at h; cases h
    | true =>
      rw [hp] at h
      have hpu := puL_spec (bA_some hp).2
      obtain ⟨e, T1, N1, H1, ho, he, h⟩ := endX_some h (by simp)
      cases hd : resL2 T1 H1 F.rs with
      | none => rw [hd] at h; cases h
      | some ds =>
        rw [hd] at h
        dsimp only at h
        cases hq : puD ds with
        | false => rw [hq] at h; cases h
        | true =>
          rw [hq] at h
          injection h with h
          subst h
          have hdo := hcode ih hih fuel _ _ _ _ (args_tok (m := m) hvs) HOk_nil HLt_nil ho
          have hdok := (resL2_run (n := fn.ntmps) hdo.2.1 hdo.2.2.1 _ _ _ hrs hd).1
          refine ⟨hcal, joinX_ok hdok, fun Z A β args w hZ hr => ?_⟩
          have hm : Mem Z (fun _ => False) (HS .e) β w := ⟨hZ, fun k hk => absurd rfl hk, fun k hk => hk.elim, fun k l hk => absurd rfl hk, fun k hk => absurd rfl hk, fun k U cs hk => by cases hk⟩
          have hk1 : Keep Z (Zs Z (HS .e) β) w w := ⟨Nat.le_refl _, fun _ _ _ => rfl, fun b _ hb => by
            rcases hb with hb | ⟨k, hk, _⟩
            · exact hb
            · exact absurd rfl hk⟩
          have hr2 : RdXs (fun _ => False) (Zs Z (HS .e) β) w β args.toList vs := ⟨hr.1, fun j v x hv hx => (hr.2 j v x hv hx).pure hk1 (hvs x (List.mem_of_getElem? hx)) (hpu x (List.mem_of_getElem? hx))⟩
          refine (body_sound hf hb hrs he hd hdo (V := Z) (A := fun _ => False) (β := β) (fun k hk => hk.elim) hm hr2 hn).mono fun e' w' hh => ?_
          obtain ⟨v, A', β', rfl, _, _, hm', hh', us, hus, rfl⟩ := hh
          have hk2 : Keep (Zs Z (HS H1) β') Z w' w' := ⟨Nat.le_refl _, fun _ _ _ => rfl, fun b _ hb => .inl hb⟩
          refine ⟨_, rfl, fun A2 β2 => joinX_reads ⟨hus.1, fun j v d hv hd2 => (hus.2 j v d hv hd2).pure hk2 (hdok d (List.mem_of_getElem? hd2)) (puD_spec hq d (List.mem_of_getElem? hd2))⟩, hh'.os, hh'.tape, hh'.output, hh'.size, fun k hk => hh'.blk k hk fun j hj => absurd rfl hj⟩
  · obtain ⟨hn, h⟩ := hlen h (by simp)
    cases hp : bA F.pure (puL vs) with
    | true =>
      rw [hp] at h
      obtain ⟨e, T1, N1, H1, _, _, h⟩ := endX_some h (by simp)
      cases hd : resL2 T1 H1 F.rs with
      | none => rw [hd] at h; cases h
      | some ds =>
        rw [hd] at h
        dsimp only at h
        cases hq : puD ds with
        | false => rw [hq] at h; cases h
        | true => rw [hq] at h; cases h
    | false =>
      rw [hp] at h
      obtain ⟨e, T1, N1, H1, ho, he, h⟩ := endX_some h (by simp)
      cases hd : resL2 T1 H1 F.rs with
      | none => rw [hd] at h; cases h
      | some ds =>
        rw [hd] at h
        injection h with h1 h2 h3
        subst h1 h2 h3
        have hdo := hcode ih hih fuel _ _ _ _ (args_tok (m := m) hvs) hO hL ho
        have hdok := (resL2_run (n := fn.ntmps) hdo.2.1 hdo.2.2.1 _ _ _ hrs hd).1
        refine ⟨hdo.1, hcal, joinX_ok hdok, hdo.2.2.1, hdo.2.2.2.1, fun V A β args w hA hm hr => ?_⟩
        refine (body_sound hf hb hrs he hd hdo hA hm hr hn).mono fun e' w' hh => ?_
        obtain ⟨v, A', β', rfl, g1, g2, hm', hh', us, hus, rfl⟩ := hh
        exact ⟨_, A', β', rfl, g1, g2, hm', hh', joinX_reads hus⟩
/-- What the tables of a run say is so. -/
structure EnvOk (P : Program) (E : Env) : Prop where
  pr : ∀ g p vs ds, E.pr.get g = some p → (∀ v ∈ vs, xok v) → p vs = some ds → CallP P g vs (joinX ds)
  fs : ∀ g F, E.fs.get g = some (some F) → ∃ pu m fn, cF P pu m fn = some F ∧ P.funcs[g]? = some fn ∧ callable P g = true
theorem callX_sound (hfol : P.follows .mixedOrders = true) {E : Env} (hE : EnvOk P E) {fuel : Nat} : ∀ depth, CallOk P (callX E fuel depth)
  | 0 => fun f vs N H _ _ _ => ⟨fun x h => (by cases h), fun x N' H' h => (by cases h)⟩
  | d + 1 => fun f vs N H hvs hO hL => by
    have e1 : callX E fuel (d + 1) f vs N H = @Option.rec (List XD) (fun _ => Cr) (@Option.rec XF (fun _ => Cr) .no (fun F => callB F (callX E fuel d) fuel vs N H) (oO (E.fs.get f) fun x => x)) (fun ds => .p (joinX ds)) (oO (E.pr.get f) fun p => p vs) := rfl
    cases hp : (oO (E.pr.get f) fun p => p vs) with
    | some ds =>
      rw [e1, hp]
      obtain ⟨p, h1, h2⟩ := oO_some hp
      refine ⟨fun x h => ?_, fun x N' H' h => (by cases h)⟩
      injection h with h
      subst h
      exact hE.pr f p vs ds h1 hvs h2
    | none =>
      rw [e1, hp]
      cases hF : (oO (E.fs.get f) fun x => x) with
      | none => exact ⟨fun x h => (by cases h), fun x N' H' h => (by cases h)⟩
      | some F =>
        obtain ⟨y, h1, h2⟩ := oO_some hF
        subst h2
        obtain ⟨pu, m, fn, h3, h4, h5⟩ := hE.fs f F h1
        exact callB_sound hfol (callX_sound hfol hE d) h3 h4 h5 hvs hO hL
end
end Go.Proofs.YtedlgdliniokiaaGreat
/- A run on known values: the arithmetic that is known by contract. -/
namespace Go.Proofs.YtedlgdliniokiaaGreat
open Go Go.RowKit

section
variable {β : Type}
/-- The limbs of a number. -/
noncomputable def aLm (x : AV) (f : Nat → Option β) : Option β := @AV.rec (fun _ => Option β) (fun _ => none) (fun _ _ => none) f (fun _ _ => none) (fun _ _ _ _ _ _ => none) (f 0) none none (fun _ => none) (fun _ _ _ _ => none) x
noncomputable def aZ (s x : AV) (f : Int → Option β) : Option β := aB s fun b => aLm x fun n => @Bool.rec (fun _ => Option β) (f (.ofNat n)) (@Nat.rec (fun _ => Option β) none (fun m _ => f (.negSucc m)) n) b
noncomputable def aF (x : AV) (y : Option β) : Option β := aB x fun b => @Bool.rec (fun _ => Option β) y none b
noncomputable def rCc (r : Rp) (f : AV → Option β) : Option β := @Rp.rec (fun _ => Option β) none f (fun _ _ _ _ _ _ => none) r
noncomputable def r2 (r : Rp) (f : AV → AV → Option β) : Option β := @Rp.rec (fun _ => Option β) none (fun _ => none) (fun _ _ l r _ _ => rCc l fun x => rCc r fun y => f x y) r
end
/-- Two cells, four cells, of whatever form. -/
noncomputable def c2 (r : Rp) : Option (AV × AV) := @Option.rec (AV × AV) (fun _ => Option (AV × AV)) (oO (idxR r 0) fun x => oO (idxR r 1) fun y => some (x, y)) some (r2 r fun x y => some (x, y))
noncomputable def c4f (r : Rp) : Option (AV × AV × AV × AV) := @Rp.rec (fun _ => Option (AV × AV × AV × AV)) none (fun _ => none) (fun _ _ l r _ _ => r2 l fun s x => r2 r fun t y => some (s, x, t, y)) r
noncomputable def c4 (r : Rp) : Option (AV × AV × AV × AV) := @Option.rec (AV × AV × AV × AV) (fun _ => Option (AV × AV × AV × AV)) (oO (idxR r 0) fun x => oO (idxR r 1) fun y => oO (idxR r 2) fun t => oO (idxR r 3) fun w => some (x, y, t, w)) some (c4f r)
/-- Numbers that are small enough for every contract. -/
noncomputable def smN (n : Nat) : Bool := Nat.blt n 1000000000000000000000000000000000000000000000000000000000000000000000000
noncomputable def dZ {β : Type} (v : XV) (f : Int → Option β) : Option β := xA v fun n r => bT (Nat.beq n 2) (oO (c2 r) fun p => aZ p.1 p.2 fun z => bT (smN z.natAbs) (f z))
/-- A fraction in lowest terms. -/
noncomputable def dQ2 {β : Type} (v : XV) (f : Int → Nat → Option β) : Option β := xA v fun n r => bT (Nat.beq n 4) (oO (c4 r) fun p => aZ p.1 p.2.1 fun z => aF p.2.2.1 (aLm p.2.2.2 fun d =>
  bT (Nat.blt 0 d) (bT (Nat.beq (Nat.gcd z.natAbs d) 1) (bT (smN z.natAbs) (bT (smN d) (f z d))))))
noncomputable def dW {β : Type} (v : XV) (f : Int → Option β) : Option β := xI v fun k x => bT (Nat.beq (kN k) 3) (bI (ltI x (-9223372036854775808)) none (bI (ltI 9223372036854775807 x) none (f x)))
noncomputable def rZ (z : Int) : Rp := @Int.rec (fun _ => Rp) (fun n => .n 1 true (.c (.b false)) (.c (.l n))) (fun n => .n 1 true (.c (.b true)) (.c (.l (Nat.succ n)))) z
noncomputable def xZ (z : Int) : XD := .a 2 (rZ z)
noncomputable def xQ (z : Int) (d : Nat) : XD := .a 4 (.n 2 true (rZ z) (.n 1 true (.c (.b false)) (.c (.l d))))
/-- The number divided by a divisor. -/
noncomputable def dvZ (z : Int) (g : Nat) : Int := @Int.rec (fun _ => Int) (fun n => .ofNat (Nat.div n g)) (fun n => Int.neg (.ofNat (Nat.div (Nat.succ n) g))) z
noncomputable def rdQg (z : Int) (d g : Nat) : XD := xQ (dvZ z g) (Nat.div d g)
noncomputable def rdQ (z : Int) (d : Nat) : XD := rdQg z d (Nat.gcd z.natAbs d)
noncomputable def sgZ (y z : Int) : Int := @Int.rec (fun _ => Int) (fun _ => z) (fun _ => Int.neg z) y
noncomputable def xW (n : Int) : XD := .c (.i .i64 n)
noncomputable def xBo (b : Bool) : XD := .c (.b b)
noncomputable def cmZ (x y : Int) : Int := bI (ltI x y) (-1) (bI (ltI y x) 1 0)
abbrev Prm := List XV → Option (List XD)
noncomputable def l1 (f : XV → Option (List XD)) : Prm := fun vs => @List.rec XV (fun _ => Option (List XD)) none (fun v r _ => @List.rec XV (fun _ => Option (List XD)) (f v) (fun _ _ _ => none) r) vs
noncomputable def l2 (f : XV → XV → Option (List XD)) : Prm := fun vs => @List.rec XV (fun _ => Option (List XD)) none (fun v r _ => @List.rec XV (fun _ => Option (List XD)) none (fun v2 r2 _ => @List.rec XV (fun _ => Option (List XD)) (f v v2) (fun _ _ _ => none) r2) r) vs
noncomputable def q1 (f : Int → Nat → Option (List XD)) : Prm := l1 fun v => dQ2 v f
noncomputable def q2 (f : Int → Nat → Int → Nat → Option (List XD)) : Prm := l2 fun v v2 => dQ2 v fun a b => dQ2 v2 fun c d => f a b c d
noncomputable def z1 (f : Int → Option (List XD)) : Prm := l1 fun v => dZ v f
noncomputable def z2 (f : Int → Int → Option (List XD)) : Prm := l2 fun v v2 => dZ v fun a => dZ v2 fun b => f a b
noncomputable def w1 (f : Int → Option (List XD)) : Prm := l1 fun v => dW v f
noncomputable def w2 (f : Int → Int → Option (List XD)) : Prm := l2 fun v v2 => dW v fun a => dW v2 fun b => f a b
/-- The integer square root of a number, by trial bits. -/
noncomputable def sqBt (n : Nat) (k : Nat) : Nat → Nat := @Nat.rec (fun _ => Nat → Nat) (fun s => s) (fun j ih s => bI (Nat.ble (Nat.mul (Nat.add s (Nat.pow 2 j)) (Nat.add s (Nat.pow 2 j))) n) (ih (Nat.add s (Nat.pow 2 j))) (ih s)) k
noncomputable def sqT (n s : Nat) (f : Nat → Option (List XD)) : Option (List XD) := bT (Nat.ble (Nat.mul s s) n) (bT (Nat.blt n (Nat.mul (Nat.succ s) (Nat.succ s))) (f s))
noncomputable def sqN (n : Nat) (f : Nat → Option (List XD)) : Option (List XD) := sqT n (sqBt n (Nat.succ (Nat.div (Nat.log2 n) 2)) 0) f
noncomputable def sqZ (z : Int) (f : Nat → Option (List XD)) : Option (List XD) := @Int.rec (fun _ => Option (List XD)) (fun n => sqN n f) (fun _ => none) z

noncomputable def pAddX : Prm := q2 fun a b c d => some [rdQ (Int.add (Int.mul a d) (Int.mul c b)) (Nat.mul b d)]
noncomputable def pSubX : Prm := q2 fun a b c d => some [rdQ (Int.sub (Int.mul a d) (Int.mul c b)) (Nat.mul b d)]
noncomputable def pMulX : Prm := q2 fun a b c d => some [rdQ (Int.mul a c) (Nat.mul b d)]
noncomputable def pDivX : Prm := q2 fun a b c d => bI (eqI c 0) none (some [rdQ (sgZ c (Int.mul a d)) (Nat.mul b c.natAbs), xW 0])
noncomputable def pNegX : Prm := q1 fun a b => some [xQ (Int.neg a) b]
noncomputable def pCmpX : Prm := q2 fun a b c d => some [xW (cmZ (Int.mul a d) (Int.mul c b))]
noncomputable def pSignX : Prm := q1 fun a _ => some [xW (cmZ a 0)]
noncomputable def pFromX : Prm := w1 fun a => some [xQ a 1]
noncomputable def pFloorX : Prm := q1 fun a b => some [xZ (@Int.rec (fun _ => Int) (fun n => .ofNat (Nat.div n b)) (fun n => .negSucc (Nat.div n b)) a)]
noncomputable def pMakeX : Prm := z2 fun a b => bI (eqI b 0) none (some [rdQ (sgZ b a) b.natAbs, xW 0])
noncomputable def pSameX : Prm := q2 fun a b c d => some [xBo (bA (eqI a c) (Nat.beq b d))]
noncomputable def pFracX : Prm := w2 fun a b => bI (eqI b 0) none (some [rdQ (sgZ b a) b.natAbs])
noncomputable def xRR (z w : Int) : XD := .a 4 (.n 2 true (rZ z) (rZ w))
noncomputable def pSqrtX : Prm := q1 fun a b => @Int.rec (fun _ => Option (List XD)) (fun n => sqN n fun s => sqN b fun t => bI (bA (Nat.beq (Nat.mul s s) n) (Nat.beq (Nat.mul t t) b)) (some [xRR s t, xBo true]) (some [xRR 0 0, xBo false])) (fun _ => some [xRR 0 0, xBo false]) a
noncomputable def pValidX : Prm := q1 fun _ _ => some [xBo true]
noncomputable def nSignX : Prm := z1 fun a => some [xW (cmZ a 0)]
noncomputable def nCmpX : Prm := z2 fun a b => some [xW (cmZ a b)]
noncomputable def nFromX : Prm := w1 fun a => some [xZ a]
noncomputable def nNegX : Prm := z1 fun a => some [xZ (Int.neg a)]
noncomputable def nMulX : Prm := z2 fun a b => some [xZ (Int.mul a b)]
noncomputable def nAddX : Prm := z2 fun a b => some [xZ (Int.add a b)]
noncomputable def nSubX : Prm := z2 fun a b => some [xZ (Int.sub a b)]
noncomputable def nSameX : Prm := z2 fun a b => some [xBo (eqI a b)]
noncomputable def nDivModX : Prm := z2 fun a b => bI (eqI b 0) none (some [xZ (Int.fdiv a b), xZ (Int.fmod a b), xW 0])
noncomputable def nGCDX : Prm := z2 fun a b => some [xZ (.ofNat (Nat.gcd a.natAbs b.natAbs))]
noncomputable def nSqrtX : Prm := z1 fun a => sqZ a fun s => some [xZ (.ofNat s), xW 0]
noncomputable def nInt64X : Prm := z1 fun a => bI (ltI a (-9223372036854775808)) none (bI (ltI 9223372036854775807 a) none (some [xW a, xBo true]))
end Go.Proofs.YtedlgdliniokiaaGreat
/- A run on known values: from contracts. -/
namespace Go.Proofs.YtedlgdliniokiaaGreat
open Go Go.RowKit
section
variable {P : Program}
def AC (x : AV) (u : CellD) : Prop := ∀ A Z w β v, RdA A Z w β v x → RdC Z w v u
def CA (u : CellD) (x : AV) : Prop := ∀ A Z w β v, RdC Z w v u → RdA A Z w β v x
theorem AC.b (b : Bool) : AC (.b b) (.b b) := fun A Z w β v h => by
  cases h with
  | b => exact .b b
  | f _ _ _ _ h1 => cases h1
theorem AC.i (k : IntKind) (n : Int) : AC (.i k n) (.i k n) := fun A Z w β v h => by
  cases h with
  | i => exact .i k n
  | f _ _ _ _ h1 => cases h1
theorem AC.l (n : Nat) : AC (.l n) (cL n) := fun A Z w β v h => by
  cases h with
  | l _ _ h => exact h
  | f _ _ _ _ h1 => cases h1
theorem cL_zero : cL ((0 : Nat) : Int) = .s 0 [] := by
  have : lim (0 : Nat) = [] := by unfold lim; rfl
  show CellD.s (lim 0).length ((lim 0).map (CellD.i .u32)) = _
  rw [this]; rfl
theorem AC.z : AC .z (cL ((0 : Nat) : Int)) := fun A Z w β v h => by
  cases h with
  | z => rw [cL_zero]; exact .s0 none 0 (by omega)
  | f _ _ _ _ h1 => cases h1
theorem CA.b (b : Bool) : CA (.b b) (.b b) := fun A Z w β v h => by cases h with
  | b => exact .b b
theorem CA.i (k : IntKind) (n : Int) : CA (.i k n) (.i k n) := fun A Z w β v h => by cases h with
  | i => exact .i k n
theorem CA.l (n : Nat) : CA (cL n) (.l n) := fun _A _Z _w _β v h => .l v n h
def ACs : List AV → List CellD → Prop
  | [], [] => True
  | x :: xs, u :: us => AC x u ∧ ACs xs us
  | _, _ => False
def CAs : List CellD → List AV → Prop
  | [], [] => True
  | u :: us, x :: xs => CA u x ∧ CAs us xs
  | _, _ => False
theorem ACs.reads {A Z : Nat → Prop} {w : World} {β : Nat → Pl} : ∀ {xs : List AV} {us : List CellD} {vs : List Value}, ACs xs us → RdAs A Z w β vs xs → RdCs Z w vs us
  | [], [], vs, _, h => by
    have : vs = [] := List.eq_nil_of_length_eq_zero h.1
    subst this; exact RdCs.nil
  | x :: xs, y :: us, [], _, h => absurd h.1 (by simp)
  | x :: xs, y :: us, v :: vs, hc, h => by
    obtain ⟨h1, h2⟩ := h.uncons
    exact RdCs.cons (hc.1 _ _ _ _ _ h1) (hc.2.reads h2)
  | [], _ :: _, _, hc, _ => hc.elim
  | _ :: _, [], _, hc, _ => hc.elim
theorem CAs.len : ∀ {us : List CellD} {xs : List AV}, CAs us xs → us.length = xs.length
  | [], [], _ => rfl
  | _ :: us, _ :: xs, h => by simp [h.2.len]
  | [], _ :: _, h => h.elim
  | _ :: _, [], h => h.elim
theorem CAs.at : ∀ {us : List CellD} {xs : List AV}, CAs us xs → ∀ {j : Nat} {x : AV}, xs[j]? = some x → ∃ y, us[j]? = some y ∧ CA y x
  | [], [], _, j, x, h => by simp at h
  | y :: us, x0 :: xs, h, 0, x, hx => by simp at hx; subst hx; exact ⟨y, rfl, h.1⟩
  | y :: us, x0 :: xs, h, j + 1, x, hx => by simpa using h.2.at (by simpa using hx)
  | [], _ :: _, h, _, _, _ => h.elim
  | _ :: _, [], h, _, _, _ => h.elim
theorem CAs.reads {A Z : Nat → Prop} {w : World} {β : Nat → Pl} {us : List CellD} {xs : List AV} {vs : List Value} (hc : CAs us xs) (h : RdCs Z w vs us) : RdAs A Z w β vs xs := by
  refine ⟨h.1.trans hc.len, fun j v x hv hx => ?_⟩
  obtain ⟨y, h1, h2⟩ := hc.at hx
  exact h2 _ _ _ _ _ (h.2 j v y hv h1)
def InD (x : XV) (d : D0) : Prop := ∀ A Z w β v, RdX2 A Z w β v x → RdV Z w v d
def OutD (d : D0) (x : XD) : Prop := xdok x ∧ ∀ A Z w β v, RdV Z w v d → RdD A Z w β v x
def InL : List XV → List D0 → Prop
  | [], [] => True
  | x :: xs, u :: us => InD x u ∧ InL xs us
  | _, _ => False
def OutL : List D0 → List XD → Prop
  | [], [] => True
  | u :: us, x :: xs => OutD u x ∧ OutL us xs
  | _, _ => False
theorem InL.reads {A Z : Nat → Prop} {w : World} {β : Nat → Pl} : ∀ {xs : List XV} {us : List D0} {vs : List Value}, InL xs us → RdXs A Z w β vs xs → RdL Z w vs us
  | [], [], vs, _, h => by
    have : vs = [] := List.eq_nil_of_length_eq_zero h.1
    subst this; exact RdL.nil
  | x :: xs, y :: us, [], _, h => absurd h.1 (by simp)
  | x :: xs, y :: us, v :: vs, hc, h => by
    exact RdL.cons (hc.1 _ _ _ _ _ (h.2 0 v x rfl rfl)) (hc.2.reads (A := A) (β := β) ⟨by have := h.1; simpa using this, fun j u z hu hz => h.2 (j + 1) u z (by simpa using hu) (by simpa using hz)⟩)
  | [], _ :: _, _, hc, _ => hc.elim
  | _ :: _, [], _, hc, _ => hc.elim
theorem OutL.ok : ∀ {us : List D0} {xs : List XD}, OutL us xs → ∀ d ∈ xs, xdok d
  | [], [], _, d, h => by cases h
  | _ :: us, x :: xs, h, d, hd => by
    rcases List.mem_cons.1 hd with rfl | hd
    · exact h.1.1
    · exact h.2.ok d hd
  | [], _ :: _, h, _, _ => h.elim
  | _ :: _, [], h, _, _ => h.elim
theorem OutL.reads {A Z : Nat → Prop} {w : World} {β : Nat → Pl} : ∀ {us : List D0} {xs : List XD} {vs : List Value}, OutL us xs → RdL Z w vs us → RdDs A Z w β vs xs
  | [], [], vs, _, h => by
    have : vs = [] := List.eq_nil_of_length_eq_zero h.1
    subst this; exact ⟨rfl, fun j v d hv => by simp at hv⟩
  | y :: us, x :: xs, [], _, h => absurd h.1 (by simp)
  | y :: us, x :: xs, v :: vs, hc, h => by
    obtain ⟨h1, h2⟩ := h.uncons
    have h3 := hc.2.reads (A := A) (β := β) h2
    refine ⟨by simp [h3.1], fun j u d hu hd => ?_⟩
    cases j with
    | zero => simp at hu hd; subst hu hd; exact hc.1.2 _ _ _ _ _ h1
    | succ j => simp at hu hd; exact h3.2 j u d hu hd
  | [], _ :: _, _, hc, _ => hc.elim
  | _ :: _, [], _, hc, _ => hc.elim
theorem outR {us : List D0} {xs : List XD} (hc : OutL us xs) {A Z : Nat → Prop} {w : World} {β : Nat → Pl} {v : Value} (h : RdR Z w v us) : RdX2 A Z w β v (joinX xs) := by
  match us, xs, hc, h with
  | [d], [x], hc, h => exact ofD_reads.2 (hc.1.2 _ _ _ _ _ h)
  | [], [], hc, h =>
    obtain ⟨vs, e, h⟩ := h
    exact ⟨vs, e, hc.reads h⟩
  | d :: d' :: us, x :: x' :: xs, hc, h =>
    obtain ⟨vs, e, h⟩ := h
    exact ⟨vs, e, hc.reads h⟩
  | [], _ :: _, hc, _ => exact hc.elim
  | _ :: _, [], hc, _ => exact hc.elim
  | [d], x :: x' :: xs, hc, _ => exact hc.2.elim
  | d :: d' :: us, [x], hc, _ => exact hc.2.elim
/-- A contract at known values. -/
theorem callP_of {f : FuncId} {vs : List XV} {us rs : List D0} {xs : List XD} (hok : Ok P f us rs) (hi : InL vs us) (ho : OutL rs xs) : CallP P f vs (joinX xs) := by
  refine ⟨hok.cal, joinX_ok ho.ok, fun Z A β args w hZ hr => ?_⟩
  refine (hok.run Z args w hZ (hi.reads hr)).mono fun e w' h => ?_
  obtain ⟨v, rfl, h1, h2⟩ := h
  exact ⟨v, rfl, fun A' β' => outR ho h1, h2⟩
/-! ## Numbers in -/
theorem aLm_some {β : Type} {x : AV} {f : Nat → Option β} {y : β} (h : aLm x f = some y) : ∃ n : Nat, AC x (cL n) ∧ f n = some y := by
  cases x with
  | l n => exact ⟨n, AC.l n, h⟩
  | z => exact ⟨0, AC.z, h⟩
  | _ => cases h
theorem aZ_some {β : Type} {s x : AV} {f : Int → Option β} {y : β} (h : aZ s x f = some y) : ∃ z : Int, AC s (.b (decide (z < 0))) ∧ AC x (cL z) ∧ f z = some y := by
  obtain ⟨b, rfl, h⟩ := aB_some h
  obtain ⟨n, hn, h⟩ := aLm_some h
  cases b with
  | false => exact ⟨(n : Int), by rw [show decide ((n : Int) < 0) = false by simp]; exact AC.b _, hn, h⟩
  | true =>
    cases n with
    | zero => cases h
    | succ m =>
      refine ⟨.negSucc m, by rw [show decide (Int.negSucc m < 0) = true from decide_eq_true (Int.negSucc_lt_zero m)]; exact AC.b _, ?_, h⟩
      have : cL (Int.negSucc m) = cL ((m + 1 : Nat) : Int) := by unfold cL; rfl
      rw [this]; exact hn
theorem r2_some {β : Type} {r : Rp} {f : AV → AV → Option β} {y : β} (h : r2 r f = some y) : ∃ a b, r.flat = [a, b] ∧ f a b = some y := by
  cases r with
  | n ls pu l r =>
    cases l with
    | c a =>
      cases r with
      | c b => exact ⟨a, b, rfl, h⟩
      | _ => cases h
    | _ => cases h
  | _ => cases h
theorem c2_some {r : Rp} {p : AV × AV} (hr : r.ok) (hl : r.flat.length = 2) (h : c2 r = some p) : r.flat = [p.1, p.2] := by
  unfold c2 at h
  cases h1 : (r2 r fun x y => some (x, y)) with
  | some q =>
    rw [h1] at h
    injection h with h
    subst h
    obtain ⟨a, b, e, h2⟩ := r2_some h1
    injection h2 with h2
    subst h2
    exact e
  | none =>
    rw [h1] at h
    obtain ⟨x, hx, h⟩ := oO_some (show (oO (idxR r 0) fun x => oO (idxR r 1) fun y => some (x, y)) = some p from h)
    obtain ⟨y, hy, h⟩ := oO_some h
    injection h with h
    subst h
    rw [idxR_spec _ _ hr] at hx hy
    match hf : r.flat, hl with
    | [a, b], _ => rw [hf] at hx hy; simp at hx hy; rw [hx, hy]
theorem c4_some {r : Rp} {p : AV × AV × AV × AV} (hr : r.ok) (hl : r.flat.length = 4) (h : c4 r = some p) : r.flat = [p.1, p.2.1, p.2.2.1, p.2.2.2] := by
  unfold c4 at h
  cases h1 : c4f r with
  | some q =>
    rw [h1] at h
    injection h with h
    subst h
    cases r with
    | n ls pu l r =>
      obtain ⟨a, b, e1, h2⟩ := r2_some (show (r2 l fun s x => r2 r fun t y => some (s, x, t, y)) = some q from h1)
      obtain ⟨c, d, e2, h3⟩ := r2_some h2
      injection h3 with h3
      subst h3
      show l.flat ++ r.flat = _
      rw [e1, e2]; rfl
    | _ => cases h1
  | none =>
    rw [h1] at h
    obtain ⟨x, hx, h⟩ := oO_some (show (oO (idxR r 0) fun x => oO (idxR r 1) fun y => oO (idxR r 2) fun t => oO (idxR r 3) fun w => some (x, y, t, w)) = some p from h)
    obtain ⟨y, hy, h⟩ := oO_some h
    obtain ⟨t, ht, h⟩ := oO_some h
    obtain ⟨w, hw, h⟩ := oO_some h
    injection h with h
    subst h
    rw [idxR_spec _ _ hr] at hx hy ht hw
    match hf : r.flat, hl with
    | [a, b, c, d], _ => rw [hf] at hx hy ht hw; simp at hx hy ht hw; rw [hx, hy, ht, hw]
theorem inA {n : Nat} {r : Rp} {us : List CellD} (h : ACs r.flat us) : InD (.a n r) (.a us) := fun A Z w β v hv => by
  obtain ⟨cs, e, hr⟩ := hv
  exact ⟨cs, e, h.reads hr⟩
theorem dZ_some {β : Type} {v : XV} {f : Int → Option β} {y : β} (hv : xok v) (h : dZ v f = some y) : ∃ z : Int, InD v (dI z) ∧ smN z.natAbs = true ∧ f z = some y := by
  cases v with
  | a n r =>
    obtain ⟨hn, h⟩ := bT_some (show bT (Nat.beq n 2) (oO (c2 r) fun p => aZ p.1 p.2 fun z => bT (smN z.natAbs) (f z)) = some y from h)
    obtain ⟨p, hp, h⟩ := oO_some h
    obtain ⟨z, h1, h2, h⟩ := aZ_some h
    obtain ⟨h3, h⟩ := bT_some h
    have hn := Nat.eq_of_beq_eq_true hn
    have hf := c2_some hv.1 (by rw [← hv.2]; exact hn) hp
    exact ⟨z, inA (by rw [hf]; exact ⟨h1, h2, trivial⟩), h3, h⟩
  | _ => cases h
end
end Go.Proofs.YtedlgdliniokiaaGreat
/- A run on known values: the arithmetic, by contract. -/
namespace Go.Proofs.YtedlgdliniokiaaGreat
open Go Go.RowKit
section
variable {P : Program} {g : FuncId}
theorem smN_sz {k : Nat} (hk : 8 ≤ k) {z : Int} (h : smN z.natAbs = true) : Sz k z := by
  have h1 : z.natAbs < 1000000000000000000000000000000000000000000000000000000000000000000000000 := blt_iff.1 h
  have h2 := pw_le hk
  have e : pw 8 = 1000000000000000000000000000000000000000000000000000000000000000000000000 := by decide +kernel
  rw [e] at h2
  exact ⟨by omega, by omega⟩
theorem dQ2_some {β : Type} {v : XV} {f : Int → Nat → Option β} {y : β} (hv : xok v) (h : dQ2 v f = some y) : ∃ x : Rat, InD v (dR x) ∧ Rz 300 x ∧ f x.num x.den = some y := by
  cases v with
  | a n r =>
    obtain ⟨hn, h⟩ := bT_some (show bT (Nat.beq n 4) (oO (c4 r) fun p => aZ p.1 p.2.1 fun z => aF p.2.2.1 (aLm p.2.2.2 fun d =>
      bT (Nat.blt 0 d) (bT (Nat.beq (Nat.gcd z.natAbs d) 1) (bT (smN z.natAbs) (bT (smN d) (f z d)))))) = some y from h)
    obtain ⟨p, hp, h⟩ := oO_some h
    obtain ⟨z, h1, h2, h⟩ := aZ_some h
    obtain ⟨b, hb, h⟩ := aB_some h
    cases b with
    | true => cases h
    | false =>
      obtain ⟨d, hd, h⟩ := aLm_some h
      obtain ⟨g1, h⟩ := bT_some h
      obtain ⟨g2, h⟩ := bT_some h
      obtain ⟨g3, h⟩ := bT_some h
      obtain ⟨g4, h⟩ := bT_some h
      have hn := Nat.eq_of_beq_eq_true hn
      have hf := c4_some hv.1 (by rw [← hv.2]; exact hn) hp
      have hd0 : 0 < d := blt_iff.1 g1
      have hg : Nat.gcd z.natAbs d = 1 := Nat.eq_of_beq_eq_true g2
      refine ⟨⟨z, d, by omega, hg⟩, inA (by
        rw [hf]
        refine ⟨h1, h2, ?_, hd, trivial⟩
        rw [hb, show decide (((d : Nat) : Int) < 0) = false by simp]
        exact AC.b _), ⟨smN_sz (by decide) g3, smN_sz (by decide) (by simpa using g4)⟩, h⟩
  | _ => cases h
theorem dW_some {β : Type} {v : XV} {f : Int → Option β} {y : β} (h : dW v f = some y) : ∃ x : Int, InD v (.c (.i .i64 x)) ∧ -9223372036854775808 ≤ x ∧ x ≤ 9223372036854775807 ∧ f x = some y := by
  obtain ⟨k, x, rfl, h3⟩ := xI_some (show xI v (fun k x => bT (Nat.beq (kN k) 3) (bI (ltI x (-9223372036854775808)) none (bI (ltI 9223372036854775807 x) none (f x)))) = some y from h)
  obtain ⟨hk, h4⟩ := bT_some h3
  have hk : k = .i64 := by cases k <;> first | rfl | cases hk
  subst hk
  cases h1 : ltI x (-9223372036854775808) with
  | true => rw [h1] at h4; cases h4
  | false =>
    rw [h1] at h4
    have h5 : bI (ltI 9223372036854775807 x) none (f x) = some y := h4
    cases h2 : ltI 9223372036854775807 x with
    | true => rw [h2] at h5; cases h5
    | false =>
      rw [h2] at h5
      rw [ltI_eq] at h1 h2
      simp only [decide_eq_false_iff_not] at h1 h2
      exact ⟨x, fun A Z w β v hv => AC.i _ _ _ _ _ _ _ hv, by omega, by omega, h5⟩
theorem l1_some {f : XV → Option (List XD)} {vs : List XV} {ds : List XD} (h : l1 f vs = some ds) : ∃ v, vs = [v] ∧ f v = some ds := by
  match vs, h with
  | [v], h => exact ⟨v, rfl, h⟩
theorem l2_some {f : XV → XV → Option (List XD)} {vs : List XV} {ds : List XD} (h : l2 f vs = some ds) : ∃ v v2, vs = [v, v2] ∧ f v v2 = some ds := by
  match vs, h with
  | [v, v2], h => exact ⟨v, v2, rfl, h⟩
def PrOk (P : Program) (g : FuncId) (p : Prm) : Prop := ∀ vs ds, (∀ v ∈ vs, xok v) → p vs = some ds → CallP P g vs (joinX ds)
theorem q1_ok {f : Int → Nat → Option (List XD)} (h : ∀ (x : Rat) ds, Rz 300 x → f x.num x.den = some ds → ∃ rs, Ok P g [dR x] rs ∧ OutL rs ds) : PrOk P g (q1 f) := fun vs ds hvs hp => by
  obtain ⟨v, rfl, h1⟩ := l1_some hp
  obtain ⟨x, i1, s1, h1⟩ := dQ2_some (hvs v (by simp)) h1
  obtain ⟨rs, ho, hl⟩ := h x ds s1 h1
  exact callP_of ho ⟨i1, trivial⟩ hl
theorem q2_ok {f : Int → Nat → Int → Nat → Option (List XD)} (h : ∀ (x y : Rat) ds, Rz 300 x → Rz 300 y → f x.num x.den y.num y.den = some ds → ∃ rs, Ok P g [dR x, dR y] rs ∧ OutL rs ds) : PrOk P g (q2 f) := fun vs ds hvs hp => by
  obtain ⟨v, v2, rfl, h1⟩ := l2_some hp
  obtain ⟨x, i1, s1, h1⟩ := dQ2_some (hvs v (by simp)) h1
  obtain ⟨y, i2, s2, h1⟩ := dQ2_some (hvs v2 (by simp)) h1
  obtain ⟨rs, ho, hl⟩ := h x y ds s1 s2 h1
  exact callP_of ho ⟨i1, i2, trivial⟩ hl
theorem z1_ok {f : Int → Option (List XD)} (h : ∀ (x : Int) ds, (∀ k, 8 ≤ k → Sz k x) → f x = some ds → ∃ rs, Ok P g [dI x] rs ∧ OutL rs ds) : PrOk P g (z1 f) := fun vs ds hvs hp => by
  obtain ⟨v, rfl, h1⟩ := l1_some hp
  obtain ⟨x, i1, s1, h1⟩ := dZ_some (hvs v (by simp)) h1
  obtain ⟨rs, ho, hl⟩ := h x ds (fun k hk => smN_sz hk s1) h1
  exact callP_of ho ⟨i1, trivial⟩ hl
theorem z2_ok {f : Int → Int → Option (List XD)} (h : ∀ (x y : Int) ds, (∀ k, 8 ≤ k → Sz k x) → (∀ k, 8 ≤ k → Sz k y) → f x y = some ds → ∃ rs, Ok P g [dI x, dI y] rs ∧ OutL rs ds) : PrOk P g (z2 f) := fun vs ds hvs hp => by
  obtain ⟨v, v2, rfl, h1⟩ := l2_some hp
  obtain ⟨x, i1, s1, h1⟩ := dZ_some (hvs v (by simp)) h1
  obtain ⟨y, i2, s2, h1⟩ := dZ_some (hvs v2 (by simp)) h1
  obtain ⟨rs, ho, hl⟩ := h x y ds (fun k hk => smN_sz hk s1) (fun k hk => smN_sz hk s2) h1
  exact callP_of ho ⟨i1, i2, trivial⟩ hl
theorem w1_ok {f : Int → Option (List XD)} (h : ∀ (x : Int) ds, -9223372036854775808 ≤ x → x ≤ 9223372036854775807 → f x = some ds → ∃ rs, Ok P g [.c (.i .i64 x)] rs ∧ OutL rs ds) : PrOk P g (w1 f) := fun vs ds hvs hp => by
  obtain ⟨v, rfl, h1⟩ := l1_some hp
  obtain ⟨x, i1, a1, b1, h1⟩ := dW_some h1
  obtain ⟨rs, ho, hl⟩ := h x ds a1 b1 h1
  exact callP_of ho ⟨i1, trivial⟩ hl
theorem w2_ok {f : Int → Int → Option (List XD)} (h : ∀ (x y : Int) ds, -9223372036854775808 ≤ x → x ≤ 9223372036854775807 → -9223372036854775808 ≤ y → y ≤ 9223372036854775807 → f x y = some ds → ∃ rs, Ok P g [.c (.i .i64 x), .c (.i .i64 y)] rs ∧ OutL rs ds) : PrOk P g (w2 f) := fun vs ds hvs hp => by
  obtain ⟨v, v2, rfl, h1⟩ := l2_some hp
  obtain ⟨x, i1, a1, b1, h1⟩ := dW_some h1
  obtain ⟨y, i2, a2, b2, h1⟩ := dW_some h1
  obtain ⟨rs, ho, hl⟩ := h x y ds a1 b1 a2 b2 h1
  exact callP_of ho ⟨i1, i2, trivial⟩ hl
/-! ## Numbers out -/
theorem out_w (n : Int) : OutD (.c (.i .i64 n)) (xW n) := ⟨trivial, fun _A _Z _w _β _v h => CA.i _ _ _ _ _ _ _ h⟩
theorem out_b (b : Bool) : OutD (.c (.b b)) (xBo b) := ⟨trivial, fun _A _Z _w _β _v h => CA.b _ _ _ _ _ _ h⟩
theorem rZ_spec (z : Int) : (rZ z).ok ∧ CAs (cI z) (rZ z).flat ∧ (rZ z).flat.length = 2 ∧ ∀ x ∈ (rZ z).flat, puA x = true := by
  cases z with
  | ofNat n => exact ⟨⟨rfl, trivial, trivial, fun _ x hx => by rcases List.mem_cons.1 hx with rfl | hx; rfl; rw [List.mem_singleton.1 hx]; rfl⟩, ⟨by rw [show decide (Int.ofNat n < 0) = false by simp]; exact CA.b _, CA.l n, trivial⟩, rfl, fun x hx => by rcases List.mem_cons.1 hx with rfl | hx; rfl; rw [List.mem_singleton.1 hx]; rfl⟩
  | negSucc n => exact ⟨⟨rfl, trivial, trivial, fun _ x hx => by rcases List.mem_cons.1 hx with rfl | hx; rfl; rw [List.mem_singleton.1 hx]; rfl⟩, ⟨by rw [show decide (Int.negSucc n < 0) = true from decide_eq_true (Int.negSucc_lt_zero n)]; exact CA.b _, (by
      have : cL (Int.negSucc n) = cL ((n + 1 : Nat) : Int) := by unfold cL; rfl
      rw [this]; exact CA.l _), trivial⟩, rfl, fun x hx => by rcases List.mem_cons.1 hx with rfl | hx; rfl; rw [List.mem_singleton.1 hx]; rfl⟩
theorem out_a {us : List CellD} {n : Nat} {r : Rp} (h1 : r.ok) (h2 : n = r.flat.length) (h : CAs us r.flat) : OutD (.a us) (.a n r) := ⟨⟨h1, h2⟩, fun A Z w β v hv => by
  obtain ⟨cs, e, hr⟩ := hv
  exact ⟨cs, e, h.reads hr⟩⟩
theorem out_z (z : Int) : OutD (dI z) (xZ z) := by
  obtain ⟨h1, h2, h3, _⟩ := rZ_spec z
  exact out_a h1 h3.symm h2
theorem CAs.append : ∀ {us us' : List CellD} {xs xs' : List AV}, CAs us xs → CAs us' xs' → CAs (us ++ us') (xs ++ xs')
  | [], _, [], _, _, h => h
  | _ :: _, _, _ :: _, _, h, h' => ⟨h.1, h.2.append h'⟩
  | [], _, _ :: _, _, h, _ => h.elim
  | _ :: _, _, [], _, h, _ => h.elim
theorem out_rr (z t : Int) : OutD (dQ z t) (xRR z t) := by
  obtain ⟨h1, h2, h3, h4⟩ := rZ_spec z
  obtain ⟨g1, g2, g3, g4⟩ := rZ_spec t
  refine out_a (r := .n 2 true (rZ z) (rZ t)) ⟨h3.symm, h1, g1, fun _ x hx => ?_⟩ ?_ (h2.append g2)
  · rcases List.mem_append.1 hx with hx | hx
    · exact h4 x hx
    · exact g4 x hx
  · show 4 = ((rZ z).flat ++ (rZ t).flat).length
    simp [h3, g3]
theorem out_q {x : Rat} {n : Int} {d : Nat} (hn : x.num = n) (hd : x.den = d) : OutD (dR x) (xQ n d) := by
  subst hn hd
  exact out_rr x.num (x.den : Int)
theorem dvZ_eq {z : Int} {g : Nat} (hg : (g : Int) ∣ z) : dvZ z g = z / g := by
  cases z with
  | ofNat n => rfl
  | negSucc n =>
    show -((((n + 1) / g : Nat) : Int)) = _
    obtain ⟨c, hc⟩ := hg
    by_cases h0 : g = 0
    · subst h0; simp at hc
    · have h1 : ((n + 1 : Nat) : Int) = g * (-c) := by rw [Int.mul_neg, ← hc]; rfl
      rw [hc, Int.mul_ediv_cancel_left _ (by omega), Int.natCast_ediv, h1, Int.mul_ediv_cancel_left _ (by omega), Int.neg_neg]
theorem out_mk (n : Int) {d : Nat} (hd : d ≠ 0) : OutD (dR (mkRat n d)) (rdQ n d) := by
  refine out_q ?_ ?_
  · rw [Rat.num_mkRat, if_neg hd, Nat.gcd_comm]
    exact (dvZ_eq (Int.ofNat_dvd_left.2 (Nat.gcd_dvd_left _ _))).symm
  · rw [Rat.den_mkRat, if_neg hd, Nat.gcd_comm]
    rfl
theorem pr_add (h : ∀ {x y : Rat}, Rz 300 x → Rz 300 y → Ok P g [dR x, dR y] [dR (x + y)]) : PrOk P g pAddX := q2_ok fun x y ds hx hy hd => by
  injection hd with hd
  subst hd
  exact ⟨_, h hx hy, by rw [Rat.add_def']; exact out_mk _ (Nat.mul_ne_zero x.den_nz y.den_nz), trivial⟩
theorem pr_sub (h : ∀ {x y : Rat}, Rz 300 x → Rz 300 y → Ok P g [dR x, dR y] [dR (x - y)]) : PrOk P g pSubX := q2_ok fun x y ds hx hy hd => by
  injection hd with hd
  subst hd
  exact ⟨_, h hx hy, by rw [Rat.sub_def']; exact out_mk _ (Nat.mul_ne_zero x.den_nz y.den_nz), trivial⟩
theorem pr_mul (h : ∀ {x y : Rat}, Rz 300 x → Rz 300 y → Ok P g [dR x, dR y] [dR (x * y)]) : PrOk P g pMulX := q2_ok fun x y ds hx hy hd => by
  injection hd with hd
  subst hd
  exact ⟨_, h hx hy, by rw [Rat.mul_def']; exact out_mk _ (Nat.mul_ne_zero x.den_nz y.den_nz), trivial⟩
theorem pr_neg (h : ∀ {x : Rat}, Rz 300 x → Ok P g [dR x] [dR (-x)]) : PrOk P g pNegX := q1_ok fun x ds hx hd => by
  injection hd with hd
  subst hd
  exact ⟨_, h hx, out_q rfl rfl, trivial⟩
theorem pr_valid (h : ∀ {x : Rat}, Rz 300 x → Ok P g [dR x] [.c (.b true)]) : PrOk P g pValidX := q1_ok fun x ds hx hd => by
  injection hd with hd
  subst hd
  exact ⟨_, h hx, out_b true, trivial⟩
end
end Go.Proofs.YtedlgdliniokiaaGreat
/- A run on known values: the arithmetic, by contract: the rest. -/
namespace Go.Proofs.YtedlgdliniokiaaGreat
open Go Go.RowKit
section
variable {P : Program} {g : FuncId}
theorem cmZ_eq (x y : Int) : cmZ x y = cmpI x y := by
  unfold cmZ cmpI
  rw [ltI_eq, ltI_eq]
  by_cases h : x < y
  · rw [decide_eq_true h, if_pos h]; rfl
  · rw [decide_eq_false h, if_neg h]
    by_cases h2 : y < x
    · rw [decide_eq_true h2, if_pos h2]; rfl
    · rw [decide_eq_false h2, if_neg h2]; rfl
theorem out_wc {a b : Int} (h : a = b) : OutD (.c (.i .i64 a)) (xW b) := by subst h; exact out_w a
theorem out_bc {a b : Bool} (h : a = b) : OutD (.c (.b a)) (xBo b) := by subst h; exact out_b a
theorem out_zc {a b : Int} (h : a = b) : OutD (dI a) (xZ b) := by subst h; exact out_z a
theorem pr_cmp (h : ∀ {x y : Rat}, Rz 300 x → Rz 300 y → Ok P g [dR x, dR y] [.c (.i .i64 (cmpR x y))]) : PrOk P g pCmpX := q2_ok fun x y ds hx hy hd => by
  injection hd with hd
  subst hd
  exact ⟨_, h hx hy, out_wc (by rw [cmZ_eq]; exact cmp_rat.symm), trivial⟩
theorem pr_sign (h : ∀ {x : Rat}, Ok P g [dR x] [.c (.i .i64 (cmpR x 0))]) : PrOk P g pSignX := q1_ok fun x ds hx hd => by
  injection hd with hd
  subst hd
  exact ⟨_, h, out_wc (by rw [cmZ_eq, ← cmpR_num]), trivial⟩
theorem pr_from (h : ∀ {n : Int}, -9223372036854775808 ≤ n → n ≤ 9223372036854775807 → Ok P g [.c (.i .i64 n)] [dR (n : Rat)]) : PrOk P g pFromX := w1_ok fun x ds h1 h2 hd => by
  injection hd with hd
  subst hd
  exact ⟨_, h h1 h2, out_q rfl rfl, trivial⟩
theorem pr_nsign (h : ∀ {x : Int}, Ok P g [dI x] [.c (.i .i64 (cmpI x 0))]) : PrOk P g nSignX := z1_ok fun x ds hx hd => by
  injection hd with hd
  subst hd
  exact ⟨_, h, out_wc (cmZ_eq _ _).symm, trivial⟩
theorem pr_ncmp (h : ∀ {x y : Int}, Sz 1000000 x → Sz 1000000 y → Ok P g [dI x, dI y] [.c (.i .i64 (cmpI x y))]) : PrOk P g nCmpX := z2_ok fun x y ds hx hy hd => by
  injection hd with hd
  subst hd
  exact ⟨_, h (hx _ (by decide)) (hy _ (by decide)), out_wc (cmZ_eq _ _).symm, trivial⟩
theorem pr_nfrom (h : ∀ {x : Int}, -9223372036854775808 ≤ x → x ≤ 9223372036854775807 → Ok P g [.c (.i .i64 x)] [dI x]) : PrOk P g nFromX := w1_ok fun x ds h1 h2 hd => by
  injection hd with hd
  subst hd
  exact ⟨_, h h1 h2, out_z _, trivial⟩
theorem pr_nneg (h : ∀ {x : Int}, Sz 1000000 x → Ok P g [dI x] [dI (-x)]) : PrOk P g nNegX := z1_ok fun x ds hx hd => by
  injection hd with hd
  subst hd
  exact ⟨_, h (hx _ (by decide)), out_z _, trivial⟩
theorem pr_nmul (h : ∀ {x y : Int}, Sz 400000 x → Sz 400000 y → Ok P g [dI x, dI y] [dI (x * y)]) : PrOk P g nMulX := z2_ok fun x y ds hx hy hd => by
  injection hd with hd
  subst hd
  exact ⟨_, h (hx _ (by decide)) (hy _ (by decide)), out_z _, trivial⟩
theorem pr_nadd (h : ∀ {x y : Int}, Sz 900000 x → Sz 900000 y → Ok P g [dI x, dI y] [dI (x + y)]) : PrOk P g nAddX := z2_ok fun x y ds hx hy hd => by
  injection hd with hd
  subst hd
  exact ⟨_, h (hx _ (by decide)) (hy _ (by decide)), out_z _, trivial⟩
theorem pr_nsub (h : ∀ {x y : Int}, Sz 900000 x → Sz 900000 y → Ok P g [dI x, dI y] [dI (x - y)]) : PrOk P g nSubX := z2_ok fun x y ds hx hy hd => by
  injection hd with hd
  subst hd
  exact ⟨_, h (hx _ (by decide)) (hy _ (by decide)), out_z _, trivial⟩
theorem pr_ngcd (h : ∀ {x y : Int}, Sz 1000 x → Sz 1000 y → Ok P g [dI x, dI y] [dI (Int.gcd x y : Int)]) : PrOk P g nGCDX := z2_ok fun x y ds hx hy hd => by
  injection hd with hd
  subst hd
  exact ⟨_, h (hx _ (by decide)) (hy _ (by decide)), out_z _, trivial⟩
theorem pr_nsame (h : ∀ {x y : Int}, Sz 1000000 x → Sz 1000000 y → Ok P g [dI x, dI y] [.c (.b (x == y))]) : PrOk P g nSameX := z2_ok fun x y ds hx hy hd => by
  injection hd with hd
  subst hd
  exact ⟨_, h (hx _ (by decide)) (hy _ (by decide)), out_bc (eqI_eq x y).symm, trivial⟩
theorem pr_ndivmod (h : ∀ {x y : Int}, Sz 1000 x → Sz 1000 y → y ≠ 0 → Ok P g [dI x, dI y] [dI (x.fdiv y), dI (x.fmod y), .c (.i .i64 0)]) : PrOk P g nDivModX := z2_ok fun x y ds hx hy hd => by
  cases h0 : eqI y 0 with
  | true => rw [h0] at hd; cases hd
  | false =>
    rw [h0] at hd
    injection hd with hd
    subst hd
    have hy0 : y ≠ 0 := fun e => by subst e; cases h0
    exact ⟨_, h (hx _ (by decide)) (hy _ (by decide)) hy0, out_z _, out_z _, out_w 0, trivial⟩
end
end Go.Proofs.YtedlgdliniokiaaGreat
/- A run on known values: the arithmetic, by contract: fractions made. -/
namespace Go.Proofs.YtedlgdliniokiaaGreat
open Go Go.RowKit
section
variable {P : Program} {g : FuncId}
theorem divInt_sg (x y : Int) : Rat.divInt x y = mkRat (sgZ y x) y.natAbs := by
  cases y with
  | ofNat n => rfl
  | negSucc n => exact Rat.normalize_eq_mkRat (num := -x) (den := n.succ) (by omega)
theorem eqI_ne {y : Int} (h : eqI y 0 = false) : y ≠ 0 := fun e => by subst e; cases h
theorem out_di {x y : Int} (h : y ≠ 0) : OutD (dR (Rat.divInt x y)) (rdQ (sgZ y x) y.natAbs) := by
  rw [divInt_sg]; exact out_mk _ (by omega)
theorem pr_make (h : ∀ {x y : Int}, Sz 999 x → Sz 999 y → y ≠ 0 → Ok P g [dI x, dI y] [dR (Rat.divInt x y), .c (.i .i64 0)]) : PrOk P g pMakeX := z2_ok fun x y ds hx hy hd => by
  cases h0 : eqI y 0 with
  | true => rw [h0] at hd; cases hd
  | false =>
    rw [h0] at hd
    injection hd with hd
    subst hd
    exact ⟨_, h (hx _ (by decide)) (hy _ (by decide)) (eqI_ne h0), out_di (eqI_ne h0), out_w 0, trivial⟩
theorem pr_frac (h : ∀ {n d : Int}, -9223372036854775808 ≤ n → n ≤ 9223372036854775807 → -9223372036854775808 ≤ d → d ≤ 9223372036854775807 → d ≠ 0 → Ok P g [.c (.i .i64 n), .c (.i .i64 d)] [dR (Rat.divInt n d)]) : PrOk P g pFracX := w2_ok fun x y ds h1 h2 h3 h4 hd => by
  cases h0 : eqI y 0 with
  | true => rw [h0] at hd; cases hd
  | false =>
    rw [h0] at hd
    injection hd with hd
    subst hd
    exact ⟨_, h h1 h2 h3 h4 (eqI_ne h0), out_di (eqI_ne h0), trivial⟩
theorem sgZ_mul (c a d : Int) : sgZ c (a * d) = a * sgZ c d := by
  cases c with
  | ofNat n => rfl
  | negSucc n => exact (Int.mul_neg a d).symm
theorem div_mk (x y : Rat) : x / y = mkRat (sgZ y.num (x.num * (y.den : Int))) (x.den * y.num.natAbs) := by
  rw [Rat.div_def, Rat.inv_def, divInt_sg, sgZ_mul, ← Rat.mkRat_mul_mkRat, Rat.mkRat_self]
theorem pr_div (h : ∀ {x y : Rat}, Rz 300 x → Rz 300 y → y ≠ 0 → Ok P g [dR x, dR y] [dR (x / y), .c (.i .i64 0)]) : PrOk P g pDivX := q2_ok fun x y ds hx hy hd => by
  cases h0 : eqI y.num 0 with
  | true => rw [h0] at hd; cases hd
  | false =>
    rw [h0] at hd
    injection hd with hd
    subst hd
    have hn := eqI_ne h0
    have hy0 : y ≠ 0 := fun e => hn (by subst e; rfl)
    exact ⟨_, h hx hy hy0, by rw [div_mk]; exact out_mk _ (Nat.mul_ne_zero x.den_nz (by omega)), out_w 0, trivial⟩
theorem pr_same (h : ∀ {x y : Rat}, Rz 300 x → Rz 300 y → Ok P g [dR x, dR y] [.c (.b (decide (x = y)))]) : PrOk P g pSameX := q2_ok fun x y ds hx hy hd => by
  injection hd with hd
  subst hd
  refine ⟨_, h hx hy, out_bc ?_, trivial⟩
  rw [eqI_eq]
  by_cases e : x = y
  · subst e; simp [bA]
  · rw [decide_eq_false e]
    cases h1 : (x.num == y.num) with
    | false => rfl
    | true =>
      cases h2 : Nat.beq x.den y.den with
      | false => rfl
      | true => exact absurd (Rat.ext (by simpa using h1) (Nat.eq_of_beq_eq_true h2)) e
theorem floor_eq (a : Int) {b : Nat} (hb : b ≠ 0) : a.fdiv (b : Int) = @Int.rec (fun _ => Int) (fun n => .ofNat (Nat.div n b)) (fun n => .negSucc (Nat.div n b)) a := by
  cases b with
  | zero => exact absurd rfl hb
  | succ b =>
    cases a with
    | ofNat n =>
      cases n with
      | zero => show (0 : Int) = Int.ofNat (0 / (b + 1)); simp
      | succ n => rfl
    | negSucc n => rfl
theorem pr_floor (h : ∀ {x : Rat}, Rz 300 x → Ok P g [dR x] [dI (x.num.fdiv (x.den : Int))]) : PrOk P g pFloorX := q1_ok fun x ds hx hd => by
  injection hd with hd
  subst hd
  exact ⟨_, h hx, out_zc (floor_eq _ x.den_nz), trivial⟩
end
end Go.Proofs.YtedlgdliniokiaaGreat
/- A run on known values: the arithmetic, by contract: roots. -/
namespace Go.Proofs.YtedlgdliniokiaaGreat
open Go Go.RowKit
section
variable {P : Program} {g : FuncId}
theorem sqN_some {n : Nat} {f : Nat → Option (List XD)} {ds : List XD} (h : sqN n f = some ds) : ∃ s : Nat, isqI (n : Int) = (s : Int) ∧ f s = some ds := by
  unfold sqN sqT at h
  obtain ⟨h1, h2⟩ := bT_some h
  obtain ⟨h3, h4⟩ := bT_some h2
  refine ⟨_, isqI_unique (by omega) (by omega) ?_ ?_, h4⟩
  · have := Nat.le_of_ble_eq_true h1; exact_mod_cast this
  · have := blt_iff.1 h3; exact_mod_cast this
theorem pr_nsqrt (h : ∀ {x : Int}, Sz 999 x → Ok P g [dI x] [dI (isqI x), .c (.i .i64 (if x < 0 then 7 else 0))]) : PrOk P g nSqrtX := z1_ok fun x ds hx hd => by
  cases x with
  | negSucc n => cases hd
  | ofNat n =>
    obtain ⟨s, h1, h2⟩ := sqN_some (show sqN n (fun s => some [xZ (.ofNat s), xW 0]) = some ds from hd)
    injection h2 with h2
    subst h2
    exact ⟨_, h (hx _ (by decide)), out_zc h1, out_wc (if_neg (by simp)), trivial⟩
theorem sqI_nat {n s : Nat} (h : isqI (n : Int) = (s : Int)) : sqI (n : Int) = Nat.beq (Nat.mul s s) n := by
  unfold sqI
  rw [h]
  cases hb : Nat.beq (Nat.mul s s) n with
  | true =>
    have := Nat.eq_of_beq_eq_true hb
    rw [beq_iff_eq]; exact_mod_cast this
  | false =>
    have := Nat.ne_of_beq_eq_false hb
    rw [beq_eq_false_iff_ne]; exact fun e => this (by exact_mod_cast e)
theorem out_rrc {z t z' t' : Int} (h1 : z = z') (h2 : t = t') : OutD (dQ z t) (xRR z' t') := by subst h1 h2; exact out_rr z t
theorem pr_sqrt (h : ∀ {x : Rat}, Rz 300 x → Ok P g [dR x] [dQ (if sqR x then isqI x.num else 0) (if sqR x then isqI (x.den : Int) else 0), .c (.b (sqR x))]) : PrOk P g pSqrtX := q1_ok fun x ds hx hd => by
  refine ⟨_, h hx, ?_⟩
  cases hn : x.num with
  | negSucc n =>
    rw [hn] at hd
    have hd : some [xRR 0 0, xBo false] = some ds := hd
    injection hd with hd
    subst hd
    have hs : sqR x = false := by unfold sqR; rw [hn, sqI_neg (Int.negSucc_lt_zero n)]; rfl
    rw [hs]
    exact ⟨out_rrc (if_neg (by simp)) (if_neg (by simp)), out_b false, trivial⟩
  | ofNat n =>
    rw [hn] at hd
    obtain ⟨s, h1, h2⟩ := sqN_some (show sqN n (fun s => sqN x.den fun t => bI (bA (Nat.beq (Nat.mul s s) n) (Nat.beq (Nat.mul t t) x.den)) (some [xRR s t, xBo true]) (some [xRR 0 0, xBo false])) = some ds from hd)
    obtain ⟨t, h3, h4⟩ := sqN_some h2
    have hs : sqR x = bA (Nat.beq (Nat.mul s s) n) (Nat.beq (Nat.mul t t) x.den) := by
      unfold sqR
      rw [hn, show Int.ofNat n = (n : Int) from rfl, sqI_nat h1, sqI_nat h3]
      cases Nat.beq (Nat.mul s s) n <;> rfl
    cases hb : bA (Nat.beq (Nat.mul s s) n) (Nat.beq (Nat.mul t t) x.den) with
    | true =>
      rw [hb] at h4 hs
      have h4 : some [xRR s t, xBo true] = some ds := h4
      injection h4 with h4
      subst h4
      rw [hs]
      exact ⟨out_rrc ((if_pos rfl).trans h1) ((if_pos rfl).trans h3), out_b true, trivial⟩
    | false =>
      rw [hb] at h4 hs
      have h4 : some [xRR 0 0, xBo false] = some ds := h4
      injection h4 with h4
      subst h4
      rw [hs]
      exact ⟨out_rrc (if_neg (by simp)) (if_neg (by simp)), out_b false, trivial⟩
end
end Go.Proofs.YtedlgdliniokiaaGreat
/- A run on known values: tables of functions; what a run at no arguments says. -/
namespace Go.Proofs.YtedlgdliniokiaaGreat
open Go Go.RowKit
/-- A function of the program in the form that is run: its number, no name goes in or out, the temporaries that live in one region. -/
noncomputable def cF2 (P : Program) (r : Nat × Bool × Nat) : Option XF := match P.funcs[r.1]? with
  | some fn => cF P r.2.1 r.2.2 fn
  | none => none
noncomputable def envOf (P : Program) (ps : List (Nat × Prm)) (rs : List (Nat × Bool × Nat)) : Env := ⟨mkTr ps, mkTr (rs.map fun r => (r.1, cF2 P r))⟩
def PrAll (P : Program) : List (Nat × Prm) → Prop
  | [] => True
  | p :: r => PrOk P p.1 p.2 ∧ PrAll P r
theorem PrAll.get {P : Program} : ∀ {l : List (Nat × Prm)}, PrAll P l → ∀ {k : Nat} {p : Prm}, (k, p) ∈ l → PrOk P k p
  | [], _, _, _, h => by cases h
  | q :: r, hl, k, p, h => by
    rcases List.mem_cons.1 h with e | h
    · have h1 := hl.1
      rw [← e] at h1; exact h1
    · exact hl.2.get h
theorem envOf_ok {P : Program} {ps : List (Nat × Prm)} {rs : List (Nat × Bool × Nat)} (hp : PrAll P ps) (hc : (rs.all fun r => callable P r.1) = true) : EnvOk P (envOf P ps rs) := by
  refine ⟨fun g p vs ds hg hv hd => hp.get (mkTr_get ps g hg) vs ds hv hd, fun g F hg => ?_⟩
  have hm := mkTr_get _ g hg
  obtain ⟨r, hr, e⟩ := List.mem_map.1 hm
  injection e with e1 e2
  have hcal : callable P g = true := by rw [← e1]; exact List.all_eq_true.1 hc r hr
  unfold cF2 at e2
  rw [e1] at e2
  cases hf : P.funcs[g]? with
  | none => rw [hf] at e2; cases e2
  | some fn => rw [hf] at e2; exact ⟨r.2.1, r.2.2, fn, e2, rfl, hcal⟩
/-- A call with no arguments that ends with a bool. -/
theorem run_bool {P : Program} {E : Env} (hfol : P.follows .mixedOrders = true) (hE : EnvOk P E) {fuel depth f : Nat} {v : Bool} (h : callX E fuel depth f [] 0 .e = .p (.c (.b v))) : Ok P f [] [.c (.b v)] := by
  have hc := ((callX_sound hfol hE depth) f [] 0 .e (fun v hv => by cases hv) HOk_nil HLt_nil).1 _ h
  refine ⟨hc.cal, fun av vs w hav hr => ?_⟩
  have hn : vs.toList = [] := List.eq_nil_of_length_eq_zero hr.1
  refine (hc.run av (fun _ => False) (fun _ => ⟨0, 0⟩) vs w hav (by rw [hn]; exact ⟨rfl, fun j v x hv => by simp at hv⟩)).mono fun e w' ⟨v', h1, h2, h3⟩ => ?_
  refine ⟨v', h1, ?_, h3⟩
  have h4 : RdA (fun _ => False) av w' (fun _ => ⟨0, 0⟩) v' (.b v) := h2 _ _
  exact AC.b v _ _ _ _ _ h4
end Go.Proofs.YtedlgdliniokiaaGreat
/- Plain: numbers of 64 bits. -/
namespace Go.Proofs.YtedlgdliniokiaaGreat
open Go Go.RowKit
/-- x fits 64 bits -/
def fitB (x : Int) : Bool := decide (-9223372036854775808 ≤ x) && decide (x ≤ 9223372036854775807)
theorem fit_lo {x : Int} (h : x < -9223372036854775808) : fitB x = false := by unfold fitB; rw [decide_eq_false (by omega)]; rfl
theorem fit_hi {x : Int} (h : 9223372036854775807 < x) : fitB x = false := by unfold fitB; rw [decide_eq_false (p := x ≤ 9223372036854775807) (by omega), Bool.and_false]
theorem fit_in {x : Int} (h : ¬ x < -9223372036854775808) (h2 : ¬ 9223372036854775807 < x) : fitB x = true := by unfold fitB; rw [decide_eq_true (by omega), decide_eq_true (by omega)]; rfl
theorem fit_iff {x : Int} : fitB x = true ↔ -9223372036854775808 ≤ x ∧ x ≤ 9223372036854775807 := by unfold fitB; simp
theorem w_neg1 {r : Int} (h0 : 1 ≤ r) (h1 : r ≤ 9223372036854775808) : IntKind.u64.wrap (0 - r) = 18446744073709551616 - r := by unfold IntKind.wrap; simp [IntKind.bits, IntKind.signed]; omega
theorem w_neg2 {r : Int} (h0 : 1 ≤ r) (h1 : r ≤ 9223372036854775808) : IntKind.i64.wrap (18446744073709551616 - r) = -r := by unfold IntKind.wrap; simp [IntKind.bits, IntKind.signed]; omega
theorem dec_t {p : Prop} [Decidable p] (h : decide p = true) : p := by simpa using h
theorem dec_f {p : Prop} [Decidable p] (h : decide p = false) : ¬ p := by simpa using h
theorem not_f {b : Bool} (h : (!b) = false) : b = true := by simpa using h
theorem not_t {b : Bool} (h : (!b) = true) : b = false := by simpa using h
theorem dec_t' {p : Prop} {i : Decidable p} (h : @decide p i = true) : p := of_decide_eq_true h
end Go.Proofs.YtedlgdliniokiaaGreat
/- A run on known values: numbers of 64 bits, by contract. -/
namespace Go.Proofs.YtedlgdliniokiaaGreat
open Go Go.RowKit
section
variable {P : Program} {g : FuncId}
theorem pr_int64 (h : ∀ {x : Int}, Sz 1000000 x → Ok P g [dI x] [.c (.i .i64 (if fitB x then x else 0)), .c (.b (fitB x))]) : PrOk P g nInt64X := z1_ok fun x ds hx hd => by
  have hd : bI (ltI x (-9223372036854775808)) none (bI (ltI 9223372036854775807 x) none (some [xW x, xBo true])) = some ds := hd
  rw [bI_eq, bI_eq, ltI_eq, ltI_eq] at hd
  by_cases h1 : x < -9223372036854775808
  · rw [decide_eq_true h1, if_pos rfl] at hd; cases hd
  · rw [decide_eq_false h1, if_neg (by decide)] at hd
    by_cases h2 : 9223372036854775807 < x
    · rw [decide_eq_true h2, if_pos rfl] at hd; cases hd
    · rw [decide_eq_false h2, if_neg (by decide)] at hd
      injection hd with hd
      subst hd
      have hf := fit_in h1 h2
      exact ⟨_, h (hx _ (by decide)), out_wc (by rw [hf]; exact if_pos rfl), out_bc hf, trivial⟩
end
end Go.Proofs.YtedlgdliniokiaaGreat
/- Integers of 64 bits. -/
namespace Go.Proofs.YtedlgdliniokiaaGreat
open Go Go.RowKit
theorem iInt64_ok {x : Int} (hx : Sz 1000000 x) : Ok Tryz.prog 228 [dI x] [.c (.i .i64 (if fitB x then x else 0)), .c (.b (fitB x))] := by
  refine Ok.of (by kernel_rfl) Tryz.func228 rfl rfl ?_
  rw [show Tryz.f228.ntmps = 39 from rfl, show Tryz.f228.results.toList = [.tmp 2, .tmp 3] from rfl]
  refine dw_seq ?_
  -- region 0
  refine dw_region (by kernel_rfl) ?_
  refine dl_new (sem_box_a rfl rfl) rfl ?_
  refine dl_r (sem_assign rfl rfl) ?_
  refine dl_r (sem_assign rfl rfl) ?_
  refine dl_end ?_
  refine dw_seq ?_
  refine dw_seq ?_
  -- region 1
  refine dw_draw 10 [] follows_mixed (by kernel_rfl) rfl rfl ?_
  refine dq_r (sem_load (us := cI x) ty26 rfl rfl rfl rfl rfl) ?_
  refine dq_r (sem_call rfl rfl (iFrom_ok (by omega) (by omega)) rfl) ?_
  refine dq_r (sem_call rfl rfl (iCmp_ok) rfl) ?_
  refine dq_r (sem_cmp rfl rfl rfl rfl) ?_
  refine dq_rb (sem_move rfl rfl) (fun c1 hb1 => ?_)
  cases c1
  · refine dq_r (sem_load (us := cI x) ty26 rfl rfl rfl rfl rfl) ?_
    refine dq_r (sem_call rfl rfl (iFrom_ok (by omega) (by omega)) rfl) ?_
    refine dq_r (sem_call rfl rfl (iCmp_ok) rfl) ?_
    refine dq_r (sem_cmp rfl rfl rfl rfl) ?_
    refine dq_r (sem_pick rfl rfl rfl rfl) ?_
    refine dq_end ?_
    refine dl_start0 ?_
    refine dl_end ?_
    refine dw_cond rfl (fun hc2 => ?_) (fun hc2 => ?_)
    · refine dw_seq ?_
      -- region 2
      refine dw_region (by kernel_rfl) ?_
      refine dl_r (sem_assign rfl rfl) ?_
      refine dl_r (sem_assign rfl rfl) ?_
      refine dl_end ?_
      refine dw_ret ?_
      -- path fT
      rw [fit_hi (t_gt hc2), if_neg (by decide)]
      exact ⟨.inr rfl, (resL_tmp rfl (resL_tmp rfl resL_nil))⟩
    · have hlo := f_lt hb1
      have hhi := f_gt hc2
      have hln := lim_len hx
      refine dw_skip ?_
      refine dw_seq ?_
      -- region 3
      refine dw_region (by kernel_rfl) ?_
      refine dl_r (sem_assign rfl rfl) ?_
      refine dl_end ?_
      refine dw_seq ?_
      refine dw_seq ?_
      -- region 4
      refine dw_region (by kernel_rfl) ?_
      refine dl_r (sem_field fd26_1 rfl rfl) ?_
      refine dl_r (sem_load1 ty24 rfl rfl rfl rfl) ?_
      refine dl_r (sem_len sl24 rfl rfl) ?_
      refine dl_r (sem_ari (r := (((lim x.natAbs).length : Int)) - 1) rfl rfl (ari_i64_sub (by (first | omega | (simp; omega))) (by (first | omega | (simp; omega)))) rfl) ?_
      refine dl_r (sem_assign rfl rfl) ?_
      refine dl_end ?_
      refine dw_block ?_
      refine dw_loop (ι := {t : Nat × Int // ShInv (lim x.natAbs) t.1 t.2}) (fun i => ⟨39, [(1, .p 1 0), (4, .v (.c (.i .u64 i.1.2))), (5, .v (.c (.i .i64 ((i.1.1 : Int) - 1))))], [(1, 26, cI x)]⟩) (fun i => i.1.1) ⟨((lim x.natAbs).length, 0), ⟨Nat.le_refl _, Int.le_refl 0, by rw [List.take_length]; simp⟩⟩ (sub_of ⟨rfl, rfl, rfl, trivial⟩ ⟨rfl, trivial⟩ rfl) ?_
      rintro ⟨⟨j, r⟩, hI⟩
      replace hI : ShInv (lim x.natAbs) j r := hI
      have g5 := hI.le
      have g3 := hI.r0
      have g4 := hI.bound (lim_lim _)
      rw [val_lim] at g4
      show Dw _ _ ⟨39, [(1, .p 1 0), (4, .v (.c (.i .u64 r))), (5, .v (.c (.i .i64 ((j : Int) - 1))))], [(1, 26, cI x)]⟩ _
      refine dw_seq ?_
      refine dw_seq ?_
      -- region 5
      refine dw_region (by kernel_rfl) ?_
      refine dl_r (sem_move rfl rfl) ?_
      refine dl_r (sem_cmp rfl rfl rfl rfl) ?_
      refine dl_end ?_
      refine dw_cond rfl (fun hc3 => ?_) (fun hc3 => ?_)
      · obtain ⟨q, rfl⟩ : ∃ q, j = q + 1 := ⟨j - 1, by have := dec_t hc3; omega⟩
        have hS := hI.step (lim_lim _)
        have hB := hS.bound (lim_lim _)
        have g1 := lim_getD (lim_lim x.natAbs) q
        rw [val_lim] at hB
        refine Dw.weak (σ' := ⟨39, [(1, .p 1 0), (4, .v (.c (.i .u64 r))), (5, .v (.c (.i .i64 (q : Int))))], [(1, 26, cI x)]⟩) (sub_of ⟨rfl, rfl, by rw [show (q : Int) = ((q + 1 : Nat) : Int) - 1 from by omega]; rfl, trivial⟩ ⟨rfl, trivial⟩ rfl) ?_
        refine dw_skip ?_
        refine dw_seq ?_
        refine dw_block ?_
        -- region 7
        refine dw_region (by kernel_rfl) ?_
        refine dl_r (sem_move rfl rfl) ?_
        refine dl_r (sem_ari (r := r * 1000000000) rfl rfl (ari_u64_mul (by (first | omega | (simp; omega))) (by (first | omega | (simp; omega)))) rfl) ?_
        refine dl_r (sem_field fd26_1 rfl rfl) ?_
        refine dl_r (sem_load1 ty24 rfl rfl rfl rfl) ?_
        refine dl_r (sem_move rfl rfl) ?_
        refine dl_r (sem_index sl24 rfl rfl (by (first | omega | (simp; omega))) (M_len _) rfl rfl) ?_
        refine dl_r (sem_loadq1 ty132 rfl (M_get (i := q) (by (first | omega | (simp; omega)))) rfl) ?_
        refine dl_r (sem_conv' (r := (lim x.natAbs).getD q 0) und132 und104 rfl (nwu64 (by (first | omega | (simp; omega))) (by (first | omega | (simp; omega)))) rfl) ?_
        refine dl_r (sem_ari (r := (r * 1000000000) + ((lim x.natAbs).getD q 0)) rfl rfl (ari_u64_add (by (first | omega | (simp; omega))) (by (first | omega | (simp; omega)))) rfl) ?_
        refine dl_r (sem_assign rfl rfl) ?_
        refine dl_end ?_
        -- region 6
        refine dw_region (by kernel_rfl) ?_
        refine dl_r (sem_move rfl rfl) ?_
        refine dl_r (sem_ari (r := (q : Int) - 1) rfl rfl (ari_i64_sub (by (first | omega | (simp; omega))) (by (first | omega | (simp; omega)))) rfl) ?_
        refine dl_r (sem_assign rfl rfl) ?_
        refine dl_end ?_
        exact ⟨⟨(q, r * 1000000000 + (lim x.natAbs).getD q 0), hS⟩, sub_of ⟨rfl, rfl, rfl, trivial⟩ ⟨rfl, trivial⟩ rfl, by show q < q + 1; omega⟩
      · have hz : j = 0 := by have := dec_f hc3; omega
        have hfin : (x.natAbs : Int) = r := by subst hz; have := hI.v; rw [val_lim] at this; simp [val, pw_zero] at this; omega
        refine dw_exit ?_
        refine dw_seq ?_
        refine dw_seq ?_
        -- region 8
        refine dw_region (by kernel_rfl) ?_
        refine dl_r (sem_field fd26_0 rfl rfl) ?_
        refine dl_r (sem_load1 ty4 rfl rfl rfl rfl) ?_
        refine dl_end ?_
        refine dw_cond rfl (fun hc4 => ?_) (fun hc4 => ?_)
        · have hn := dec_t hc4
          -- region 9
          refine dw_region (by kernel_rfl) ?_
          refine dl_r (sem_move rfl rfl) ?_
          refine dl_r (sem_neg' (r := 18446744073709551616 - r) rfl (w_neg1 (by omega) (by omega)) rfl) ?_
          refine dl_r (sem_assign rfl rfl) ?_
          refine dl_end ?_
          refine dw_seq ?_
          -- region 10
          refine dw_region (by kernel_rfl) ?_
          refine dl_r (sem_move rfl rfl) ?_
          refine dl_r (sem_conv' (r := x) und104 und2 rfl (by rw [w_neg2 (by omega) (by omega)]; omega) rfl) ?_
          refine dl_r (sem_assign rfl rfl) ?_
          refine dl_r (sem_assign rfl rfl) ?_
          refine dl_end ?_
          refine dw_ret ?_
          -- path fFFT
          rw [fit_in hlo hhi, if_pos rfl]
          exact ⟨.inr rfl, (resL_tmp rfl (resL_tmp rfl resL_nil))⟩
        · have hn := dec_f hc4
          refine dw_skip ?_
          refine dw_seq ?_
          -- region 10
          refine dw_region (by kernel_rfl) ?_
          refine dl_r (sem_move rfl rfl) ?_
          refine dl_r (sem_conv' (r := x) und104 und2 rfl (by rw [← hfin]; rw [nw64 (by omega) (by omega)]; omega) rfl) ?_
          refine dl_r (sem_assign rfl rfl) ?_
          refine dl_r (sem_assign rfl rfl) ?_
          refine dl_end ?_
          refine dw_ret ?_
          -- path fFFF
          rw [fit_in hlo hhi, if_pos rfl]
          exact ⟨.inr rfl, (resL_tmp rfl (resL_tmp rfl resL_nil))⟩
  · refine dq_skip (sem_skip rfl) ?_
    refine dq_skip (sem_skip rfl) ?_
    refine dq_skip (sem_skip rfl) ?_
    refine dq_skip (sem_skip rfl) ?_
    refine dq_r (sem_pick rfl rfl rfl rfl) ?_
    refine dq_end ?_
    refine dl_start0 ?_
    refine dl_end ?_
    refine dw_true rfl ?_
    refine dw_seq ?_
    -- region 2
    refine dw_region (by kernel_rfl) ?_
    refine dl_r (sem_assign rfl rfl) ?_
    refine dl_r (sem_assign rfl rfl) ?_
    refine dl_end ?_
    refine dw_ret ?_
    -- path t
    rw [fit_lo (t_lt hb1), if_neg (by decide)]
    exact ⟨.inr rfl, (resL_tmp rfl (resL_tmp rfl resL_nil))⟩
end Go.Proofs.YtedlgdliniokiaaGreat
/- Plain: numbers as they may come in (limbs as they are), and when they are numbers in reduced form. -/
namespace Go.Proofs.YtedlgdliniokiaaGreat
open Go Go.RowKit
/-- limbs are of 32 bits -/
def U32s (xs : List Int) : Prop := ∀ x ∈ xs, 0 ≤ x ∧ x ≤ 4294967295
theorem u32_getD {xs : List Int} (h : U32s xs) (i : Nat) : 0 ≤ xs.getD i 0 ∧ xs.getD i 0 ≤ 4294967295 := by
  by_cases hi : i < xs.length
  · have : xs.getD i 0 = xs[i] := by simp [List.getD, hi]
    rw [this]; exact h _ (List.getElem_mem hi)
  · have : xs.getD i 0 = 0 := by rw [List.getD, List.getElem?_eq_none (by omega)]; rfl
    rw [this]; omega
/-- a whole number in reduced form -/
def vI (neg : Bool) (xs : List Int) : Bool := xs.all (fun x => decide (x < 1000000000)) && ((trm xs).length == xs.length) && (!neg || decide (0 < xs.length))
theorem vI_bad {neg : Bool} {xs : List Int} {k : Nat} (hk : k < xs.length) (h : xs.getD k 0 ≥ 1000000000) : vI neg xs = false := by
  have h1 : xs.all (fun x => decide (x < 1000000000)) = false := by
    rw [Bool.eq_false_iff]
    intro hall
    have h2 := List.all_eq_true.1 hall xs[k] (List.getElem_mem hk)
    have h3 : xs.getD k 0 = xs[k] := by simp [List.getD, hk]
    simp only [decide_eq_true_eq] at h2
    omega
  unfold vI
  rw [h1]; rfl
theorem lim_of_all {xs : List Int} (hb : U32s xs) (h : ∀ k, k < xs.length → xs.getD k 0 < 1000000000) : Lim xs := by
  intro x hx
  obtain ⟨i, hi, rfl⟩ := List.getElem_of_mem hx
  have h1 := h i hi
  have h3 : xs.getD i 0 = xs[i] := by simp [List.getD, hi]
  have := hb xs[i] (List.getElem_mem hi)
  omega
theorem all_of_lim {xs : List Int} (h : Lim xs) : xs.all (fun x => decide (x < 1000000000)) = true := List.all_eq_true.2 fun x hx => by have := h x hx; simp; omega
theorem vI_lim {neg : Bool} {xs : List Int} (h : Lim xs) : vI neg xs = (((trm xs).length == xs.length) && (!neg || decide (0 < xs.length))) := by
  unfold vI; rw [all_of_lim h]; rfl
theorem trm_last {xs : List Int} (h : 0 < xs.length) : ((trm xs).length == xs.length) = (xs.getD (xs.length - 1) 0 != 0) := by
  cases hb : (xs.getD (xs.length - 1) 0 == 0) with
  | true =>
    have h1 := trim_step (xs := xs) (k := xs.length) h (Nat.le_refl _) (by rw [List.take_length]) (by rw [List.take_length]; exact hb)
    have h2 := trm_len (xs.take (xs.length - 1))
    rw [h1, List.length_take] at h2
    have : (trm xs).length ≠ xs.length := by omega
    simp at hb
    simp [this, hb]
  | false =>
    have h1 := trim_stop (xs := xs) (k := xs.length) h (Nat.le_refl _) (by rw [List.take_length]) (by rw [List.take_length]; exact hb)
    rw [h1, List.take_length]
    simp at hb
    simp [hb]
theorem vI_pos {neg : Bool} {xs : List Int} (h : Lim xs) (h0 : 0 < xs.length) : vI neg xs = (xs.getD (xs.length - 1) 0 != 0) := by
  rw [vI_lim h, trm_last h0]
  simp [h0]
theorem vI_nil {neg : Bool} {xs : List Int} (h0 : ¬ 0 < xs.length) : vI neg xs = !neg := by
  have : xs = [] := List.length_eq_zero_iff.1 (by omega)
  subst this
  cases neg <;> decide
theorem vI_ref {neg : Bool} {xs : List Int} (h : Lim xs) : vI neg xs = ((((lim (val xs).natAbs).length : Int) == (xs.length : Int)) && (!neg || decide ((xs.length : Int) > 0))) := by
  rw [vI_lim h, lim_trm h]
  congr 1
  · rw [Bool.eq_iff_iff, beq_iff_eq, beq_iff_eq]; omega
  · simp
theorem vI_data {neg : Bool} {xs : List Int} (hb : U32s xs) (h : vI neg xs = true) : ([CellD.b neg] ++ [cM xs]) = cI (sg neg (val xs)) ∧ xs.length = (lim (sg neg (val xs)).natAbs).length := by
  unfold vI at h
  simp only [Bool.and_eq_true, beq_iff_eq] at h
  obtain ⟨⟨h1, h2⟩, h3⟩ := h
  have hL : Lim xs := fun x hx => by
    have := List.all_eq_true.1 h1 x hx
    simp only [decide_eq_true_eq] at this
    exact ⟨(hb x hx).1, this⟩
  have hN : trm xs = xs := by
    obtain ⟨n, hn, e1, _⟩ := trm_take xs
    rw [e1, List.length_take] at h2
    rw [e1, List.take_of_length_le (by omega)]
  have hv := val_nonneg hL
  have hx : lim (val xs).natAbs = xs := by rw [← lim_trm hL, hN]
  have e : (sg neg (val xs)).natAbs = (val xs).natAbs := by cases neg <;> simp [sg]
  refine ⟨?_, by rw [e, hx]⟩
  unfold cI
  rw [cL_cM, e, hx]
  congr 2
  cases neg with
  | false => rw [sg_false]; simp; omega
  | true =>
    rw [sg_true]
    simp at h3
    have : val xs ≠ 0 := fun e0 => by
      have := hx
      rw [e0] at this
      rw [show (0 : Int).natAbs = 0 from rfl, lim_zero] at this
      rw [← this] at h3; simp at h3
    simp; omega
end Go.Proofs.YtedlgdliniokiaaGreat
/- Numbers in reduced form: integer.Valid, swarfref01.Valid. -/
namespace Go.Proofs.YtedlgdliniokiaaGreat
open Go Go.RowKit
-- no function swarf/integer.Valid in this seat
theorem nValid_ok {neg : Bool} {xs : List Int} (hb : U32s xs) (hn : xs.length ≤ 1000) : Ok Tryz.prog 183 [.a ([.b neg] ++ [cM xs])] [.c (.b (vI neg xs))] := by
  refine Ok.of (by kernel_rfl) Tryz.func183 rfl rfl ?_
  rw [show Tryz.f183.ntmps = 36 from rfl, show Tryz.f183.results.toList = [.tmp 2] from rfl]
  refine dw_seq ?_
  -- region 0
  refine dw_region (by kernel_rfl) ?_
  refine dl_new (sem_box_a rfl rfl) rfl ?_
  refine dl_r (sem_assign rfl rfl) ?_
  refine dl_end ?_
  refine dw_seq ?_
  refine dw_seq ?_
  -- region 1
  refine dw_region (by kernel_rfl) ?_
  refine dl_r (sem_assign rfl rfl) ?_
  refine dl_end ?_
  refine dw_block ?_
  refine dw_loop (ι := {k : Nat // k ≤ xs.length ∧ ∀ j, j < k → xs.getD j 0 < 1000000000}) (fun i => ⟨36, [(1, .p 1 0), (3, .v (.c (.i .i64 (i.1 : Int))))], [(1, 26, ([.b neg] ++ [cM xs]))]⟩) (fun i => xs.length - i.1) ⟨0, Nat.zero_le _, fun j hj => by omega⟩ (sub_of ⟨rfl, rfl, trivial⟩ ⟨rfl, trivial⟩ rfl) ?_
  rintro ⟨k, hk0, hall⟩
  replace hk0 : k ≤ xs.length := hk0
  replace hall : ∀ j, j < k → xs.getD j 0 < 1000000000 := hall
  have hg := u32_getD hb k
  show Dw _ _ ⟨36, [(1, .p 1 0), (3, .v (.c (.i .i64 (k : Int))))], [(1, 26, ([.b neg] ++ [cM xs]))]⟩ _
  refine dw_seq ?_
  refine dw_seq ?_
  -- region 2
  refine dw_region (by kernel_rfl) ?_
  refine dl_r (sem_move rfl rfl) ?_
  refine dl_r (sem_field fd26_1 rfl rfl) ?_
  refine dl_r (sem_load1 ty24 rfl rfl rfl rfl) ?_
  refine dl_r (sem_len sl24 rfl rfl) ?_
  refine dl_r (sem_cmp rfl rfl rfl rfl) ?_
  refine dl_end ?_
  refine dw_cond rfl (fun hc1 => ?_) (fun hc1 => ?_)
  · have hk : k < xs.length := by simp only [decide_eq_true_eq] at hc1; omega
    refine dw_skip ?_
    refine dw_seq ?_
    refine dw_block ?_
    refine dw_seq ?_
    -- region 4
    refine dw_region (by kernel_rfl) ?_
    refine dl_r (sem_field fd26_1 rfl rfl) ?_
    refine dl_r (sem_load1 ty24 rfl rfl rfl rfl) ?_
    refine dl_r (sem_move rfl rfl) ?_
    refine dl_r (sem_index sl24 rfl rfl (by omega) (M_len _) rfl rfl) ?_
    refine dl_r (sem_loadq1 ty132 rfl (M_get (i := k) (by omega)) rfl) ?_
    refine dl_r (sem_cmp rfl rfl rfl rfl) ?_
    refine dl_end ?_
    refine dw_cond rfl (fun hc2 => ?_) (fun hc2 => ?_)
    · have hbad : xs.getD k 0 ≥ 1000000000 := by simpa using hc2
      refine dw_seq ?_
      -- region 5
      refine dw_region (by kernel_rfl) ?_
      refine dl_r (sem_assign rfl rfl) ?_
      refine dl_end ?_
      refine dw_ret ?_
      -- path TT
      rw [vI_bad hk hbad]
      exact ⟨.inr rfl, (resL_tmp rfl resL_nil)⟩
    · have hok : ¬ xs.getD k 0 ≥ 1000000000 := by simpa using hc2
      have hstep : ∀ j, j < k + 1 → xs.getD j 0 < 1000000000 := fun j hj => by
        rcases Nat.lt_or_ge j k with h1 | h1
        · exact hall j h1
        · rw [show j = k from by omega]; omega
      refine dw_skip ?_
      -- region 3
      refine dw_region (by kernel_rfl) ?_
      refine dl_r (sem_move rfl rfl) ?_
      refine dl_r (sem_ari (r := (k : Int) + 1) rfl rfl (ari_i64_add (by omega) (by omega)) rfl) ?_
      refine dl_r (sem_assign rfl rfl) ?_
      refine dl_end ?_
      exact ⟨⟨k + 1, hk, hstep⟩, sub_of ⟨rfl, by rw [show ((k + 1 : Nat) : Int) = (k : Int) + 1 from by omega]; rfl, trivial⟩ ⟨rfl, trivial⟩ rfl, by show xs.length - (k + 1) < xs.length - k; omega⟩
  · have hk : k = xs.length := by simp only [decide_eq_false_iff_not] at hc1; omega
    have hL : Lim xs := lim_of_all hb (by rw [← hk]; exact hall)
    refine dw_exit ?_
    refine dw_seq ?_
    -- region 6
    refine dw_draw 20 [] follows_mixed (by kernel_rfl) rfl rfl ?_
    refine dq_r (sem_field fd26_1 rfl rfl) ?_
    refine dq_r (sem_load1 ty24 rfl rfl rfl rfl) ?_
    refine dq_r (sem_call rfl rfl (rTrim_ok hL (by omega)) rfl) ?_
    refine dq_r (sem_len sl24 rfl rfl) ?_
    refine dq_r (sem_field fd26_1 rfl rfl) ?_
    refine dq_r (sem_load1 ty24 rfl rfl rfl rfl) ?_
    refine dq_r (sem_len sl24 rfl rfl) ?_
    refine dq_r (sem_cmp rfl rfl rfl rfl) ?_
    refine dq_rb (sem_move rfl rfl) (fun c3 hb3 => ?_)
    cases c3
    · refine dq_skip (sem_skip rfl) ?_
      refine dq_skip (sem_skip rfl) ?_
      refine dq_skip (sem_skip rfl) ?_
      refine dq_skip (sem_skip rfl) ?_
      refine dq_skip (sem_skip rfl) ?_
      refine dq_skip (sem_skip rfl) ?_
      refine dq_skip (sem_skip rfl) ?_
      refine dq_skip (sem_skip rfl) ?_
      refine dq_skip (sem_skip rfl) ?_
      refine dq_r (sem_pick rfl rfl rfl rfl) ?_
      refine dq_r (sem_assign rfl rfl) ?_
      refine dq_end ?_
      refine dl_start0 ?_
      refine dl_end ?_
      refine dw_ret ?_
      -- path Ff
      rw [vI_ref hL, hb3, Bool.false_and]
      exact ⟨.inr rfl, (resL_tmp rfl resL_nil)⟩
    · refine dq_r (sem_field fd26_0 rfl rfl) ?_
      refine dq_r (sem_load1 ty4 rfl rfl rfl rfl) ?_
      refine dq_r (sem_not rfl rfl) ?_
      refine dq_rb (sem_move rfl rfl) (fun c4 hb4 => ?_)
      cases c4
      · refine dq_r (sem_field fd26_1 rfl rfl) ?_
        refine dq_r (sem_load1 ty24 rfl rfl rfl rfl) ?_
        refine dq_r (sem_len sl24 rfl rfl) ?_
        refine dq_r (sem_cmp rfl rfl rfl rfl) ?_
        refine dq_r (sem_pick rfl rfl rfl rfl) ?_
        refine dq_r (sem_pick rfl rfl rfl rfl) ?_
        refine dq_r (sem_assign rfl rfl) ?_
        refine dq_end ?_
        refine dl_start0 ?_
        refine dl_end ?_
        refine dw_ret ?_
        -- path Ftf
        rw [vI_ref hL, hb3, hb4, Bool.false_or, Bool.true_and]
        exact ⟨.inr rfl, (resL_tmp rfl resL_nil)⟩
      · refine dq_skip (sem_skip rfl) ?_
        refine dq_skip (sem_skip rfl) ?_
        refine dq_skip (sem_skip rfl) ?_
        refine dq_skip (sem_skip rfl) ?_
        refine dq_r (sem_pick rfl rfl rfl rfl) ?_
        refine dq_r (sem_pick rfl rfl rfl rfl) ?_
        refine dq_r (sem_assign rfl rfl) ?_
        refine dq_end ?_
        refine dl_start0 ?_
        refine dl_end ?_
        refine dw_ret ?_
        -- path Ftt
        rw [vI_ref hL, hb3, hb4, Bool.true_or, Bool.true_and]
        exact ⟨.inr rfl, (resL_tmp rfl resL_nil)⟩
end Go.Proofs.YtedlgdliniokiaaGreat
/- Plain: fractions as they may come in, and when they are in reduced form. -/
namespace Go.Proofs.YtedlgdliniokiaaGreat
open Go Go.RowKit
structure RN where
  n1 : Bool
  x1 : List Int
  n2 : Bool
  x2 : List Int
def cN (r : RN) : List CellD := ([.b r.n1] ++ [cM r.x1]) ++ ([.b r.n2] ++ [cM r.x2])
structure RN.Wf (r : RN) : Prop where
  u1 : U32s r.x1
  u2 : U32s r.x2
def vQ (x y : Int) : Bool := decide (0 < y) && (((Int.gcd x y : Nat) : Int) == 1)
def RN.vv (r : RN) : Bool := vI r.n1 r.x1 && vI r.n2 r.x2
def RN.a (r : RN) : Int := sg r.n1 (val r.x1)
def RN.b (r : RN) : Int := sg r.n2 (val r.x2)
def RN.v (r : RN) : Bool := r.vv && vQ r.a r.b
def RN.s (r : RN) (k : Int) : Bool := decide ((r.x1.length : Int) ≤ k) && decide ((r.x2.length : Int) ≤ k) && r.v
theorem vv_data {r : RN} (h : r.Wf) (hv : r.vv = true) : cN r = cQ r.a r.b ∧ (lim r.a.natAbs).length = r.x1.length ∧ (lim r.b.natAbs).length = r.x2.length := by
  unfold RN.vv at hv
  rw [Bool.and_eq_true] at hv
  obtain ⟨h1, h2⟩ := vI_data h.u1 hv.1
  obtain ⟨h3, h4⟩ := vI_data h.u2 hv.2
  refine ⟨?_, h2.symm, h4.symm⟩
  unfold cN cQ
  rw [h1, h3]; rfl
theorem vI_I {x : Int} : vI (decide (x < 0)) (lim x.natAbs) = true := by
  unfold vI
  rw [all_of_lim (lim_lim _), show trm (lim x.natAbs) = lim x.natAbs from nrm_lim _]
  by_cases h : x < 0
  · have : lim x.natAbs ≠ [] := fun e => by have := lim_eq_nil.1 e; omega
    have := List.length_pos_iff.2 this
    simp [h, this]
  · simp [h]
theorem u32_lim (v : Nat) : U32s (lim v) := fun x hx => by have := lim_lim v x hx; omega
theorem nValid_I {x : Int} (hx : Sz 1000 x) : Ok Tryz.prog 183 [dI x] [.c (.b true)] := by
  have := nValid_ok (neg := decide (x < 0)) (xs := lim x.natAbs) (u32_lim _) (lim_len hx)
  rw [vI_I] at this; exact this
theorem sg_lim (x : Int) : sg (decide (x < 0)) (val (lim x.natAbs)) = x := by
  rw [val_lim]
  by_cases h : x < 0
  · rw [show decide (x < 0) = true from by simpa using h, sg_true]; omega
  · rw [show decide (x < 0) = false from by simpa using h, sg_false]; omega
theorem vv_f1 {r : RN} (h : r.vv = false) (h1 : (!vI r.n1 r.x1) = false) : (!vI r.n2 r.x2) = true := by
  unfold RN.vv at h
  simp at h1
  rw [h1, Bool.true_and] at h
  rw [h]; rfl
theorem sz_of_len {x : Int} {k : Nat} (h : (lim x.natAbs).length ≤ k) : Sz k x := by
  have h1 := val_lt (lim_lim x.natAbs)
  rw [val_lim] at h1
  have h2 := pw_le h
  exact ⟨by omega, by omega⟩
/-- a fraction in reduced form is a number -/
theorem vQ_R {x y : Int} (h : vQ x y = true) : cQ x y = cR (Rat.divInt x y) := by
  unfold vQ at h
  simp only [Bool.and_eq_true, decide_eq_true_eq, beq_iff_eq] at h
  have := dR_red1 (n := x) h.1 h.2
  unfold dR dQ at this
  injection this with this
  exact this.symm
theorem vQ_of (x : Rat) : vQ x.num (x.den : Int) = true := by
  unfold vQ
  simp only [Bool.and_eq_true, decide_eq_true_eq, beq_iff_eq]
  refine ⟨den_pos x, ?_⟩
  have : Int.gcd x.num (x.den : Int) = 1 := x.reduced
  rw [this]; rfl
theorem vQ_parts {x y : Int} (h : vQ x y = true) : (Rat.divInt x y).num = x ∧ ((Rat.divInt x y).den : Int) = y := by
  unfold vQ at h
  simp only [Bool.and_eq_true, decide_eq_true_eq, beq_iff_eq] at h
  obtain ⟨h1, h2⟩ := h
  have h3 : Int.gcd x y = 1 := by omega
  rw [Rat.num_divInt, Rat.den_divInt, if_neg (by omega), Int.sign_eq_one_of_pos h1, Int.one_mul, Int.gcd_comm y x, h3]
  simp; omega
/-- what is small is a number of few limbs -/
theorem s_data {r : RN} {k : Nat} (h : r.Wf) (hs : r.s (k : Int) = true) : ∃ x : Rat, Rz k x ∧ cN r = cR x := by
  unfold RN.s RN.v at hs
  simp only [Bool.and_eq_true, decide_eq_true_eq] at hs
  obtain ⟨⟨h1, h2⟩, h3, h4⟩ := hs
  obtain ⟨e1, e2, e3⟩ := vv_data h h3
  obtain ⟨p1, p2⟩ := vQ_parts h4
  refine ⟨Rat.divInt r.a r.b, ⟨?_, ?_⟩, by rw [e1, vQ_R h4]⟩
  · rw [p1]; exact sz_of_len (by omega)
  · rw [p2]; exact sz_of_len (by omega)
theorem vQ_le {x y : Int} (h : decide (cmpI y 0 ≤ 0) = true) : vQ x y = false := by
  unfold vQ
  have := t_le h
  rw [show decide (0 < y) = false from by simpa using this]; rfl
theorem vQ_gt {x y : Int} (h : decide (cmpI y 0 ≤ 0) = false) : vQ x y = (cmpI ((Int.gcd x y : Nat) : Int) 1 == 0) := by
  unfold vQ
  have := f_le h
  rw [show decide (0 < y) = true from by simpa using this, Bool.true_and, Bool.eq_iff_iff, beq_iff_eq, beq_iff_eq, cmpI_eq0]
theorem vQ_n1 {x y : Int} (h : (cmpI y 0 != 1) = true) : vQ x y = false := by
  unfold vQ
  have h1 : ¬ 0 < y := fun e => by rw [cmp_gt e] at h; cases h
  rw [show decide (0 < y) = false from by simpa using h1]; rfl
theorem n1_ne {y : Int} (h : (cmpI y 0 != 1) = false) : y ≠ 0 := fun e => by rw [cmp_eq e] at h; cases h
theorem vQ_e1 {x y : Int} (h : (cmpI y 0 != 1) = false) : vQ x y = (((Int.gcd x y : Nat) : Int) == 1) := by
  unfold vQ
  have h1 : 0 < y := by
    rcases Int.lt_trichotomy y 0 with e | e | e
    · rw [cmp_lt e] at h; cases h
    · rw [cmp_eq e] at h; cases h
    · exact e
  rw [show decide (0 < y) = true from by simpa using h1, Bool.true_and]
end Go.Proofs.YtedlgdliniokiaaGreat
/- Fractions in reduced form. -/
namespace Go.Proofs.YtedlgdliniokiaaGreat
open Go Go.RowKit
-- no function swarf/rational.Valid in this seat
-- no function swarf/rational.Valid in this seat
theorem sValidA {r : RN} (hr : r.Wf) (hv : r.vv = false) (h1 : r.x1.length ≤ 1000) (h2 : r.x2.length ≤ 1000) : Ok Tryz.prog 112 [.a (cN r)] [.c (.b false)] := by
  have u1 := hr.u1
  have u2 := hr.u2
  refine Ok.of (by kernel_rfl) Tryz.func112 rfl rfl ?_
  rw [show Tryz.f112.ntmps = 26 from rfl, show Tryz.f112.results.toList = [.tmp 2] from rfl]
  refine dw_seq ?_
  -- region 0
  refine dw_region (by kernel_rfl) ?_
  refine dl_new (sem_box_a rfl rfl) rfl ?_
  refine dl_r (sem_assign rfl rfl) ?_
  refine dl_end ?_
  refine dw_seq ?_
  refine dw_seq ?_
  -- region 1
  refine dw_region (by kernel_rfl) ?_
  refine dl_r (sem_field fd28_0 rfl rfl) ?_
  refine dl_r (sem_load (us := ([.b r.n1] ++ [cM r.x1])) ty26 rfl rfl rfl rfl rfl) ?_
  refine dl_r (sem_call rfl rfl (nValid_ok (by assumption) (by assumption)) rfl) ?_
  refine dl_r (sem_not rfl rfl) ?_
  refine dl_rb (sem_move rfl rfl) (fun c1 hb1 => ?_)
  cases c1
  · refine dl_r (sem_field fd28_1 rfl rfl) ?_
    refine dl_r (sem_load (us := ([.b r.n2] ++ [cM r.x2])) ty26 rfl rfl rfl rfl rfl) ?_
    refine dl_r (sem_call rfl rfl (nValid_ok (by assumption) (by assumption)) rfl) ?_
    refine dl_r (sem_not rfl rfl) ?_
    refine dl_r (sem_pick rfl rfl rfl rfl) ?_
    refine dl_rb (sem_move rfl rfl) (fun c2 hb2 => ?_)
    cases c2
    · exact absurd (vv_f1 hv hb1) (by rw [hb2]; decide)
    · refine dl_skip (sem_skip rfl) ?_
      refine dl_skip (sem_skip rfl) ?_
      refine dl_skip (sem_skip rfl) ?_
      refine dl_skip (sem_skip rfl) ?_
      refine dl_r (sem_pick rfl rfl rfl rfl) ?_
      refine dl_end ?_
      refine dw_true rfl ?_
      refine dw_seq ?_
      -- region 2
      refine dw_region (by kernel_rfl) ?_
      refine dl_r (sem_assign rfl rfl) ?_
      refine dl_end ?_
      refine dw_ret ?_
      -- path ft
      exact ⟨.inr rfl, (resL_tmp rfl resL_nil)⟩
  · refine dl_skip (sem_skip rfl) ?_
    refine dl_skip (sem_skip rfl) ?_
    refine dl_skip (sem_skip rfl) ?_
    refine dl_skip (sem_skip rfl) ?_
    refine dl_r (sem_pick rfl rfl rfl rfl) ?_
    refine dl_r (sem_move rfl rfl) ?_
    refine dl_skip (sem_skip rfl) ?_
    refine dl_skip (sem_skip rfl) ?_
    refine dl_skip (sem_skip rfl) ?_
    refine dl_skip (sem_skip rfl) ?_
    refine dl_r (sem_pick rfl rfl rfl rfl) ?_
    refine dl_end ?_
    refine dw_true rfl ?_
    refine dw_seq ?_
    -- region 2
    refine dw_region (by kernel_rfl) ?_
    refine dl_r (sem_assign rfl rfl) ?_
    refine dl_end ?_
    refine dw_ret ?_
    -- path t
    exact ⟨.inr rfl, (resL_tmp rfl resL_nil)⟩
theorem sValidB {x y : Int} (hx : Sz 999 x) (hy : Sz 999 y) : Ok Tryz.prog 112 [dQ x y] [.c (.b (vQ x y))] := by
  have hx1 : Sz 1000 x := hx.mono (by decide)
  have hy1 : Sz 1000 y := hy.mono (by decide)
  refine Ok.of (by kernel_rfl) Tryz.func112 rfl rfl ?_
  rw [show Tryz.f112.ntmps = 26 from rfl, show Tryz.f112.results.toList = [.tmp 2] from rfl]
  refine dw_seq ?_
  -- region 0
  refine dw_region (by kernel_rfl) ?_
  refine dl_new (sem_box_a rfl rfl) rfl ?_
  refine dl_r (sem_assign rfl rfl) ?_
  refine dl_end ?_
  refine dw_seq ?_
  refine dw_seq ?_
  -- region 1
  refine dw_region (by kernel_rfl) ?_
  refine dl_r (sem_field fd28_0 rfl rfl) ?_
  refine dl_r (sem_load (us := cI x) ty26 rfl rfl rfl rfl rfl) ?_
  refine dl_r (sem_call rfl rfl (nValid_I (by assumption)) rfl) ?_
  refine dl_r (sem_not rfl rfl) ?_
  refine dl_r (sem_move rfl rfl) ?_
  refine dl_r (sem_field fd28_1 rfl rfl) ?_
  refine dl_r (sem_load (us := cI y) ty26 rfl rfl rfl rfl rfl) ?_
  refine dl_r (sem_call rfl rfl (nValid_I (by assumption)) rfl) ?_
  refine dl_r (sem_not rfl rfl) ?_
  refine dl_r (sem_pick rfl rfl rfl rfl) ?_
  refine dl_r (sem_move rfl rfl) ?_
  refine dl_r (sem_field fd28_1 rfl rfl) ?_
  refine dl_r (sem_load (us := cI y) ty26 rfl rfl rfl rfl rfl) ?_
  refine dl_r (sem_call rfl rfl (nSign_ok) rfl) ?_
  refine dl_r (sem_cmp rfl rfl rfl rfl) ?_
  refine dl_r (sem_pick rfl rfl rfl rfl) ?_
  refine dl_end ?_
  refine dw_cond rfl (fun hc1 => ?_) (fun hc1 => ?_)
  · refine dw_seq ?_
    -- region 2
    refine dw_region (by kernel_rfl) ?_
    refine dl_r (sem_assign rfl rfl) ?_
    refine dl_end ?_
    refine dw_ret ?_
    -- path T
    rw [vQ_n1 hc1]
    exact ⟨.inr rfl, (resL_tmp rfl resL_nil)⟩
  · have hgc : Sz 1000000 ((Int.gcd x y : Nat) : Int) := (Sz.gcd (x := x) hy (n1_ne hc1)).mono (by decide)
    refine dw_skip ?_
    refine dw_seq ?_
    -- region 3
    refine dw_region (by kernel_rfl) ?_
    refine dl_r (sem_field fd28_0 rfl rfl) ?_
    refine dl_r (sem_load (us := cI x) ty26 rfl rfl rfl rfl rfl) ?_
    refine dl_r (sem_field fd28_1 rfl rfl) ?_
    refine dl_r (sem_load (us := cI y) ty26 rfl rfl rfl rfl rfl) ?_
    refine dl_r (sem_call rfl rfl (nGCD_ok (by first | assumption | exact Sz.mono hx (by decide)) (by first | assumption | exact Sz.mono hy (by decide))) rfl) ?_
    refine dl_r (sem_call rfl rfl (sUnit_ok) rfl) ?_
    refine dl_r (sem_call rfl rfl (nSame_ok (by first | assumption | exact Sz.mono (by assumption) (by decide)) (by first | assumption | exact Sz.mono (Sz.small (k := 3) (by decide) (by decide) (by decide)) (by decide))) rfl) ?_
    refine dl_r (sem_assign rfl rfl) ?_
    refine dl_end ?_
    refine dw_ret ?_
    -- path F
    rw [vQ_e1 hc1]
    exact ⟨.inr rfl, (resL_tmp rfl resL_nil)⟩
theorem sValid_ok {r : RN} (hr : r.Wf) (h1 : r.x1.length ≤ 999) (h2 : r.x2.length ≤ 999) : Ok Tryz.prog 112 [.a (cN r)] [.c (.b r.v)] := by
  cases hv : r.vv with
  | false =>
    have := sValidA hr hv (by omega) (by omega)
    rw [show r.v = false from by unfold RN.v; rw [hv]; rfl]
    exact this
  | true =>
    obtain ⟨e1, e2, e3⟩ := vv_data hr hv
    rw [e1, show r.v = vQ r.a r.b from by unfold RN.v; rw [hv]; rfl]
    exact sValidB (sz_of_len (by omega)) (sz_of_len (by omega))
theorem sValid_R {x : Rat} (hx : Rz 999 x) : Ok Tryz.prog 112 [dR x] [.c (.b true)] := by
  have := sValidB hx.n hx.d
  rw [vQ_of] at this; exact this
-- no function swarf/swarfref02.Small in this seat
end Go.Proofs.YtedlgdliniokiaaGreat
/- swarf/swarflaw32.awake at numbers: a run on known values. -/
namespace Go.Proofs.YtedlgdliniokiaaGreat
open Go Go.RowKit
noncomputable def awake32_ok_p : List (Nat × Prm) := [(83, pAddX), (85, pSubX), (89, pMulX), (45, pDivX), (31, pNegX), (30, pCmpX), (27, pSignX), (29, pFromX), (229, pFloorX), (219, pMakeX), (225, pSqrtX), (47, pAddX), (48, pSubX), (51, pMulX), (87, pNegX), (35, pCmpX), (33, pSignX), (20, pFromX), (10, pSameX), (113, pSqrtX), (112, pValidX), (74, nCmpX), (72, nFromX), (76, nNegX), (75, nMulX), (129, nAddX), (199, nDivModX), (265, nSqrtX), (228, nInt64X)]
def awake32_ok_r : List (Nat × Bool × Nat) := [(6, true, 4951760157141521099596495872), (7, true, 3848286501888), (12, true, 8455716352), (15, true, 270574550784), (21, false, 77370652935905381929910280), (22, true, 1048376), (23, true, 18014364149739512), (24, true, 480), (25, true, 2040), (26, true, 1004), (28, true, 30064770048), (38, true, 65520), (39, true, 65009420), (40, true, 8144), (41, true, 17592051822704), (44, true, 224), (46, true, 224), (50, true, 224), (54, false, 290535622710222932552), (55, true, 263874192342784), (56, true, 492), (57, true, 240), (58, true, 4722366482869644681216), (59, true, 492), (60, true, 457804), (61, false, 16364), (62, true, 992), (63, true, 520128), (64, true, 2305838606872215528), (65, true, 4194296), (66, true, 268435448), (67, true, 130976), (68, true, 520128), (69, true, 2), (92, false, 8379264), (93, false, 67108736), (94, true, 8160), (95, false, 140733191411976), (96, false, 143973926601472000), (97, true, 549722250112), (98, true, 1016), (99, true, 18446462598728383488), (100, true, 549688700800), (101, true, 120), (102, true, 457804), (103, true, 38373713921438564727213981696), (104, true, 224), (105, true, 224), (106, true, 224), (107, true, 1099478007296), (108, false, 356811880641193946689691826088336933575984096), (109, true, 250), (110, true, 9007164626501504), (111, true, 1016), (114, true, 992), (115, true, 480), (116, true, 480), (117, true, 1016), (118, true, 1016), (136, true, 16777184), (137, true, 524256), (138, true, 34359737088), (139, false, 73786971896790252544), (140, true, 134217664), (141, true, 4092), (142, true, 130976), (143, true, 2199023254272), (144, true, 492), (145, true, 240), (146, false, 4072), (147, true, 480), (148, false, 4397509111564), (149, true, 240), (150, true, 4194272), (151, true, 262136), (152, false, 508), (153, true, 17045634816), (154, true, 480), (155, true, 18889465913882099754112), (156, true, 4088), (157, true, 32128), (158, true, 32760), (159, true, 524256), (160, true, 1073212416), (161, true, 61432), (162, true, 2), (163, true, 1095216644096), (164, true, 272730422784), (165, true, 72048789883946240), (166, true, 524224), (167, true, 1016), (168, true, 1048288), (169, false, 9007182074854640), (170, false, 1152921496014807280), (171, false, 147573917370944446704), (172, true, 7890306461253730544), (173, false, 17179835632), (174, true, 2787571881499075797774052896007796375347440), (175, true, 1237938821800130672580355040), (176, true, 383123885193474569774374055887950278561850630313329632), (177, true, 524010), (178, true, 33537770), (179, true, 541030611968), (180, true, 1099478007296), (181, true, 170141183460469231731651204550052804608), (182, true, 16777184), (185, true, 233701344), (186, true, 65504), (187, true, 2199023255424), (188, true, 162259276829213363039734289268480), (189, true, 2097120), (190, true, 64896), (200, true, 480), (201, true, 131064), (202, true, 224), (203, true, 224), (204, true, 224), (205, true, 2251799813684224), (206, true, 2040), (207, true, 274877861888), (208, true, 8796093013888), (209, true, 232), (210, true, 2145384448), (211, true, 457804), (212, false, 234), (213, false, 508), (214, true, 960), (215, true, 274876858112), (216, false, 73786413310256577292), (217, false, 9205357602911804472), (218, true, 8386496), (220, true, 590295528883728907520), (221, true, 2147221184), (222, true, 2016), (223, true, 2), (224, true, 480), (226, true, 32128), (227, true, 4685400655653207277056), (230, true, 63436), (231, true, 72048728684359692), (232, false, 4835702990227041035219936), (233, true, 122), (234, true, 8589934586), (235, true, 261872), (236, true, 2199023251392), (237, true, 82412135736188904041465274988559857664), (238, true, 224), (239, true, 56), (241, true, 8184), (242, true, 16352), (243, true, 8388480), (244, true, 224), (245, true, 224), (246, true, 224), (247, true, 1073212416), (248, true, 4397710966272), (249, true, 120), (255, true, 562949953421184), (256, true, 16320), (257, true, 299794640011520261908062208), (258, true, 225024), (259, true, 58), (260, true, 4026268672), (261, false, 9205357602911804472), (262, false, 1671831826720280358868393332158590220324288833552426328065262486496), (263, true, 2287828592379265024), (264, true, 1208556884733154979333440), (266, true, 535820256), (267, true, 131064), (268, true, 65504), (270, true, 17112759072), (271, true, 2251799813668876), (272, true, 1002), (273, true, 4290769888), (274, true, 262056), (275, true, 56), (276, true, 4194272), (277, true, 1016), (278, true, 536837888), (279, true, 4080), (280, true, 2080640), (281, true, 2), (282, true, 114560), (283, true, 133168160), (284, true, 16777152), (285, false, 9007182074854640), (286, false, 1671831826720280358868393332158590220324288833552426328065262486496), (287, false, 288230376142271456), (288, true, 1968), (289, true, 536835968), (290, true, 536837888), (291, true, 140737488223232), (292, true, 1073741634), (293, true, 67108288), (294, true, 140737488223232), (295, false, 288230376142271456), (296, false, 274877897696), (297, true, 880), (298, true, 67108288), (299, false, 274877897696)]
theorem awake32_ok_ok : PrAll Tryz.prog awake32_ok_p := ⟨pr_add pAdd_ok, pr_sub pSub_ok, pr_mul pMul_ok, pr_div pDiv_ok, pr_neg pNeg_ok, pr_cmp pCmp_ok, pr_sign pSign_ok, pr_from pFrom_ok, pr_floor pFloor_ok, pr_make pMake_ok, pr_sqrt pSqrt_ok, pr_add sAdd_ok, pr_sub sSub_ok, pr_mul sMul_ok, pr_neg sNeg_ok, pr_cmp sCmp_ok, pr_sign sSign_ok, pr_from sFrom_ok, pr_same sSame_ok, pr_sqrt sSqrt_ok, pr_valid (fun h => sValid_R (h.mono (by decide))), pr_ncmp (fun _ _ => iCmp_ok), pr_nfrom iFrom_ok, pr_nneg (fun h => iNeg_ok (h.mono (by decide))), pr_nmul (fun h g => iMul_ok (h.mono (by decide)) (g.mono (by decide))), pr_nadd (fun h g => iAdd_ok (h.mono (by decide)) (g.mono (by decide))), pr_ndivmod (fun h g => iDivMod_ok (h.mono (by decide)) (g.mono (by decide))), pr_nsqrt (fun h => iSqrt_ok (h.mono (by decide))), pr_int64 iInt64_ok, trivial⟩
theorem awake32_ok_env : EnvOk Tryz.prog (envOf Tryz.prog awake32_ok_p awake32_ok_r) := envOf_ok awake32_ok_ok (by kernel_rfl)
set_option maxRecDepth 100000 in
theorem awake32_ok : Ok Tryz.prog 6 [] [.c (.b true)] := run_bool (by kernel_rfl) awake32_ok_env (fuel := 10000) (depth := 60) (by kernel_rfl)
end Go.Proofs.YtedlgdliniokiaaGreat
/- Arguments opened: ways, grid positions, what a contract gives a row. No condition. -/
namespace Go.Proofs.YtedlgdliniokiaaGreat
open Go.ChangeShapes Go.WideShapes Go.ChangeAt Go.RowKit Go.Deep
theorem own : ownKnob Tryz.prog.godebug = none := by kernel_rfl
theorem laidOut : laidOutB Tryz.prog = true := by kernel_rfl
def NoB : Nat → Prop := fun _ => False
section
variable {H : Type} {enc : TypeId × Value → H} {w : World} {base : Nat} {spare : Nat → Bool} {held : Bool}
theorem olist_of {α : Type} {p : Nat → α → Prop} : ∀ (n : Nat), (∀ i, i < n → ∃ a, p i a) → ∃ l : List α, l.length = n ∧ ∀ i a, l[i]? = some a → p i a
  | 0, _ => ⟨[], rfl, fun i a h => by simp at h⟩
  | n + 1, h => by
    obtain ⟨l, hl, hp⟩ := olist_of n (fun i hi => h i (by omega))
    obtain ⟨a, ha⟩ := h n (by omega)
    refine ⟨l ++ [a], by simp [hl], fun i b hb => ?_⟩
    rcases Nat.lt_or_ge i n with h1 | h1
    · rw [List.getElem?_append_left (by omega)] at hb; exact hp i b hb
    · rw [List.getElem?_append_right (by omega)] at hb
      have : i = n := by
        rcases Nat.lt_or_ge (i - l.length) 1 with h2 | h2
        · omega
        · rw [List.getElem?_eq_none (by simpa using h2)] at hb; cases hb
      subst this
      rw [hl] at hb; simp at hb; subst hb; exact ha
theorem oadd_at (a : Addr) (k : Nat) (v : Value) (h : w.cell? (a.add k) = some v) : w.cell? ⟨a.block, a.off + k, none⟩ = some v := by
  obtain ⟨b, off, spot⟩ := a
  by_cases hk : k = 0
  · subst hk
    have hs : spot = none := by simpa [Addr.add] using World.cell?_spot h
    subst hs
    simpa [Addr.add] using h
  · simpa [Addr.add, hk] using h
theorem ospot_of (a : Addr) (v : Value) (h : w.cell? (a.add 0) = some v) : a = ⟨a.block, a.off, none⟩ := by
  obtain ⟨b, off, spot⟩ := a
  have hs : spot = none := by simpa [Addr.add] using World.cell?_spot h
  subst hs; rfl
theorem olt_of (b off : Nat) (v : Value) (h : w.cell? ⟨b, off, none⟩ = some v) : b < w.heap.size := World.block_lt_of_cell? w _ h
/-- What a contract gives a row. -/
theorem law_of {f : FuncId} {ds : List D0} {vs : Array Value} {W : World} (h : Ok Tryz.prog f ds [.c (.b true)]) (hr : RdL NoB W vs.toList ds) : Calls Tryz.prog f vs W fun e W' => e = .returned (.bool true) ∧ Below W.heap.size W W' :=
  (h.run NoB vs W (fun _ h => h.elim) hr).mono fun e w' ⟨v, e1, h1, h2⟩ => by
    have := RdC.bool_eq h1
    subst this
    exact ⟨e1, h2⟩
end
end Go.Proofs.YtedlgdliniokiaaGreat
