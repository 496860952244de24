/- A run on known values: slices of slices, functions with what they captured, parts of structs. -/
import Derived.Test.YthhhlpdbainlaaaGreatTaP
namespace Go.Proofs.YthhhlpdbainlaaaGreat
open Go Go.RowKit
section
variable {P : Program} {ops : Array Oper} {o : Oper} {TT : TX} {m N : Nat} {L : LX} {T : Tr XV} {H : Tr Bx} {x : XV}
variable {N' : Nat} {H' : Tr Bx} {g : Lg} {call : CallX}
variable {dst : Option Nat} {ty : TypeId} {pos : String} {af : Array Edge} {gd : Option (Nat × Bool)}
theorem slB_run {U : TypeId} {sz : Nat} (hU : slB P U = some sz) : ∃ el, P.underlying U = some (.slice el) ∧ ∀ w, (sizeOf el).run P w = .ok sz w := by
  unfold slB at hU
  split at hU
  case h_2 => cases hU
  rename_i el hul
  cases hinf : P.info? el with
  | none => rw [hinf] at hU; cases hU
  | some inf =>
    rw [hinf] at hU
    simp at hU
    exact ⟨el, hul, fun w => by unfold sizeOf typeInfo; simp [program, Sem.run, hinf, hU]⟩
theorem oo_eval {A Z : Nat → Prop} {w : World} {β : Nat → Pl} {a : Act} {d l : Nat} {y : Option Operand} {yo : Option XO} (hc : cOo m y = some yo) (hg : getOo L T d yo = some l) (hy : ∀ z, y = some z → z ∈ o.op.operands)
    (ht : TmpX A Z w β (Looks ops o) (TS m L T) a) : (y = none ∧ l = d) ∨ ∃ z k, y = some z ∧ a.eval z = .int k (l : Int) := by
  cases y with
  | none =>
    injection hc with hc
    subst hc
    injection hg with hg
    exact .inl ⟨rfl, hg.symm⟩
  | some z =>
    cases h1 : cO m z with
    | none => simp [cOo, h1] at hc
    | some zo =>
      simp [cOo, h1] at hc
      subst hc
      obtain ⟨v, hv, hg2⟩ := oO_some (show oO (zo.get L T) (fun v => xN v some) = some l from hg)
      obtain ⟨k, j, q, hg3⟩ := xN_some hg2
      injection hg3 with hg4
      subst q hg4
      exact .inr ⟨z, k, rfl, RdA.i_eq (cO_reads (hy z rfl) h1 hv ht)⟩
theorem run_slice {U : TypeId} {sz : Nat} (hU : slB P U = some sz) {y : Operand} {lo hi : Option Operand} {a : Act} {w : World} {b : Option Addr} {n c l h : Nat} (e : a.eval y = .slice b n c)
    (hlo : (lo = none ∧ l = 0) ∨ ∃ z k, lo = some z ∧ a.eval z = .int k (l : Int)) (hhi : (hi = none ∧ h = n) ∨ ∃ z k, hi = some z ∧ a.eval z = .int k (h : Int)) (h1 : l ≤ h) (h2 : h ≤ c) :
    (execOp a.eval ⟨dst, .slice U y lo hi none, ty, pos, af, gd⟩).run P w = .ok (.value (.slice (if c = l then b else b.map (·.add (l * sz))) (h - l) (c - l))) w := by
  obtain ⟨el, hul, hso⟩ := slB_run hU
  have i1 : (0 : Int) ≤ (l : Int) := by omega
  have i2 : (l : Int) ≤ (h : Int) := by omega
  have i3 : (0 : Int) ≤ (h : Int) := by omega
  have i4 : (h : Int) ≤ (c : Int) := by omega
  rcases hlo with ⟨rfl, rfl⟩ | ⟨z, k, rfl, e1⟩ <;> rcases hhi with ⟨rfl, rfl⟩ | ⟨z2, k2, rfl, e2⟩
  · simp [execOp, Instr.sliceAt, Instr.slice, run_underlying hul, e, Instr.sliceBounds, hso]
  · simp [execOp, Instr.sliceAt, Instr.slice, run_underlying hul, e, e2, Instr.sliceBounds, Instr.sliceBound, asIntOf, h2, hso]
  · simp [execOp, Instr.sliceAt, Instr.slice, run_underlying hul, e, e1, Instr.sliceBounds, Instr.sliceBound, asIntOf, h1, hso]
  · simp [execOp, Instr.sliceAt, Instr.slice, run_underlying hul, e, e1, e2, Instr.sliceBounds, Instr.sliceBound, asIntOf, h1, h2, hso]
theorem s_slc (_hT : TOk (TS m L T)) (hO : HOk H) (hL : HLt N H) {U : TypeId} {sz : Nat} {y : Operand} {xo : XO} {lo hi : Option Operand} {lo' hi' : Option XO} {x : XV} (hU : slB P U = some sz) (h1 : cO m y = some xo) (h2 : cOo m lo = some lo') (h3 : cOo m hi = some hi')
    (h : opSlc sz xo lo' hi' call L T N H = some (.mk x N' H' g)) : Good P ops ⟨dst, .slice U y lo hi none, ty, pos, af, gd⟩ (TS m L T) N H x N' H' g := by
  obtain ⟨v, hv, h⟩ := oO_some h
  obtain ⟨a, rfl, h⟩ := xC_some h
  have hml : ∀ z, lo = some z → z ∈ (Op.slice U y lo hi none).operands := fun z e => by subst e; simp [Op.operands]
  have hmh : ∀ z, hi = some z → z ∈ (Op.slice U y lo hi none).operands := fun z e => by subst e; simp [Op.operands]
  have hmy : y ∈ (Op.slice U y lo hi none).operands := by simp [Op.operands]
  rcases aS_some h with ⟨k, off, n, lb, ex, m', rfl, h⟩ | ⟨rfl, h⟩ | ⟨rfl, h⟩
  · obtain ⟨l, hl, h⟩ := oO_some h
    obtain ⟨hh, hhg, h⟩ := oO_some h
    obtain ⟨hm, h⟩ := bT_some h
    obtain ⟨r, hr, h⟩ := oO_some h
    obtain ⟨rfl, rfl, rfl, rfl⟩ := pR_some h
    have hm := Nat.eq_of_beq_eq_true hm
    subst hm
    obtain ⟨g1, hr⟩ := bT_some hr
    obtain ⟨g2, hr⟩ := bT_some hr
    rw [ble_iff] at g1 g2
    refine good_pure hO hL trivial fun A Z w β ac ht => ?_
    obtain ⟨c, e1, hk, c1, c2, c3, c4, c5⟩ := RdA.s_eq (cO_reads (o := ⟨dst, .slice U y lo hi none, ty, pos, af, gd⟩) hmy h1 hv ht)
    have el := oo_eval (o := ⟨dst, .slice U y lo hi none, ty, pos, af, gd⟩) h2 hl hml ht
    have eh := oo_eval (o := ⟨dst, .slice U y lo hi none, ty, pos, af, gd⟩) h3 hhg hmh ht
    refine ⟨_, run_slice (dst := dst) (ty := ty) (pos := pos) (af := af) (gd := gd) hU e1 el eh g1 (Nat.le_trans g2 c2), ?_⟩
    rw [bI_eq, bI_eq] at hr
    split at hr
    · rename_i hlt
      rw [blt_iff] at hlt
      injection hr with hr
      subst hr
      rw [if_neg (by omega)]
      show RdA A Z w β (.slice (some ((⟨(β k).b, off, none⟩ : Addr).add (l * sz))) (hh - l) (c - l)) _
      rw [addr_add]
      refine .s k (off + l * sz) (hh - l) (lb - l) ex sz (c - l) hk (by omega) (by omega) (by omega) (fun e => by rw [c4 e]) ?_
      have : l * sz + (c - l) * sz = c * sz := by rw [← Nat.add_mul]; congr 1; omega
      omega
    · rename_i hlt
      rw [blt_iff] at hlt
      have hll : l = lb := by omega
      split at hr
      · rename_i hex
        injection hr with hr
        subst hr
        have hc := c4 hex
        rw [if_pos (by omega), show hh - l = 0 by omega, show c - l = 0 by omega]
        exact .s k off 0 0 true sz 0 hk (Nat.le_refl _) (Nat.le_refl _) (by decide) (fun _ => rfl) (by omega)
      · injection hr with hr
        subst hr
        rw [show hh - l = 0 by omega]
        refine .ev _ _ (by omega) (fun ad had => ?_)
        split at had
        · injection had with had; subst had; rfl
        · have had : some ((⟨(β k).b, off, none⟩ : Addr).add (l * sz)) = some ad := had
          rw [addr_add] at had
          injection had with had; subst had; rfl
  · obtain ⟨l, hl, h⟩ := oO_some h
    obtain ⟨hh, hhg, h⟩ := oO_some h
    obtain ⟨q1, h⟩ := bT_some h
    obtain ⟨q2, h⟩ := bT_some h
    obtain ⟨rfl, rfl, rfl, rfl⟩ := pR_some h
    have q1 := Nat.eq_of_beq_eq_true q1
    have q2 := Nat.eq_of_beq_eq_true q2
    subst q1 q2
    refine good_pure hO hL trivial fun A Z w β ac ht => ?_
    have e1 := RdA.z_eq (cO_reads (o := ⟨dst, .slice U y lo hi none, ty, pos, af, gd⟩) hmy h1 hv ht)
    have el := oo_eval (o := ⟨dst, .slice U y lo hi none, ty, pos, af, gd⟩) h2 hl hml ht
    have eh := oo_eval (o := ⟨dst, .slice U y lo hi none, ty, pos, af, gd⟩) h3 hhg hmh ht
    refine ⟨_, run_slice (dst := dst) (ty := ty) (pos := pos) (af := af) (gd := gd) hU e1 el eh (Nat.le_refl _) (Nat.le_refl _), ?_⟩
    exact .z
  · cases h
theorem run_slice3 {U : TypeId} {sz : Nat} (hU : slB P U = some sz) {y zh zM : Operand} {lo : Option Operand} {a : Act} {w : World} {b : Option Addr} {n c l h M : Nat} {kh kM : IntKind} (e : a.eval y = .slice b n c)
    (hlo : (lo = none ∧ l = 0) ∨ ∃ z k, lo = some z ∧ a.eval z = .int k (l : Int)) (eh : a.eval zh = .int kh (h : Int)) (eM : a.eval zM = .int kM (M : Int)) (h1 : l ≤ h) (h2 : h ≤ M) (h3 : M ≤ c) :
    (execOp a.eval ⟨dst, .slice U y lo (some zh) (some zM), ty, pos, af, gd⟩).run P w = .ok (.value (.slice (if M = l then b else b.map (·.add (l * sz))) (h - l) (M - l))) w := by
  obtain ⟨el, hul, hso⟩ := slB_run hU
  have i1 : (0 : Int) ≤ (l : Int) := by omega
  have i2 : (l : Int) ≤ (h : Int) := by omega
  have i3 : (0 : Int) ≤ (h : Int) := by omega
  have i4 : (h : Int) ≤ (M : Int) := by omega
  have i5 : (0 : Int) ≤ (M : Int) := by omega
  have i6 : (M : Int) ≤ (c : Int) := by omega
  rcases hlo with ⟨rfl, rfl⟩ | ⟨z, k, rfl, e1⟩
  · simp [execOp, Instr.sliceAt, Instr.slice, run_underlying hul, e, eh, eM, Instr.sliceBounds, Instr.sliceBound, asIntOf, h2, h3, hso]
  · simp [execOp, Instr.sliceAt, Instr.slice, run_underlying hul, e, e1, eh, eM, Instr.sliceBounds, Instr.sliceBound, asIntOf, h1, h2, h3, hso]
theorem s_sl3 (_hT : TOk (TS m L T)) (hO : HOk H) (hL : HLt N H) {U : TypeId} {sz : Nat} {y zh zM : Operand} {xo ho Mo : XO} {lo : Option Operand} {lo' : Option XO} {x : XV} (hU : slB P U = some sz) (h1 : cO m y = some xo) (h2 : cOo m lo = some lo') (h3 : cO m zh = some ho) (h4 : cO m zM = some Mo)
    (h : opSl3 sz xo lo' ho Mo call L T N H = some (.mk x N' H' g)) : Good P ops ⟨dst, .slice U y lo (some zh) (some zM), ty, pos, af, gd⟩ (TS m L T) N H x N' H' g := by
  obtain ⟨v, hv, h⟩ := oO_some h
  obtain ⟨a, rfl, h⟩ := xC_some h
  have hml : ∀ z, lo = some z → z ∈ (Op.slice U y lo (some zh) (some zM)).operands := fun z e => by subst e; simp [Op.operands]
  have hmy : y ∈ (Op.slice U y lo (some zh) (some zM)).operands := by simp [Op.operands]
  have hmh : ∀ z, (some zh) = some z → z ∈ (Op.slice U y lo (some zh) (some zM)).operands := fun z e => by injection e with e; subst e; simp [Op.operands]
  have hmM : ∀ z, (some zM) = some z → z ∈ (Op.slice U y lo (some zh) (some zM)).operands := fun z e => by injection e with e; subst e; simp [Op.operands]
  rcases aS_some h with ⟨k, off, n, lb, ex, m', rfl, h⟩ | ⟨rfl, h⟩ | ⟨rfl, h⟩
  · obtain ⟨l, hl, h⟩ := oO_some h
    obtain ⟨hh, hhg, h⟩ := oO_some h
    obtain ⟨M, hM, h⟩ := oO_some h
    obtain ⟨hm, h⟩ := bT_some h
    obtain ⟨r, hr, h⟩ := oO_some h
    obtain ⟨rfl, rfl, rfl, rfl⟩ := pR_some h
    have hm := Nat.eq_of_beq_eq_true hm
    subst hm
    obtain ⟨g1, hr⟩ := bT_some hr
    obtain ⟨g2, hr⟩ := bT_some hr
    obtain ⟨g3, hr⟩ := bT_some hr
    rw [ble_iff] at g1 g2 g3
    refine good_pure hO hL trivial fun A Z w β ac ht => ?_
    obtain ⟨c, e1, hk, c1, c2, c3, c4, c5⟩ := RdA.s_eq (cO_reads (o := ⟨dst, .slice U y lo (some zh) (some zM), ty, pos, af, gd⟩) hmy h1 hv ht)
    have el := oo_eval (o := ⟨dst, .slice U y lo (some zh) (some zM), ty, pos, af, gd⟩) h2 hl hml ht
    have eh := oo_eval (o := ⟨dst, .slice U y lo (some zh) (some zM), ty, pos, af, gd⟩) (y := some zh) (yo := some ho) (by simp [cOo, h3]) hhg hmh ht
    have eM := oo_eval (o := ⟨dst, .slice U y lo (some zh) (some zM), ty, pos, af, gd⟩) (y := some zM) (yo := some Mo) (by simp [cOo, h4]) hM hmM ht
    obtain ⟨q, _⟩ | ⟨z, kh, q, eh⟩ := eh
    · cases q
    injection q with q
    subst q
    obtain ⟨q, _⟩ | ⟨z, kM, q, eM⟩ := eM
    · cases q
    injection q with q
    subst q
    refine ⟨_, run_slice3 (dst := dst) (ty := ty) (pos := pos) (af := af) (gd := gd) hU e1 el eh eM g1 g2 (Nat.le_trans g3 c2), ?_⟩
    have hcM : M * sz ≤ c * sz := Nat.mul_le_mul_right _ (Nat.le_trans g3 c2)
    rw [bI_eq] at hr
    split at hr
    · rename_i hlt
      rw [blt_iff] at hlt
      injection hr with hr
      subst hr
      rw [if_neg (by omega)]
      show RdA A Z w β (.slice (some ((⟨(β k).b, off, none⟩ : Addr).add (l * sz))) (hh - l) (M - l)) _
      rw [addr_add]
      refine .s k (off + l * sz) (hh - l) (M - l) true sz (M - l) hk (by omega) (by omega) (by omega) (fun _ => rfl) ?_
      have : l * sz + (M - l) * sz = M * sz := by rw [← Nat.add_mul]; congr 1; omega
      omega
    · rename_i hlt
      rw [blt_iff] at hlt
      injection hr with hr
      subst hr
      rw [if_pos (by omega), show hh - l = 0 by omega, show M - l = 0 by omega]
      exact .s k off 0 0 true sz 0 hk (Nat.le_refl _) (Nat.le_refl _) (by decide) (fun _ => rfl) (by omega)
  · cases h
  · cases h
theorem getL_some : ∀ {xs : List XO} {vs : List XV}, getL xs L T = some vs → vs.length = xs.length ∧ ∀ (j : Nat) (xo : XO) (v : XV), xs[j]? = some xo → vs[j]? = some v → xo.get L T = some v
  | [], vs, h => by
    have h : some [] = some vs := h
    injection h with h
    subst h
    exact ⟨rfl, fun j xo v hx => by simp at hx⟩
  | x :: xs, vs, h => by
    obtain ⟨v, hv, h⟩ := oO_some (show oO (x.get L T) (fun v => oO (getL xs L T) fun vs => some (v :: vs)) = some vs from h)
    obtain ⟨vs', hvs, h⟩ := oO_some h
    injection h with h
    subst h
    obtain ⟨h1, h2⟩ := getL_some hvs
    refine ⟨by simp [h1], fun j xo v3 hx hu => ?_⟩
    cases j with
    | zero => simp at hx hu; subst hx hu; exact hv
    | succ j => exact h2 j xo v3 (by simpa using hx) (by simpa using hu)
def RdXs (A Z : Nat → Prop) (w : World) (β : Nat → Pl) (vs : List Value) (xs : List XV) : Prop := vs.length = xs.length ∧ ∀ (j : Nat) (v : Value) (x : XV), vs[j]? = some v → xs[j]? = some x → RdX2 A Z w β v x
theorem args_reads {A Z : Nat → Prop} {w : World} {β : Nat → Pl} {a : Act} {ys : List Operand} {xs : List XO} {vs : List XV} (hy : ∀ y ∈ ys, y ∈ o.op.operands) (hc : allO (cO m) ys = some xs) (hg : getL xs L T = some vs)
    (ht : TmpX A Z w β (Looks ops o) (TS m L T) a) : RdXs A Z w β (ys.map a.eval) vs := by
  obtain ⟨h1, h2⟩ := getL_some hg
  have hl := allO_len _ _ hc
  refine ⟨by simp [hl, h1], fun j v x hv hx => ?_⟩
  have hj : j < ys.length := by
    have := (List.getElem?_eq_some_iff.1 hv).1
    simpa using this
  have hy' : ys[j]? = some ys[j] := List.getElem?_eq_getElem hj
  have hx' : xs[j]? = some (xs[j]'(by omega)) := List.getElem?_eq_getElem (by omega)
  have e : v = a.eval ys[j] := by
    rw [List.getElem?_map, hy'] at hv
    injection hv with hv
    exact hv.symm
  rw [e]
  exact cO_reads (hy _ (List.getElem_mem hj)) (allO_at _ _ hc j _ _ hy' hx') (h2 j _ _ hx' hx) ht
theorem args_ok {ys : List Operand} {xs : List XO} {vs : List XV} (hT : TOk (TS m L T)) (hc : allO (cO m) ys = some xs) (hg : getL xs L T = some vs) : ∀ v ∈ vs, xok v := by
  obtain ⟨h1, h2⟩ := getL_some hg
  have hl := allO_len _ _ hc
  intro v hv
  obtain ⟨j, hj⟩ := List.getElem?_of_mem hv
  have hjl := (List.getElem?_eq_some_iff.1 hj).1
  exact cO_ok hT (allO_at _ _ hc j _ _ (List.getElem?_eq_getElem (by omega)) (List.getElem?_eq_getElem (by omega))) (h2 j _ _ (List.getElem?_eq_getElem (by omega)) hj)
theorem capF_some : ∀ {vs : List XV} {y : AV} {f : FuncId}, capF f vs = some y → ∃ cs, y.fn = some (f, cs) ∧ vs = cs.map XV.c
  | [], y, f, h => by
    have h : some (AV.f0 f) = some y := h
    injection h with h
    subst h
    exact ⟨[], rfl, rfl⟩
  | v :: vs, y, f, h => by
    obtain ⟨a, rfl, h⟩ := xC_some (show xC v (fun a => oO (capF f vs) fun y => some (.fc a y)) = some y from h)
    obtain ⟨y', hy, h⟩ := oO_some h
    injection h with h
    subst h
    obtain ⟨cs, h1, h2⟩ := capF_some hy
    exact ⟨a :: cs, by simp [AV.fn, h1], by rw [h2]; rfl⟩
theorem s_mkf (_hT : TOk (TS m L T)) (hO : HOk H) (hL : HLt N H) {f : FuncId} {first cs : Array Operand} {xs : List XO} {x : XV} (hf : first.isEmpty = true) (hc : allO (cO m) cs.toList = some xs)
    (h : opMkf f xs call L T N H = some (.mk x N' H' g)) : Good P ops ⟨dst, .makeFunc (.func f) first cs, ty, pos, af, gd⟩ (TS m L T) N H x N' H' g := by
  obtain ⟨vs, hvs, h⟩ := oO_some h
  obtain ⟨y, hy, h⟩ := oO_some h
  obtain ⟨rfl, rfl, rfl, rfl⟩ := pR_some h
  have hf : first = #[] := Array.isEmpty_iff.1 hf
  subst hf
  obtain ⟨us, h1, h2⟩ := capF_some hy
  refine good_pure hO hL trivial fun A Z w β ac ht => ?_
  have hr := args_reads (o := ⟨dst, .makeFunc (.func f) #[] cs, ty, pos, af, gd⟩) (fun y hy => by simp [Op.operands]; simpa using hy) hc hvs ht
  refine ⟨.func (.func f) #[] (cs.map ac.eval), by simp [execOp, Instr.makeFunc], ?_⟩
  refine .f f (cs.map ac.eval) us y h1 ?_ (fun j v x hv hx => ?_)
  · have := hr.1; rw [h2] at this; simpa using this
  · refine hr.2 j v (.c x) ?_ ?_
    · rw [← Array.getElem?_toList] at hv; simpa using hv
    · rw [h2, List.getElem?_map, hx]; rfl
end
section
variable {P : Program} {ops : Array Oper} {o : Oper} {TT : TX} {m N : Nat} {L : LX} {T : Tr XV} {H : Tr Bx} {x : XV}
variable {N' : Nat} {H' : Tr Bx} {g : Lg} {call : CallX}
variable {dst : Option Nat} {ty : TypeId} {pos : String} {af : Array Edge} {gd : Option (Nat × Bool)}
theorem HS_set {b : Bx} {k j : Nat} {c} (h : HS (H.set b k) j = some c) : (j = k ∧ c = (b.U, b.r.flat)) ∨ (j ≠ k ∧ HS H j = some c) := by
  unfold HS at h ⊢
  cases h1 : (H.set b k).get j with
  | none => rw [h1] at h; cases h
  | some b' =>
    rw [h1] at h
    injection h with h
    rcases Tr.set_get H k j h1 with ⟨e1, e2⟩ | ⟨e1, e2⟩
    · subst e2; exact .inl ⟨e1, h.symm⟩
    · refine .inr ⟨e1, ?_⟩
      rw [e2, ← h]; rfl
theorem HOk_set {b : Bx} {k : Nat} (hO : HOk H) (h1 : b.r.ok) (h2 : b.n = b.r.flat.length) : HOk (H.set b k) := fun j b' hj => by
  rcases Tr.set_get H k j hj with ⟨_, e2⟩ | ⟨_, e2⟩
  · subst e2; exact ⟨h1, h2⟩
  · exact hO j b' e2
theorem HLt_set {b : Bx} {k : Nat} (hL : HLt N H) (h1 : N ≤ N') (h2 : k < N') : HLt N' (H.set b k) := fun j b' hj => by
  rcases Tr.set_get H k j hj with ⟨e1, _⟩ | ⟨_, e2⟩
  · omega
  · have := hL j b' e2; omega
theorem if_ne {γ : Type} {k l : Nat} {c : γ} (h : (if k = l then some c else none) ≠ none) : k = l := by
  apply Classical.byContradiction
  intro e
  rw [if_neg e] at h; exact h rfl
theorem HS_get {k : Nat} {b : Bx} (h : H.get k = some b) : HS H k = some (b.U, b.r.flat) := by unfold HS; rw [h]; rfl
theorem good_new (hO : HOk H) (hL : HLt N H) {U n : Nat} {r : Rp} {y : AV} (hr : r.ok) (hn : n = r.flat.length)
    (h : ∀ A Z w β a, TmpX A Z w β (Looks ops o) TT a → ∃ v, ∃ vs : Array Value, (execOp a.eval o).run P w = .ok (.value v) (w.alloc (.cells vs U)) ∧ RdAs A Z w β vs.toList r.flat ∧ ∀ A' Z' w' β', A' N → β' N = ⟨w.heap.size, vs.size⟩ → RdA A' Z' w' β' v y) :
    Good P ops o TT N H (.c y) (N + 1) (H.set ⟨U, n, r⟩ N) (.nw N) := by
  have hf : Foot N (N + 1) H (H.set ⟨U, n, r⟩ N) e0 (fun k => if k = N then some (U, r.flat) else none) (.nw N) := ⟨rfl, rfl, rfl, fun j hj => if_neg hj⟩
  refine ⟨Nat.le_succ _, trivial, HOk_set hO hr hn, HLt_set hL (Nat.le_succ _) (Nat.lt_succ_self _), e0, fun k => if k = N then some (U, r.flat) else none, ?_, fun k c h => (by cases h), ?_, hf⟩
  · intro V A β a w hA hm ht
    obtain ⟨v, vs, hrun, hrd, hv⟩ := h _ _ w β a ht
    unfold Gives
    rw [hrun]
    have hN : ∀ k, A k → k ≠ N := fun k hk e => hA k hk ⟨Nat.le_of_eq e.symm, by show k < N + 1; omega⟩
    have hlen : vs.size = r.flat.length := by rw [← hrd.1]; simp
    have hH : Hst N (N + 1) A e0 β w (fun k => if k = N then some (U, r.flat) else none) (fun k => if k = N then ⟨w.heap.size, vs.size⟩ else β k) (w.alloc (.cells vs U)) := by
      refine ⟨rfl, rfl, rfl, by simp, fun b hb _ => Below.heap_alloc _ _ _ hb, fun k hk => if_neg (hN k hk), fun k hk => ?_, fun k hk => ?_⟩
      · by_cases e : k = N
        · rw [if_pos e]; exact .inl (Nat.le_refl _)
        · exact absurd (if_ne hk) e
      · by_cases e : k = N
        · exact .inr ⟨Nat.le_of_eq e.symm, by omega⟩
        · exact absurd (if_ne hk) e
    have hkeep := hH.keep hm
    refine ⟨fun k => A k ∨ k = N, fun k => if k = N then ⟨w.heap.size, vs.size⟩ else β k, fun k hk => .inl hk, fun k hk => ?_, ?_, hH, hv _ _ _ _ (.inr rfl) (if_pos rfl)⟩
    · rcases hk with hk | hk
      · exact .inl hk
      · exact .inr ⟨Nat.le_of_eq hk.symm, by show k < N + 1; omega⟩
    · refine ⟨fun b hb => by rw [heap_alloc_size]; exact Nat.lt_succ_of_lt (hm.vlt b hb), fun k hk => ?_, fun k hk => ?_, fun k l hk hl _ => ?_, fun k hk hv2 => ?_, fun k U' cs hk => ?_⟩
      · by_cases e : k = N
        · exact .inr e
        · exact absurd (if_ne hk) e
      · rw [heap_alloc_size]
        rcases hk with hk | hk
        · rw [if_neg (hN k hk)]; exact Nat.lt_succ_of_lt (hm.lt k hk)
        · rw [if_pos hk]; exact Nat.lt_succ_self _
      · by_cases e : k = N
        · by_cases e2 : l = N
          · rw [e, e2]
          · exact absurd (if_ne hl) e2
        · exact absurd (if_ne hk) e
      · by_cases e : k = N
        · rw [if_pos e] at hv2
          have := hm.vlt _ hv2
          exact Nat.lt_irrefl _ this
        · exact absurd (if_ne hk) e
      · by_cases e : k = N
        · have hk' : (if k = N then some (U, r.flat) else none) = some (U', cs) := hk
          rw [if_pos e] at hk'
          injection hk' with hk'
          injection hk' with h1 h2
          subst h1 h2
          rw [if_pos e]
          refine ⟨vs, heap_alloc_new w _, rfl, by omega, ?_⟩
          rw [List.take_of_length_le (by simp; omega)]
          exact hrd.mono hkeep (fun _ h => .inl h) hH.same
        · have hk' : (if k = N then some (U, r.flat) else none) = some (U', cs) := hk
          rw [if_neg e] at hk'; cases hk'
  · intro k c hk
    rcases HS_set hk with ⟨e, hc⟩ | ⟨e, hc⟩
    · show put2 (HS H) e0 _ k = _
      unfold put2
      show (match (if k = N then some (U, r.flat) else none), (none : Option (TypeId × List AV)) with | some c, _ => some c | none, some _ => none | none, none => HS H k) = some c
      rw [if_pos e, hc]
    · show put2 (HS H) e0 _ k = _
      unfold put2
      show (match (if k = N then some (U, r.flat) else none), (none : Option (TypeId × List AV)) with | some c, _ => some c | none, some _ => none | none, none => HS H k) = some c
      rw [if_neg e]; exact hc
theorem nwB_some {y x : XV} {U n : Nat} {r : Rp} (h : nwB y U n r N H = some (.mk x N' H' g)) : x = y ∧ N' = N + 1 ∧ H' = H.set ⟨U, n, r⟩ N ∧ g = .nw N := by
  unfold nwB at h
  injection h with h
  injection h with h1 h2 h3 h4
  exact ⟨h1.symm, h2.symm, h3.symm, h4.symm⟩
theorem cstL_reads {A Z : Nat → Prop} {w : World} {β : Nat → Pl} {z : Value} {zs : List AV} (h : cstL z = some zs) : RdAs A Z w β z.cells.toList zs := by
  unfold cstL at h
  split at h
  · exact cellsA_reads h
  · rename_i hne
    cases h1 : cellA z with
    | none => rw [h1] at h; cases h
    | some u2 =>
      rw [h1] at h
      injection h with h
      subst h
      have hr : RdA A Z w β z u2 := cellA_reads h1
      rw [hr.one.1]
      exact RdAs.cons hr RdAs.nil
theorem zcA_reads {U : TypeId} {zs : List AV} (h : zcA P U = some zs) : ∃ it z, P.info? U = some it ∧ it.zero = some z ∧ ∀ A Z w β, RdAs A Z w β z.cells.toList zs := by
  unfold zcA at h
  cases hi : P.info? U with
  | none => rw [hi] at h; cases h
  | some it =>
    rw [hi] at h
    dsimp only at h
    cases hz : it.zero with
    | none => rw [hz] at h; cases h
    | some z =>
      rw [hz] at h
      exact ⟨it, z, rfl, hz, fun A Z w β => cstL_reads h⟩
theorem s_alloc (hO : HOk H) (hL : HLt N H) {U : TypeId} {zs : List AV} {x : XV} (hz : zcA P U = some zs)
    (h : opAlloc U zs.length (ofL zs) call L T N H = some (.mk x N' H' g)) : Good P ops ⟨dst, .alloc U, ty, pos, af, gd⟩ (TS m L T) N H x N' H' g := by
  obtain ⟨rfl, rfl, rfl, rfl⟩ := nwB_some h
  obtain ⟨h1, h2⟩ := ofL_spec zs
  refine good_new hO hL h1 (by rw [h2]) fun A Z w β a _ => ?_
  obtain ⟨it, z, hi, hz, hr⟩ := zcA_reads hz
  refine ⟨.pointer (some ⟨w.heap.size, 0, none⟩), z.cells, ?_, by rw [h2]; exact hr _ _ _ _, fun A' Z' w' β' hA hβ => ?_⟩
  · simp [execOp, Instr.alloc, zeroValue, typeInfo, program, Sem.run, hi, hz, newVar, newRow, newObj]
    try rfl
  · have := RdA.p (A := A') (Z := Z') (w := w') (β := β') N 0 hA
    rw [hβ] at this; exact this
theorem rp_reads {A Z : Nat → Prop} {w : World} {β : Nat → Pl} {v : Value} {y : XV} {n : Nat} {r : Rp} (h : RdX2 A Z w β v y) (hr : y.rp = some (n, r)) : RdAs A Z w β v.cells.toList r.flat := by
  cases y with
  | c a => injection hr with hr; injection hr with h1 h2; subst h1 h2; exact RdD.cells (d := .c a) h
  | a n' r' => injection hr with hr; injection hr with h1 h2; subst h1 h2; exact RdD.cells (d := .a n' r') h
  | t ds => cases hr
  | u => cases hr
theorem rp_ok {y : XV} {n : Nat} {r : Rp} (h : xok y) (hr : y.rp = some (n, r)) : r.ok ∧ n = r.flat.length := by
  cases y with
  | c a => injection hr with hr; injection hr with h1 h2; subst h1 h2; exact ⟨trivial, rfl⟩
  | a n' r' => injection hr with hr; injection hr with h1 h2; subst h1 h2; exact h
  | t ds => cases hr
  | u => cases hr
theorem s_box (hT : TOk (TS m L T)) (hO : HOk H) (hL : HLt N H) {U : TypeId} {y : Operand} {xo : XO} {x : XV} (hc : cO m y = some xo)
    (h : opBox U xo call L T N H = some (.mk x N' H' g)) : Good P ops ⟨dst, .box U y, ty, pos, af, gd⟩ (TS m L T) N H x N' H' g := by
  obtain ⟨v, hv, h⟩ := oO_some h
  obtain ⟨n, r, hrp, h⟩ := xD_some h
  obtain ⟨rfl, rfl, rfl, rfl⟩ := nwB_some h
  obtain ⟨h1, h2⟩ := rp_ok (cO_ok hT hc hv) hrp
  refine good_new hO hL h1 h2 fun A Z w β a ht => ?_
  refine ⟨.pointer (some ⟨w.heap.size, 0, none⟩), (a.eval y).cells, ?_, rp_reads (cO_reads (o := ⟨dst, .box U y, ty, pos, af, gd⟩) (by simp [Op.operands]) hc hv ht) hrp, fun A' Z' w' β' hA hβ => ?_⟩
  · simp [execOp, Instr.box, Sem.run, newVar, newRow, newObj]
    try rfl
  · have := RdA.p (A := A') (Z := Z') (w := w') (β := β') N 0 hA
    rw [hβ] at this; exact this
noncomputable def oneH (H : Tr Bx) (k : Nat) : HF := fun j => if j = k then HS H k else none
theorem oneH_sub {k j : Nat} {c} (h : oneH H k j = some c) : HS H j = some c := by
  unfold oneH at h
  split at h
  · rename_i e; rw [e]; exact h
  · cases h
theorem oneH_self {k : Nat} : oneH H k k = HS H k := if_pos rfl
theorem good_read (hO : HOk H) (hL : HLt N H) {k : Nat} {b : Bx} (hb : H.get k = some b) (hx : xok x)
    (h : ∀ V A β a w, Mem V A (oneH H k) β w → TmpX A (Zs V (oneH H k) β) w β (Looks ops o) TT a → ∃ v, (execOp a.eval o).run P w = .ok (.value v) w ∧ RdX2 A (Zs V (oneH H k) β) w β v x) :
    Good P ops o TT N H x N H (.r k) := by
  have hf : Foot N N H H (oneH H k) (oneH H k) (.r k) := ⟨fun j hj => if_neg hj, rfl, rfl, by rw [HS_get hb]; rfl⟩
  have hp : put2 (HS H) (oneH H k) (oneH H k) = HS H := by
    funext j
    unfold put2
    cases h : oneH H k j with
    | none => rfl
    | some c => exact (oneH_sub h).symm
  refine ⟨Nat.le_refl _, hx, hO, hL, oneH H k, oneH H k, ?_, fun j c h => oneH_sub h, fun j c h => (by rw [hp]; exact h), hf⟩
  intro V A β a w _ hm ht
  obtain ⟨v, hrun, hr⟩ := h V A β a w hm ht
  unfold Gives
  rw [hrun]
  exact ⟨A, β, fun _ h => h, fun _ h => .inl h, hm, Hst.refl, hr⟩
theorem s_lda (_hT : TOk (TS m L T)) (hO : HOk H) (hL : HLt N H) {U : TypeId} {n : Nat} {y : Operand} {xo : XO} {x : XV} (hU : tyB P U = some (true, n)) (hc : cO m y = some xo)
    (h : opLda n xo call L T N H = some (.mk x N' H' g)) : Good P ops ⟨dst, .load U y, ty, pos, af, gd⟩ (TS m L T) N H x N' H' g := by
  obtain ⟨v, hv, h⟩ := oO_some h
  obtain ⟨k, off, rfl, h⟩ := xP_some h
  obtain ⟨b, hb, h⟩ := oO_some h
  obtain ⟨hn, h⟩ := bT_some h
  rw [ble_iff] at hn
  injection h with h
  injection h with h1 h2 h3 h4
  subst h1 h2 h3 h4
  obtain ⟨hb1, hb2⟩ := hO k b hb
  obtain ⟨g1, g2⟩ := subR_spec b.r b.n off n hb1 hb2 hn
  have hn' : off + n ≤ b.r.flat.length := by rw [← hb2]; exact hn
  refine good_read hO hL hb ⟨g1, by rw [g2]; simp; omega⟩ fun V A β a w hm ht => ?_
  obtain ⟨e1, hk⟩ := RdA.p_eq (cO_reads (o := ⟨dst, .load U y, ty, pos, af, gd⟩) (by simp [Op.operands]) hc hv ht)
  obtain ⟨vs, ev, hz, hl, hr⟩ := hm.box k b.U b.r.flat (by rw [oneH_self]; exact HS_get hb)
  have hr2 := (hr.drop off).take n
  have hlen : ((vs.toList.take b.r.flat.length).drop off).take n = ((vs.toList.drop off).take n) := by
    rw [List.drop_take, List.take_take, Nat.min_eq_left (by omega)]
  rw [hlen] at hr2
  have hrun := run_loadVar_agg (P := P) (w := w) hU (b := (β k).b) (off := off) (vs := (vs.toList.drop off).take n) (by simp; omega) (fun j v hv => by
    rw [List.getElem?_take] at hv
    split at hv
    · rw [cells_of_box ev, ← hv]; simp
    · cases hv)
  refine ⟨.agg ((vs.toList.drop off).take n).toArray, ?_, ((vs.toList.drop off).take n).toArray, rfl, by rw [g2]; simpa using hr2⟩
  simp only [execOp, Instr.loadAt, e1, Instr.sureAddr, Sem.run_bind, Sem.run_pure, Result.andThen_ok, hrun]
theorem s_ld1 (_hT : TOk (TS m L T)) (hO : HOk H) (hL : HLt N H) {U : TypeId} {n : Nat} {y : Operand} {xo : XO} {x : XV} (hU : tyB P U = some (false, n)) (hc : cO m y = some xo)
    (h : opLd1 xo call L T N H = some (.mk x N' H' g)) : Good P ops ⟨dst, .load U y, ty, pos, af, gd⟩ (TS m L T) N H x N' H' g := by
  obtain ⟨v, hv, h⟩ := oO_some h
  obtain ⟨k, off, rfl, h⟩ := xP_some h
  obtain ⟨b, hb, h⟩ := oO_some h
  obtain ⟨c, hc2, h⟩ := oO_some h
  injection h with h
  injection h with h1 h2 h3 h4
  subst h1 h2 h3 h4
  obtain ⟨hb1, hb2⟩ := hO k b hb
  rw [idxR_spec b.r off hb1] at hc2
  have hlt := (List.getElem?_eq_some_iff.1 hc2).1
  refine good_read hO hL hb trivial fun V A β a w hm ht => ?_
  obtain ⟨e1, hk⟩ := RdA.p_eq (cO_reads (o := ⟨dst, .load U y, ty, pos, af, gd⟩) (by simp [Op.operands]) hc hv ht)
  obtain ⟨vs, ev, hz, hl, hr⟩ := hm.box k b.U b.r.flat (by rw [oneH_self]; exact HS_get hb)
  have hv2 : vs.toList[off]? = some (vs.toList[off]'(by simp; omega)) := List.getElem?_eq_getElem _
  have hrd := hr.2 off (vs.toList[off]'(by simp; omega)) c (by rw [List.getElem?_take, if_pos hlt]; exact hv2) hc2
  have hrun := run_loadVar_one (P := P) (w := w) hU (b := (β k).b) (off := off) (by rw [cells_of_box ev, ← Array.getElem?_toList, hv2])
  refine ⟨_, ?_, hrd⟩
  simp only [execOp, Instr.loadAt, e1, Instr.sureAddr, Sem.run_bind, Sem.run_pure, Result.andThen_ok, hrun]
theorem mem_store {V A : Nat → Prop} {β : Nat → Pl} {w w' : World} {Hv : HF} {k : Nat} {U : TypeId} {cs0 cs : List AV} (hm : Mem V A Hv β w) (hk : Hv k = some (U, cs0)) {vs : Array Value} (hz : vs.size = (β k).z)
    (hh : w'.heap = w.heap.setIfInBounds (β k).b (.cells vs U (0, 0))) (ho : w'.os = w.os) (ht : w'.tape = w.tape) (hu : w'.output = w.output) (hl : cs.length ≤ vs.size)
    (hr : RdAs A (Zs V Hv β) w β (vs.toList.take cs.length) cs) : Mem V A (fun j => if j = k then some (U, cs) else Hv j) β w' ∧ Hst N N A Hv β w (fun j => if j = k then some (U, cs) else Hv j) β w' := by
  have hne : ∀ j, (if j = k then some (U, cs) else Hv j) ≠ none ↔ Hv j ≠ none := by
    intro j
    by_cases e : j = k
    · subst e; rw [if_pos rfl, hk]; simp
    · rw [if_neg e]
  have hsz : w'.heap.size = w.heap.size := by rw [hh]; simp
  have hbk : (β k).b < w.heap.size := hm.lt k (hm.dom k (by rw [hk]; simp))
  have hoth : ∀ b, b ≠ (β k).b → w'.heap[b]? = w.heap[b]? := fun b hb => by rw [hh, Array.getElem?_setIfInBounds_ne (Ne.symm hb)]
  have hZ : Zs V (fun j => if j = k then some (U, cs) else Hv j) β = Zs V Hv β := by
    funext b
    unfold Zs
    simp only [hne]
  have hH : Hst N N A Hv β w (fun j => if j = k then some (U, cs) else Hv j) β w' :=
    ⟨ho, ht, hu, by omega, fun b _ hb => hoth b (fun e => hb k (by rw [hk]; simp) e.symm), fun _ _ => rfl, fun j hj => .inr ⟨j, (hne j).1 hj, rfl⟩, fun j hj => .inl ((hne j).1 hj)⟩
  have hkeep := hH.keep hm
  refine ⟨⟨fun b hb => by rw [hsz]; exact hm.vlt b hb, fun j hj => hm.dom j ((hne j).1 hj), fun j hj => by rw [hsz]; exact hm.lt j hj, fun j l hj hl => hm.inj j l ((hne j).1 hj) ((hne l).1 hl), fun j hj => hm.clr j ((hne j).1 hj), fun j U' cs' hj => ?_⟩, hH⟩
  have hj : (if j = k then some (U, cs) else Hv j) = some (U', cs') := hj
  by_cases e : j = k
  · subst e
    rw [if_pos rfl] at hj
    injection hj with hj
    injection hj with h1 h2
    subst h1 h2
    exact ⟨vs, by rw [hh]; simp [hbk], hz, hl, hr.mono hkeep (fun _ h => h) (fun _ _ => rfl)⟩
  · rw [if_neg e] at hj
    obtain ⟨vs', e1, e2, e3, e4⟩ := hm.box j U' cs' hj
    refine ⟨vs', (hoth _ (fun q => e (hm.inj j k (by rw [hj]; simp) (by rw [hk]; simp) q))).trans e1, e2, e3, e4.mono hkeep (fun _ h => h) (fun _ _ => rfl)⟩
theorem s_st (hT : TOk (TS m L T)) (hO : HOk H) (hL : HLt N H) {U : TypeId} {q : Bool} {n : Nat} {y z : Operand} {xo yo : XO} {x : XV} (hU : tyB P U = some (q, n)) (hc : cO m y = some xo) (hc2 : cO m z = some yo)
    (h : opSt n xo yo call L T N H = some (.mk x N' H' g)) : Good P ops ⟨dst, .store U y z, ty, pos, af, gd⟩ (TS m L T) N H x N' H' g := by
  obtain ⟨v, hv, h⟩ := oO_some h
  obtain ⟨v2, hv2, h⟩ := oO_some h
  obtain ⟨k, off, q1, h⟩ := xP_some h
  subst q1
  obtain ⟨b, hb, h⟩ := oO_some h
  obtain ⟨n', d, hrp, h⟩ := xD_some h
  obtain ⟨hn, h⟩ := bT_some h
  obtain ⟨hle, h⟩ := bT_some h
  have hn := Nat.eq_of_beq_eq_true hn
  subst hn
  rw [ble_iff] at hle
  injection h with h
  injection h with h1 h2 h3 h4
  subst h1 h2 h3 h4
  obtain ⟨hb1, hb2⟩ := hO k b hb
  obtain ⟨hd1, hd2⟩ := rp_ok (cO_ok hT hc2 hv2) hrp
  obtain ⟨g1, g2⟩ := updR_spec hd1 b.r b.n off n' hb1 hb2 hd2 hle
  have hle' : off + n' ≤ b.r.flat.length := by rw [← hb2]; exact hle
  have hlen : b.n = (updR d b.r b.n off n').flat.length := by rw [g2, hb2]; simp; omega
  have hf : Foot N N H (H.set ⟨b.U, b.n, updR d b.r b.n off n'⟩ k) (oneH H k) (fun j => if j = k then some (b.U, (updR d b.r b.n off n').flat) else oneH H k j) (.w k) := ⟨fun j hj => ⟨if_neg hj, (if_neg hj).trans (if_neg hj)⟩, rfl⟩
  have hkk := HS_get hb
  refine ⟨Nat.le_refl _, trivial, HOk_set hO g1 hlen, HLt_set hL (Nat.le_refl _) (hL k b hb), oneH H k, fun j => if j = k then some (b.U, (updR d b.r b.n off n').flat) else oneH H k j, ?_, fun j c h => oneH_sub h, fun j c hj => ?_, hf⟩
  · intro V A β a w _ hm ht
    obtain ⟨e1, hk⟩ := RdA.p_eq (cO_reads (o := ⟨dst, .store U y z, ty, pos, af, gd⟩) (by simp [Op.operands]) hc hv ht)
    have hcl := rp_reads (cO_reads (o := ⟨dst, .store U y z, ty, pos, af, gd⟩) (by simp [Op.operands]) hc2 hv2 ht) hrp
    obtain ⟨vs, ev, hz, hl, hr⟩ := hm.box k b.U b.r.flat (oneH_self.trans hkk)
    obtain ⟨_, hsz⟩ := run_isAgg hU w
    have hl2 : (a.eval z).cells.size = n' := by rw [hd2, ← hcl.1]; simp
    have hst := run_storeCells_at (P := P) (β k).b off b.U (a.eval z).cells.toList 0 vs w ev (by simp; omega) hcl.one
    have hrun : (execOp a.eval ⟨dst, .store U y z, ty, pos, af, gd⟩).run P w = .ok .skip (w.setRow (β k).b (vs.toList.take (off + 0) ++ (a.eval z).cells.toList ++ vs.toList.drop (off + 0 + (a.eval z).cells.toList.length)).toArray) := by
      simp only [execOp, Instr.storeAt, e1, Instr.sureAddr, storeVar, Sem.run_bind, Sem.run_pure, Result.andThen_ok, hsz]
      rw [if_neg (by simp [hl2])]
      rw [hst]
      rfl
    unfold Gives
    rw [hrun]
    have el : (a.eval z).cells.toList.length = n' := by simpa using hl2
    simp only [Nat.add_zero, el]
    obtain ⟨m1, m2⟩ := mem_store (N := N) (cs := (updR d b.r b.n off n').flat) hm (oneH_self.trans hkk) (vs := (vs.toList.take off ++ (a.eval z).cells.toList ++ vs.toList.drop (off + n')).toArray) (by simp; omega) (setRow_heap_set ev) rfl rfl rfl
      (by rw [← hlen, hb2]; simp; omega) (by
        rw [← hlen, g2]
        have hw := RdAs.append (RdAs.append (hr.take off) hcl) (hr.drop (off + n'))
        have e3 : (vs.toList.take b.r.flat.length).take off = vs.toList.take off := by rw [List.take_take, Nat.min_eq_left (by omega)]
        rw [e3] at hw
        have e4 : ((vs.toList.take off ++ (a.eval z).cells.toList ++ vs.toList.drop (off + n')).toArray).toList.take b.n = vs.toList.take off ++ (a.eval z).cells.toList ++ (vs.toList.take b.r.flat.length).drop (off + n') := by
          show (vs.toList.take off ++ (a.eval z).cells.toList ++ vs.toList.drop (off + n')).take b.n = _
          rw [List.take_append, List.take_of_length_le (l := vs.toList.take off ++ (a.eval z).cells.toList) (by simp; omega), List.drop_take]
          congr 2
          simp; omega
        rw [e4]; exact hw)
    exact ⟨A, β, fun _ h => h, fun _ h => .inl h, m1, m2, rfl⟩
  · show put2 (HS H) (oneH H k) (fun j => if j = k then some (b.U, (updR d b.r b.n off n').flat) else oneH H k j) j = some c
    unfold put2
    rcases HS_set hj with ⟨e, hc⟩ | ⟨e, hc⟩
    · show (match (if j = k then some (b.U, (updR d b.r b.n off n').flat) else oneH H k j), oneH H k j with | some c, _ => some c | none, some _ => none | none, none => HS H j) = some c
      rw [if_pos e, hc]
    · show (match (if j = k then some (b.U, (updR d b.r b.n off n').flat) else oneH H k j), oneH H k j with | some c, _ => some c | none, some _ => none | none, none => HS H j) = some c
      rw [if_neg e, show oneH H k j = none from if_neg e]; exact hc
end
structure CallP (P : Program) (f : FuncId) (vs : List XV) (x : XV) : Prop where
  cal : callable P f = true
  ok : xok x
  run : ∀ (Z A : Nat → Prop) (β : Nat → Pl) (args : Array Value) (w : World), (∀ b, Z b → b < w.heap.size) → RdXs A Z w β args.toList vs →
    Calls P f args w fun e w' => ∃ v, e = .returned v ∧ (∀ A' β', RdX2 A' Z w' β' v x) ∧ Below w.heap.size w w'
structure CallH (P : Program) (f : FuncId) (vs : List XV) (N : Nat) (H : Tr Bx) (x : XV) (N' : Nat) (H' : Tr Bx) : Prop where
  le : N ≤ N'
  cal : callable P f = true
  ok : xok x
  hok : HOk H'
  hlt : HLt N' H'
  run : ∀ (V A : Nat → Prop) (β : Nat → Pl) (args : Array Value) (w : World), (∀ k, A k → ¬ (N ≤ k ∧ k < N')) → Mem V A (HS H) β w → RdXs A (Zs V (HS H) β) w β args.toList vs →
    Calls P f args w fun e w' => ∃ v A' β', e = .returned v ∧ (∀ k, A k → A' k) ∧ (∀ k, A' k → Ad A N N' k) ∧ Mem V A' (HS H') β' w' ∧ Hst N N' A (HS H) β w (HS H') β' w' ∧ RdX2 A' (Zs V (HS H') β') w' β' v x
def CallOk (P : Program) (call : CallX) : Prop := ∀ f vs N H, (∀ v ∈ vs, xok v) → HOk H → HLt N H → (∀ x, call f vs N H = .p x → CallP P f vs x) ∧ ∀ x N' H', call f vs N H = .h x N' H' → CallH P f vs N H x N' H'
section
variable {P : Program} {ops : Array Oper} {o : Oper} {TT : TX} {m N : Nat} {L : LX} {T : Tr XV} {H : Tr Bx} {x : XV}
variable {N' : Nat} {H' : Tr Bx} {g : Lg} {call : CallX}
variable {dst : Option Nat} {ty : TypeId} {pos : String} {af : Array Edge} {gd : Option (Nat × Bool)}
theorem Zs_e0 {V : Nat → Prop} {β : Nat → Pl} : Zs V e0 β = V := by
  funext b
  refine propext ⟨?_, .inl⟩
  rintro (h | ⟨k, hk, _⟩)
  · exact h
  · exact absurd rfl hk
theorem mem_below {V A : Nat → Prop} {β : Nat → Pl} {w w' : World} (hm : Mem V A e0 β w) (hb : Below w.heap.size w w') : Mem V A e0 β w' ∧ Hst N N A e0 β w e0 β w' := by
  refine ⟨⟨fun b h => Nat.lt_of_lt_of_le (hm.vlt b h) hb.size, fun k hk => absurd rfl hk, fun k hk => Nat.lt_of_lt_of_le (hm.lt k hk) hb.size, fun k l hk => absurd rfl hk, fun k hk => absurd rfl hk, fun k U cs hk => by cases hk⟩, hb.os, hb.tape, hb.output, hb.size, fun b h _ => hb.block b h, fun _ _ => rfl, fun k hk => absurd rfl hk, fun k hk => absurd rfl hk⟩
theorem good_call (hO : HOk H) (hL : HLt N H) (hcall : CallOk P call) {f : FuncId} {vs : List XV} (hvs : ∀ v ∈ vs, xok v) (h : crR H N (call f vs N H) = some (.mk x N' H' g))
    (hrun : callable P f = true → ∀ A Z w β a, TmpX A Z w β (Looks ops o) TT a → ∃ args : Array Value, (execOp a.eval o).run P w = .ok (.enter f args) w ∧ RdXs A Z w β args.toList vs) : Good P ops o TT N H x N' H' g := by
  obtain ⟨hp, hh⟩ := hcall f vs N H hvs hO hL
  cases hc : call f vs N H with
  | no => rw [hc] at h; cases h
  | p y =>
    rw [hc] at h
    have h : some (Rs.mk y N H .p) = some (.mk x N' H' g) := h
    injection h with h
    injection h with h1 h2 h3 h4
    subst h1 h2 h3 h4
    have hP := hp y hc
    have hf : Foot N N H H e0 e0 .p := ⟨rfl, rfl, rfl⟩
    refine ⟨Nat.le_refl _, hP.ok, hO, hL, e0, e0, fun V A β a w _ hm ht => ?_, fun k c h => (by cases h), fun k c h => (by rw [put2_e0]; exact h), hf⟩
    obtain ⟨args, e1, hr⟩ := hrun hP.cal _ _ w β a ht
    unfold Gives
    rw [e1]
    refine (hP.run (Zs V e0 β) A β args w (by rw [Zs_e0]; exact hm.vlt) hr).mono ?_
    rintro e w' ⟨v, rfl, hx, hb⟩
    obtain ⟨m1, m2⟩ := mem_below (N := N) hm hb
    exact ⟨v, rfl, A, β, fun _ h => h, fun _ h => .inl h, m1, m2, hx A β⟩
  | h y M K =>
    rw [hc] at h
    have h : some (Rs.mk y M K (.c H K)) = some (.mk x N' H' g) := h
    injection h with h
    injection h with h1 h2 h3 h4
    subst h1 h2 h3 h4
    have hC := hh y M K hc
    have hf : Foot N M H K (HS H) (HS K) (.c H K) := ⟨rfl, rfl, rfl, rfl⟩
    refine ⟨hC.le, hC.ok, hC.hok, hC.hlt, HS H, HS K, fun V A β a w hA hm ht => ?_, fun k c h => h, fun k c h => ?_, hf⟩
    · obtain ⟨args, e1, hr⟩ := hrun hC.cal _ _ w β a ht
      unfold Gives
      rw [e1]
      refine (hC.run V A β args w hA hm hr).mono ?_
      rintro e w' ⟨v, A', β', rfl, h1, h2, h3, h4, h5⟩
      exact ⟨v, rfl, A', β', h1, h2, h3, h4, h5⟩
    · unfold put2; rw [h]
theorem enter_run {f : FuncId} (hcal : callable P f = true) {c : Call} {a : Act} {w : World} {args : Array Value} {fo : Operand} (hc : c.callee = .value fo) {cs : Array Value} (hf : a.eval fo = .func (.func f) #[] cs) (ha : args = c.args.map a.eval ++ cs) :
    (execOp a.eval ⟨dst, .call c, ty, pos, af, gd⟩).run P w = .ok (.enter f args) w := by
  subst ha
  unfold callable at hcal
  cases hfn : P.funcs[f]? with
  | none => rw [hfn] at hcal; cases hcal
  | some fn =>
    rw [hfn] at hcal
    simp only [Bool.and_eq_true, bne_iff_ne, ne_eq, Bool.not_eq_true'] at hcal
    have hb2 : fn.body ≠ none := by have := hcal.2; cases hbb : fn.body with
      | none => rw [hbb] at this; cases this
      | some c => simp
    simp [execOp, resolve, hc, hf, Deferred.ofValue, invoke, callFunc, program, Sem.run, hfn, hcal.1, hb2]
theorem s_call (hT : TOk (TS m L T)) (hO : HOk H) (hL : HLt N H) (hcall : CallOk P call) {f : FuncId} {ys : Array Operand} {ats : Array TypeId} {xs : List XO} {x : XV} (hc : allO (cO m) ys.toList = some xs)
    (h : opCall f xs call L T N H = some (.mk x N' H' g)) : Good P ops ⟨dst, .call ⟨.value (.func f), ys, ats⟩, ty, pos, af, gd⟩ (TS m L T) N H x N' H' g := by
  obtain ⟨vs, hvs, h⟩ := oO_some h
  refine good_call hO hL hcall (args_ok hT hc hvs) h fun hcal A Z w β a ht => ?_
  have hr := args_reads (o := ⟨dst, .call ⟨.value (.func f), ys, ats⟩, ty, pos, af, gd⟩) (fun y hy => by have hy2 := Array.mem_toList_iff.1 hy; simp [Op.operands, Call.operands, hy2]) hc hvs ht
  exact ⟨ys.map a.eval, enter_run hcal rfl (cs := #[]) rfl (by simp), by simpa using hr⟩
theorem fnX_some : ∀ {y : AV} {acc : List XV} {k : FuncId → List XV → Option Rs} {r : Rs}, fnX y acc k = some r → ∃ f cs, y.fn = some (f, cs) ∧ k f (acc.reverse ++ cs.map .c) = some r := by
  intro y
  induction y with
  | f0 g => intro acc k r h; exact ⟨g, [], rfl, by simpa using (show k g acc.reverse = some r from h)⟩
  | fc a y _ ihy =>
    intro acc k r h
    obtain ⟨f, cs, h1, h2⟩ := ihy (show fnX y (.c a :: acc) k = some r from h)
    exact ⟨f, a :: cs, by simp [AV.fn, h1], by simpa using h2⟩
  | _ => intro acc k r h; cases h
theorem RdA.fn_eq {A Z : Nat → Prop} {w : World} {β : Nat → Pl} {v : Value} {y : AV} {f : FuncId} {xs : List AV} (h : RdA A Z w β v y) (hf : y.fn = some (f, xs)) : ∃ cs : Array Value, v = .func (.func f) #[] cs ∧ RdAs A Z w β cs.toList xs := by
  cases h with
  | f g cs ys _ h0 h1 h2 =>
    rw [h0] at hf
    injection hf with hf
    injection hf with e1 e2
    subst e1 e2
    exact ⟨cs, rfl, by simpa using h1, fun j v x hv hx => h2 j v x (by rw [← Array.getElem?_toList]; exact hv) hx⟩
  | _ => cases hf
theorem s_calv (hT : TOk (TS m L T)) (hO : HOk H) (hL : HLt N H) (hcall : CallOk P call) {t : Nat} {fo : XO} {ys : Array Operand} {ats : Array TypeId} {xs : List XO} {x : XV} (hcf : cO m (.tmp t) = some fo) (hc : allO (cO m) ys.toList = some xs)
    (h : opCalv fo xs call L T N H = some (.mk x N' H' g)) : Good P ops ⟨dst, .call ⟨.value (.tmp t), ys, ats⟩, ty, pos, af, gd⟩ (TS m L T) N H x N' H' g := by
  obtain ⟨v, hv, h⟩ := oO_some h
  obtain ⟨y, q, h⟩ := xC_some h
  subst q
  obtain ⟨vs, hvs, h⟩ := oO_some h
  obtain ⟨f, cs, hf, h⟩ := fnX_some h
  rw [List.reverse_reverse] at h
  refine good_call hO hL hcall (fun v hv => ?_) h fun hcal A Z w β a ht => ?_
  · rcases List.mem_append.1 hv with hv | hv
    · exact args_ok hT hc hvs v hv
    · obtain ⟨c, _, rfl⟩ := List.mem_map.1 hv
      trivial
  · have hr := args_reads (o := ⟨dst, .call ⟨.value (.tmp t), ys, ats⟩, ty, pos, af, gd⟩) (fun y hy => by have hy2 := Array.mem_toList_iff.1 hy; simp [Op.operands, Call.operands, hy2]) hc hvs ht
    obtain ⟨us, e1, hu⟩ := RdA.fn_eq (cO_reads (o := ⟨dst, .call ⟨.value (.tmp t), ys, ats⟩, ty, pos, af, gd⟩) (by simp [Op.operands, Call.operands]) hcf hv ht) hf
    refine ⟨ys.map a.eval ++ us, enter_run hcal rfl e1 rfl, ?_, fun j v x hv hx => ?_⟩
    · have h1 := hr.1
      have h2 := hu.1
      simp at h1 h2
      simp [h1, h2]
    · have h1 := hr.1
      simp only [Array.toList_append, Array.toList_map] at hv
      by_cases hj : j < vs.length
      · rw [List.getElem?_append_left (by rw [h1]; exact hj)] at hv
        rw [List.getElem?_append_left hj] at hx
        exact hr.2 j v x hv hx
      · rw [List.getElem?_append_right (by rw [h1]; omega)] at hv
        rw [List.getElem?_append_right (by omega), List.getElem?_map] at hx
        rw [h1] at hv
        cases hcx : cs[j - vs.length]? with
        | none => rw [hcx] at hx; cases hx
        | some c =>
          rw [hcx] at hx
          injection hx with hx
          subst hx
          exact hu.2 _ v c hv hcx
theorem fill_ok {pl : Nat → Option (Nat × Nat)} (hT : TOk (TS m L T)) {tot : Nat} : ∀ {ps : List (Nat × Operand)} {qs : List (Nat × Nat × XO)} {r r' : Rp}, cPs m pl ps = some qs → fillR L T tot qs r = some r' → r.ok → tot = r.flat.length → r'.ok ∧ tot = r'.flat.length ∧
    ∀ A Z w β a (cells : Array Value), (∀ p ∈ ps, p.2 ∈ o.op.operands) → TmpX A Z w β (Looks ops o) (TS m L T) a → RdAs A Z w β cells.toList r.flat → ∃ cells', Instr.fill pl cells (ps.map fun (i, y) => (i, a.eval y)) = some cells' ∧ RdAs A Z w β cells'.toList r'.flat
  | [], qs, r, r', h, hf, hr, ht => by
    injection h with h
    subst h
    have hf : some r = some r' := hf
    injection hf with hf
    subst hf
    exact ⟨hr, ht, fun A Z w β a cells _ _ hc => ⟨cells, rfl, hc⟩⟩
  | (i, y) :: ps, qs, r, r', h, hf, hr, ht => by
    unfold cPs at h
    split at h
    case h_2 => cases h
    rename_i off sz y' ys h1 h2 h3
    injection h with h
    subst h
    obtain ⟨v, hv, hf⟩ := oO_some (show oO (y'.get L T) (fun v => xD v fun n d => bT (Nat.beq n sz) (bT (Nat.ble (Nat.add off n) tot) (fillR L T tot ys (updR d r tot off n)))) = some r' from hf)
    obtain ⟨n, d, hrp, hf2⟩ := xD_some hf
    obtain ⟨hn, hf3⟩ := bT_some hf2
    obtain ⟨hle, hf4⟩ := bT_some hf3
    have hn := Nat.eq_of_beq_eq_true hn
    subst hn
    rw [ble_iff] at hle
    obtain ⟨hd1, hd2⟩ := rp_ok (cO_ok hT h2 hv) hrp
    have hle' : off + n ≤ tot := hle
    obtain ⟨g1, g2⟩ := updR_spec hd1 r tot off n hr ht hd2 hle'
    obtain ⟨k1, k2, k3⟩ := fill_ok hT h3 hf4 g1 (by rw [g2]; simp; omega)
    refine ⟨k1, k2, fun A Z w β a cells hy htm hc => ?_⟩
    have hcl := rp_reads (cO_reads (o := o) (hy (i, y) (by simp)) h2 hv htm) hrp
    have hvs : (a.eval y).cells.size = n := by rw [hd2, ← hcl.1]; simp
    have hcs : cells.size = tot := by rw [ht, ← hc.1]; simp
    have hfr := fill_range off (a.eval y).cells.toList 0 cells (by simp; omega)
    have hrd : RdAs A Z w β (((a.eval y).cells.zipIdx.foldl (fun (cs : Array Value) (p : Value × Nat) => cs.setIfInBounds (off + p.2) p.1) cells)).toList (updR d r tot off n).flat := by
      rw [← Array.foldl_toList]
      have : (a.eval y).cells.zipIdx.toList = (a.eval y).cells.toList.zipIdx := by simp
      rw [this, hfr, g2]
      refine RdAs.append (RdAs.append (by simpa using hc.take off) hcl) ?_
      have := hc.drop (off + n)
      simpa [hvs] using this
    obtain ⟨cells', e, hr'⟩ := k3 A Z w β a _ (fun p hp => hy p (by simp [hp])) htm hrd
    refine ⟨cells', ?_, hr'⟩
    show Instr.fill pl cells ((i, a.eval y) :: ps.map fun (i, y) => (i, a.eval y)) = _
    unfold Instr.fill
    rw [h1]
    dsimp only
    rw [if_neg (by simp [hvs]; omega)]
    exact e
theorem s_build (hT : TOk (TS m L T)) (hO : HOk H) (hL : HLt N H) {U : TypeId} {ps : Array (Nat × Operand)} {pl : List (Nat × Nat)} {zs : List AV} {qs : List (Nat × Nat × XO)} {x : XV} (hU : fsB P U = some pl) (hz : zcA P U = some zs) (hp : cPs m (fun i => pl[i]?) ps.toList = some qs)
    (h : opBuild zs.length (ofL zs) qs call L T N H = some (.mk x N' H' g)) : Good P ops ⟨dst, .build U ps, ty, pos, af, gd⟩ (TS m L T) N H x N' H' g := by
  obtain ⟨r, hr, h⟩ := oO_some h
  obtain ⟨rfl, rfl, rfl, rfl⟩ := pR_some h
  obtain ⟨z1, z2⟩ := ofL_spec zs
  obtain ⟨k1, k2, k3⟩ := fill_ok (ops := ops) (o := ⟨dst, .build U ps, ty, pos, af, gd⟩) hT hp hr z1 (by rw [z2])
  refine good_pure hO hL ⟨k1, k2⟩ fun A Z w β a ht => ?_
  obtain ⟨it, z, hi, hz, hzr⟩ := zcA_reads hz
  obtain ⟨cells, hfl, hrd⟩ := k3 A Z w β a z.cells (fun p hp => by simp only [Op.operands, List.mem_toArray, List.mem_map]; exact ⟨p, hp, rfl⟩) ht (by rw [z2]; exact hzr _ _ _ _)
  refine ⟨.agg cells, ?_, cells, rfl, hrd⟩
  unfold fsB at hU
  split at hU
  · rename_i fs hu
    have := run_build (P := P) w U (ps.map fun (i, x) => (i, a.eval x)) cells (by
      unfold Program.built
      simp only [hi, hu, hz, hU]
      simpa using hfl)
    simp [execOp, this]
  · cases hU
end
section
variable {P : Program} {ops : Array Oper} {o : Oper} {TT : TX} {m N : Nat} {L : LX} {T : Tr XV} {H : Tr Bx} {x : XV}
variable {N' : Nat} {H' : Tr Bx} {g : Lg} {call : CallX}
variable {dst : Option Nat} {ty : TypeId} {pos : String} {af : Array Edge} {gd : Option (Nat × Bool)}
theorem elA_spec {U e : TypeId} {sz by_ : Nat} {zs : List AV} (h : elA P U = some (e, sz, by_, zs)) : P.underlying U = some (.slice e) ∧ ∃ i z, P.info? e = some i ∧ i.zero = some z ∧ i.size = sz ∧ i.bytes = by_ ∧ zs.length = sz ∧ 0 < sz ∧ ∀ A Z w β, RdAs A Z w β z.cells.toList zs := by
  unfold elA at h
  split at h
  · rename_i e' hu
    split at h
    · rename_i i zs' hi hz
      cases hb : Nat.beq zs'.length i.size && Nat.blt 0 i.size with
      | false => rw [hb] at h; cases h
      | true =>
        rw [hb] at h
        have h := Option.some.inj (show some (e', i.size, i.bytes, zs') = some (e, sz, by_, zs) from h)
        injection h with h1 h
        injection h with h2 h
        injection h with h3 h4
        subst h1 h2 h3 h4
        rw [Bool.and_eq_true] at hb
        obtain ⟨it, z, g1, g2, g3⟩ := zcA_reads hz
        rw [hi] at g1
        injection g1 with g1
        subst g1
        exact ⟨hu, i, z, hi, g2, rfl, rfl, Nat.eq_of_beq_eq_true hb.1, blt_iff.1 hb.2, g3⟩
    · cases h
  · cases h
theorem zero_row {A Z : Nat → Prop} {w : World} {β : Nat → Pl} {z : Value} {zs : List AV} {sz : Nat} (hl : zs.length = sz) (hz : RdAs A Z w β z.cells.toList zs) : ∀ n : Nat, RdAs A Z w β ((List.range (n * sz)).map (fun j => z.cells[j % z.cells.size]!)) (repA zs n) := by
  have hzs : z.cells.size = sz := by rw [← hl, ← hz.1]; simp
  intro n
  induction n with
  | zero => simp [repA]; exact RdAs.nil
  | succ n ih =>
    rw [Nat.succ_mul, Nat.add_comm, List.range_add, List.map_append]
    refine RdAs.append ?_ ?_
    · have e2 : (List.range sz).map (fun j => z.cells[j % z.cells.size]!) = z.cells.toList := by
        apply List.ext_getElem (by simp [hzs])
        intro j h1 h2
        simp at h1
        simp only [List.getElem_map, List.getElem_range, hzs]
        rw [Nat.mod_eq_of_lt h1, getElem!_pos z.cells j (by omega)]
        simp
      rw [e2]; exact hz
    · have e3 : (List.map (fun x => sz + x) (List.range (n * sz))).map (fun j => z.cells[j % z.cells.size]!) = (List.range (n * sz)).map (fun j => z.cells[j % z.cells.size]!) := by
        rw [List.map_map]
        apply List.map_congr_left
        intro j _
        show z.cells[(sz + j) % z.cells.size]! = _
        rw [hzs, Nat.add_mod_left]
      rw [e3]; exact ih
theorem run_buildSlice0 (w : World) (t e : TypeId) (len : Nat) (parts : Array (Nat × Value)) (cells : Array Value) (ie : TypeInfo)
    (hu : P.underlying t = some (.slice e)) (hie : P.info? e = some ie) (hpos : len * ie.size = 0) (h : Instr.fill (fun i => some (i * ie.size, ie.size)) #[] parts.toList = some cells) :
    (Instr.buildSlice t len parts).run P w = .ok (.slice (some ⟨w.heap.size, 0, none⟩) len len) (w.alloc (.cells cells e)) := by
  have h0 : ∀ f : Nat → Value, Array.map f (Array.range 0) = #[] := fun f => by apply Array.eq_empty_of_size_eq_zero; simp
  simp [Instr.buildSlice, run_underlying hu, sizeOf, typeInfo, hie, hpos, h0, h, newRow]
theorem s_bsl (hT : TOk (TS m L T)) (hO : HOk H) (hL : HLt N H) {U e : TypeId} {n sz by_ : Nat} {ps : Array (Nat × Operand)} {zs : List AV} {qs : List (Nat × Nat × XO)} {x : XV} (hU : elA P U = some (e, sz, by_, zs)) (hn : n * sz ≤ 10000) (hp : cPs m (fun i => some (i * sz, sz)) ps.toList = some qs)
    (h : opBsl e n sz (repR sz (ofL zs) n) qs call L T N H = some (.mk x N' H' g)) : Good P ops ⟨dst, .buildSlice U n ps, ty, pos, af, gd⟩ (TS m L T) N H x N' H' g := by
  obtain ⟨r, hr, h⟩ := oO_some h
  obtain ⟨rfl, rfl, rfl, rfl⟩ := nwB_some h
  obtain ⟨hu, i, z, hi, hz, hsz, hby, hzl, h0, hzr⟩ := elA_spec hU
  obtain ⟨z1, z2⟩ := ofL_spec zs
  obtain ⟨r1, r2⟩ := repR_spec (m := sz) (z := ofL zs) (by rw [z2, hzl]) z1 n
  have r2' : (repR sz (ofL zs) n).flat = repA zs n := by rw [r2, z2]
  have hlen : n * sz = (repR sz (ofL zs) n).flat.length := by rw [r2', repA_len, hzl]
  obtain ⟨k1, k2, k3⟩ := fill_ok (ops := ops) (o := ⟨dst, .buildSlice U n ps, ty, pos, af, gd⟩) hT hp hr r1 hlen
  refine good_new hO hL k1 k2 fun A Z w β a ht => ?_
  have hrow := zero_row hzl (hzr A Z w β) n
  obtain ⟨cells, hfl, hrd⟩ := k3 A Z w β a ((Array.range (n * sz)).map (z.cells[· % z.cells.size]!)) (fun p hp => by simp only [Op.operands, List.mem_toArray, List.mem_map]; exact ⟨p, hp, rfl⟩) ht (by rw [r2']; simpa using hrow)
  have hcs : cells.size = n * sz := by
    have h1 := hrd.1
    have h2 : n * sz = r.flat.length := k2
    simp at h1
    omega
  have hout : ∀ A' Z' w' β', A' N → β' N = ⟨w.heap.size, cells.size⟩ → RdA A' Z' w' β' (.slice (some ⟨w.heap.size, 0, none⟩) n n) (.s N 0 n n true sz) := by
    intro A' Z' w' β' hA hβ
    have hnl : n ≤ maxLen := by
      have : n ≤ n * sz := Nat.le_mul_of_pos_right n h0
      have : maxLen = 9223372036854775807 := rfl
      omega
    have := RdA.s (A := A') (Z := Z') (w := w') (β := β') N 0 n n true sz n hA (Nat.le_refl _) (Nat.le_refl _) hnl (fun _ => rfl) (by rw [hβ]; show 0 + n * sz ≤ cells.size; omega)
    rw [hβ] at this; exact this
  refine ⟨.slice (some ⟨w.heap.size, 0, none⟩) n n, cells, ?_, hrd, hout⟩
  by_cases hpos : n * sz = 0
  · have hc : cells = #[] := by
      apply Array.eq_empty_of_size_eq_zero; omega
    subst hc
    have hz0 : (Array.range (n * sz)).map (z.cells[· % z.cells.size]!) = #[] := by rw [hpos]; apply Array.eq_empty_of_size_eq_zero; simp
    rw [hz0] at hfl
    subst hsz
    have hrun := run_buildSlice0 (P := P) w U e n (ps.map fun (i, x) => (i, a.eval x)) #[] i hu hi hpos (by simpa using hfl)
    simp only [execOp, Sem.run_bind, hrun, Result.andThen_ok, Sem.run_pure]
  · subst hsz
    have hrun := run_buildSlice (P := P) w U e n (ps.map fun (i, x) => (i, a.eval x)) cells i z hu hi hz (by have : (2 : Nat) ^ 24 = 16777216 := rfl; omega) hpos (by simpa using hfl)
    simp only [execOp, Sem.run_bind, hrun, Result.andThen_ok, Sem.run_pure]
theorem s_mks (_hT : TOk (TS m L T)) (hO : HOk H) (hL : HLt N H) {U e : TypeId} {sz by_ : Nat} {y z : Operand} {zs : List AV} {xo yo : XO} {x : XV} (hU : elA P U = some (e, sz, by_, zs)) (h1 : cO m y = some xo) (h2 : cO m z = some yo)
    (h : opMks e sz by_ (ofL zs) xo yo call L T N H = some (.mk x N' H' g)) : Good P ops ⟨dst, .makeSlice U y z, ty, pos, af, gd⟩ (TS m L T) N H x N' H' g := by
  obtain ⟨v, hv, h⟩ := oO_some h
  obtain ⟨v2, hv2, h⟩ := oO_some h
  obtain ⟨ka, a, q1, h⟩ := xN_some h
  obtain ⟨kb, b, q2, h⟩ := xN_some h
  subst q1 q2
  obtain ⟨g1, h⟩ := bT_some h
  obtain ⟨g2, h⟩ := bT_some h
  obtain ⟨g3, h⟩ := bT_some h
  obtain ⟨rfl, rfl, rfl, rfl⟩ := nwB_some h
  rw [ble_iff] at g1 g2 g3
  obtain ⟨hu, i, zv, hi, hz, hsz, hby, hzl, h0, hzr⟩ := elA_spec hU
  obtain ⟨z1, z2⟩ := ofL_spec zs
  obtain ⟨r1, r2⟩ := repR_spec (m := sz) (z := ofL zs) (by rw [z2, hzl]) z1 b
  have r2' : (repR sz (ofL zs) b).flat = repA zs b := by rw [r2, z2]
  have hlen : b * sz = (repR sz (ofL zs) b).flat.length := by rw [r2', repA_len, hzl]
  refine good_new hO hL r1 hlen fun A Z w β ac ht => ?_
  have e1 : ac.eval y = .int ka (a : Int) := RdA.i_eq (cO_reads (o := ⟨dst, .makeSlice U y z, ty, pos, af, gd⟩) (by simp [Op.operands]) h1 hv ht)
  have e2 : ac.eval z = .int kb (b : Int) := RdA.i_eq (cO_reads (o := ⟨dst, .makeSlice U y z, ty, pos, af, gd⟩) (by simp [Op.operands]) h2 hv2 ht)
  have g2' : (b * by_ : Nat) ≤ 140737488355328 := g2
  have hrun := run_make (P := P) w U e i zv hu hi hz ka kb a b (by omega) (by omega) (by rw [hby]; have h2 : ((b * by_ : Nat) : Int) ≤ 140737488355328 := Int.ofNat_le.2 g2'; rw [Int.natCast_mul, Int.mul_comm] at h2; omega) (by omega)
  have hrow := zero_row hzl (hzr A Z w β) b
  refine ⟨.slice (some ⟨w.heap.size, 0, none⟩) a b, madeCells zv.cells (b * sz), ?_, ?_, fun A' Z' w' β' hA hβ => ?_⟩
  · simp only [execOp, e1, e2, Sem.run_bind, hrun, Result.andThen_ok, Sem.run_pure, hsz]
    simp
  · rw [r2']
    unfold madeCells
    simpa using hrow
  · have hbl : b ≤ maxLen := by have : maxLen = 9223372036854775807 := rfl; omega
    have := RdA.s (A := A') (Z := Z') (w := w') (β := β') N 0 a b true sz b hA g1 (Nat.le_refl _) hbl (fun _ => rfl) (by rw [hβ]; show 0 + b * sz ≤ (madeCells zv.cells (b * sz)).size; simp [madeCells])
    rw [hβ] at this; exact this
end
section
variable {P : Program} {ops : Array Oper} {o : Oper} {TT : TX} {m N : Nat} {L : LX} {T : Tr XV} {H : Tr Bx} {x : XV}
variable {N' : Nat} {H' : Tr Bx} {g : Lg} {call : CallX}
variable {dst : Option Nat} {ty : TypeId} {pos : String} {af : Array Edge} {gd : Option (Nat × Bool)}
variable {V A A' : Nat → Prop} {Hm Hn : HF} {β β' : Nat → Pl} {w w' : World}
theorem Hst.less (h : Hst N N' A Hm β w Hn β' w') {H2 : HF} (hs : ∀ k c, H2 k = some c → Hn k = some c) : Hst N N' A Hm β w H2 β' w' := by
  have hn : ∀ k, H2 k ≠ none → Hn k ≠ none := fun k hk => by
    cases e : H2 k with
    | none => exact absurd e hk
    | some c => rw [hs k c e]; simp
  exact ⟨h.os, h.tape, h.output, h.size, h.blk, h.same, fun k hk => h.own k (hn k hk), fun k hk => h.nam k (hn k hk)⟩
theorem mem_drew (hm : Mem V A Hm β w) : Mem V A Hm β w.drew := by
  refine ⟨hm.vlt, hm.dom, hm.lt, hm.inj, hm.clr, fun k U cs hk => ?_⟩
  obtain ⟨vs, h1, h2, h3, h4⟩ := hm.box k U cs hk
  have hk2 : Keep (Zs V Hm β) (Zs V Hm β) w w.drew := ⟨Nat.le_refl _, fun _ _ _ => rfl, fun _ _ h => h⟩
  exact ⟨vs, h1, h2, h3, h4.mono hk2 (fun _ h => h) (fun _ _ => rfl)⟩
theorem mem_new (hm : Mem V A Hm β w) (hN : ∀ k, A k → k ≠ N) {U : TypeId} {vs : Array Value} {cs : List AV} (hl : cs.length ≤ vs.size) (hr : RdAs A (Zs V Hm β) w β (vs.toList.take cs.length) cs) :
    Mem V (fun k => A k ∨ k = N) (fun k => if k = N then some (U, cs) else Hm k) (fun k => if k = N then ⟨w.heap.size, vs.size⟩ else β k) (w.alloc (.cells vs U)) ∧
      Hst N (N + 1) A Hm β w (fun k => if k = N then some (U, cs) else Hm k) (fun k => if k = N then ⟨w.heap.size, vs.size⟩ else β k) (w.alloc (.cells vs U)) := by
  have hne : ∀ k, (if k = N then some (U, cs) else Hm k) ≠ none → k ≠ N → Hm k ≠ none := fun k hk e => by rw [if_neg e] at hk; exact hk
  have hH : Hst N (N + 1) A Hm β w (fun k => if k = N then some (U, cs) else Hm k) (fun k => if k = N then ⟨w.heap.size, vs.size⟩ else β k) (w.alloc (.cells vs U)) := by
    refine ⟨rfl, rfl, rfl, by simp, fun b hb _ => Below.heap_alloc _ _ _ hb, fun k hk => if_neg (hN k hk), fun k hk => ?_, fun k hk => ?_⟩
    · by_cases e : k = N
      · rw [if_pos e]; exact .inl (Nat.le_refl _)
      · rw [if_neg e]; exact .inr ⟨k, hne k hk e, rfl⟩
    · by_cases e : k = N
      · exact .inr ⟨Nat.le_of_eq e.symm, by omega⟩
      · exact .inl (hne k hk e)
  have hkeep := hH.keep hm
  refine ⟨⟨fun b hb => by rw [heap_alloc_size]; exact Nat.lt_succ_of_lt (hm.vlt b hb), fun k hk => ?_, fun k hk => ?_, fun k l hk hl e => ?_, fun k hk hv => ?_, fun k U' cs' hk => ?_⟩, hH⟩
  · by_cases e : k = N
    · exact .inr e
    · exact .inl (hm.dom k (hne k hk e))
  · rw [heap_alloc_size]
    rcases hk with hk | hk
    · rw [if_neg (hN k hk)]; exact Nat.lt_succ_of_lt (hm.lt k hk)
    · rw [if_pos hk]; exact Nat.lt_succ_self _
  · by_cases e1 : k = N <;> by_cases e2 : l = N
    · rw [e1, e2]
    · rw [if_pos e1, if_neg e2] at e
      have := hm.lt l (hm.dom l (hne l hl e2))
      rw [← e] at this; exact absurd this (Nat.lt_irrefl _)
    · rw [if_neg e1, if_pos e2] at e
      have := hm.lt k (hm.dom k (hne k hk e1))
      rw [e] at this; exact absurd this (Nat.lt_irrefl _)
    · rw [if_neg e1, if_neg e2] at e
      exact hm.inj k l (hne k hk e1) (hne l hl e2) e
  · by_cases e : k = N
    · rw [if_pos e] at hv; exact Nat.lt_irrefl _ (hm.vlt _ hv)
    · rw [if_neg e] at hv; exact hm.clr k (hne k hk e) hv
  · have hk' : (if k = N then some (U, cs) else Hm k) = some (U', cs') := hk
    by_cases e : k = N
    · rw [if_pos e] at hk'
      injection hk' with hk'
      injection hk' with h1 h2
      subst h1 h2
      rw [if_pos e]
      exact ⟨vs, heap_alloc_new w _, rfl, hl, hr.mono hkeep (fun _ h => .inl h) hH.same⟩
    · rw [if_neg e] at hk'
      obtain ⟨vs', e1, e2, e3, e4⟩ := hm.box k U' cs' hk'
      rw [if_neg e]
      exact ⟨vs', (Below.heap_alloc _ _ _ (hm.lt k (hm.dom k (by rw [hk']; simp)))).trans e1, e2, e3, e4.mono hkeep (fun _ h => .inl h) hH.same⟩
theorem mem_ren (hm : Mem V A Hm β w) (hN : ∀ k, A k → k ≠ N) {k0 : Nat} {U : TypeId} {cs : List AV} (hk0 : Hm k0 = some (U, cs)) :
    Mem V (fun k => A k ∨ k = N) (fun k => if k = N then some (U, cs) else if k = k0 then none else Hm k) (fun k => if k = N then β k0 else β k) w ∧
      Hst N (N + 1) A Hm β w (fun k => if k = N then some (U, cs) else if k = k0 then none else Hm k) (fun k => if k = N then β k0 else β k) w := by
  have hA0 := hm.dom k0 (by rw [hk0]; simp)
  have hne : ∀ k, (if k = N then some (U, cs) else if k = k0 then none else Hm k) ≠ none → k ≠ N → k ≠ k0 ∧ Hm k ≠ none := fun k hk e => by
    rw [if_neg e] at hk
    by_cases e2 : k = k0
    · rw [if_pos e2] at hk; exact absurd rfl hk
    · rw [if_neg e2] at hk; exact ⟨e2, hk⟩
  have hH : Hst N (N + 1) A Hm β w (fun k => if k = N then some (U, cs) else if k = k0 then none else Hm k) (fun k => if k = N then β k0 else β k) w := by
    refine ⟨rfl, rfl, rfl, Nat.le_refl _, fun _ _ _ => rfl, fun k hk => if_neg (hN k hk), fun k hk => ?_, fun k hk => ?_⟩
    · by_cases e : k = N
      · rw [if_pos e]; exact .inr ⟨k0, by rw [hk0]; simp, rfl⟩
      · rw [if_neg e]; exact .inr ⟨k, (hne k hk e).2, rfl⟩
    · by_cases e : k = N
      · exact .inr ⟨Nat.le_of_eq e.symm, by omega⟩
      · exact .inl (hne k hk e).2
  have hkeep := hH.keep hm
  refine ⟨⟨hm.vlt, fun k hk => ?_, fun k hk => ?_, fun k l hk hl e => ?_, fun k hk hv => ?_, fun k U' cs' hk => ?_⟩, hH⟩
  · by_cases e : k = N
    · exact .inr e
    · exact .inl (hm.dom k (hne k hk e).2)
  · rcases hk with hk | hk
    · rw [if_neg (hN k hk)]; exact hm.lt k hk
    · rw [if_pos hk]; exact hm.lt k0 hA0
  · by_cases e1 : k = N <;> by_cases e2 : l = N
    · rw [e1, e2]
    · rw [if_pos e1, if_neg e2] at e
      exact absurd (hm.inj k0 l (by rw [hk0]; simp) (hne l hl e2).2 e).symm (hne l hl e2).1
    · rw [if_neg e1, if_pos e2] at e
      exact absurd (hm.inj k k0 (hne k hk e1).2 (by rw [hk0]; simp) e) (hne k hk e1).1
    · rw [if_neg e1, if_neg e2] at e
      exact hm.inj k l (hne k hk e1).2 (hne l hl e2).2 e
  · by_cases e : k = N
    · rw [if_pos e] at hv; exact hm.clr k0 (by rw [hk0]; simp) hv
    · rw [if_neg e] at hv; exact hm.clr k (hne k hk e).2 hv
  · have hk' : (if k = N then some (U, cs) else if k = k0 then none else Hm k) = some (U', cs') := hk
    by_cases e : k = N
    · rw [if_pos e] at hk'
      injection hk' with hk'
      injection hk' with h1 h2
      subst h1 h2
      rw [if_pos e]
      obtain ⟨vs', e1, e2, e3, e4⟩ := hm.box k0 U cs hk0
      exact ⟨vs', e1, e2, e3, e4.mono hkeep (fun _ h => .inl h) hH.same⟩
    · rw [if_neg e] at hk'
      by_cases e2 : k = k0
      · rw [if_pos e2] at hk'; cases hk'
      · rw [if_neg e2] at hk'
        obtain ⟨vs', e1, e3, e4, e5⟩ := hm.box k U' cs' hk'
        rw [if_neg e]
        exact ⟨vs', e1, e3, e4, e5.mono hkeep (fun _ h => .inl h) hH.same⟩
theorem srcX_some {U e : TypeId} {sz : Nat} {y : AV} {f : Nat → Rp → Option Rs} {r : Rs} (hu : P.underlying U = some (.slice e)) (hO : HOk H) (h : srcX H e sz y f = some r) : ∃ q ys, f q ys = some r ∧ ys.ok ∧ ys.flat.length = q * sz ∧
    (∀ V A β w v, Mem V A (HS H) β w → RdA A (Zs V (HS H) β) w β v y → ∃ news, Src P sz U v q news w ∧ RdAs A (Zs V (HS H) β) w β news ys.flat) ∧ (q = 0 → ∀ A Z β w v, RdA A Z w β v y → Src P sz U v 0 [] w) := by
  have hz0 : ∀ {A Z : Nat → Prop} {β : Nat → Pl} {w : World} {v : Value}, RdA A Z w β v .z → Src P sz U v 0 [] w := fun h => by rw [h.z_eq]; exact Src.ofNil _ hu 0
  have he0 : ∀ {A Z : Nat → Prop} {β : Nat → Pl} {w : World} {v : Value}, RdA A Z w β v .ev → Src P sz U v 0 [] w := fun h => by
    obtain ⟨a, c, e1, _, _⟩ := h.ev_eq
    rw [e1]
    cases a with
    | none => exact Src.ofNil _ hu c
    | some a => exact Src.ofSlice _ hu a 0 c [] (by simp) (fun j u hj => by simp at hj) (fun _ h => by cases h)
  rcases aS_some h with ⟨k, off, q, lo, ex, m', rfl, h⟩ | ⟨rfl, h⟩ | ⟨rfl, h⟩
  · obtain ⟨b, hb, h⟩ := oO_some h
    obtain ⟨g1, h⟩ := bT_some h
    obtain ⟨g2, h⟩ := bT_some h
    obtain ⟨g3, hfin⟩ := bT_some h
    have g1 := Nat.eq_of_beq_eq_true g1
    have g2 := Nat.eq_of_beq_eq_true g2
    rw [ble_iff] at g3
    subst g1 g2
    obtain ⟨hb1, hb2⟩ := hO k b hb
    have g3' : off + q * sz ≤ b.n := g3
    obtain ⟨k1, k2⟩ := subR_spec b.r b.n off (q * sz) hb1 hb2 g3'
    refine ⟨q, subR b.r b.n off (q * sz), hfin, k1, by rw [k2]; simp; omega, fun V A β w v hm hr => ?_, fun hq A Z β w v hr => ?_⟩
    · obtain ⟨c, e1, hk, c1, c2, c3, c4, c5⟩ := hr.s_eq
      obtain ⟨vs, ev, hz, hl, hrd⟩ := hm.box k b.U b.r.flat (HS_get hb)
      have hr2 := (hrd.drop off).take (q * sz)
      have hle : off + q * sz ≤ b.r.flat.length := by rw [← hb2]; exact g3'
      have hlen : ((vs.toList.take b.r.flat.length).drop off).take (q * sz) = (vs.toList.drop off).take (q * sz) := by
        rw [List.drop_take, List.take_take, Nat.min_eq_left (by omega)]
      rw [hlen] at hr2
      refine ⟨(vs.toList.drop off).take (q * sz), ?_, by rw [k2]; exact hr2⟩
      rw [e1]
      refine Src.ofSlice w hu _ q c _ (by simp; omega) (fun j u hj => ?_) hr2.one
      rw [addr_add]
      rw [List.getElem?_take] at hj
      split at hj
      · rw [cells_of_box ev, ← hj]; simp
      · cases hj
    · obtain ⟨c, e1, _⟩ := hr.s_eq
      rw [e1, hq]
      exact Src.ofSlice w hu _ 0 c [] (by simp) (fun j u hj => by simp at hj) (fun _ h => by cases h)
  · exact ⟨0, .e, h, trivial, by simp [Rp.flat], fun V A β w v _ hr => ⟨[], hz0 hr, RdAs.nil⟩, fun _ A Z β w v hr => hz0 hr⟩
  · exact ⟨0, .e, h, trivial, by simp [Rp.flat], fun V A β w v _ hr => ⟨[], he0 hr, RdAs.nil⟩, fun _ A Z β w v hr => he0 hr⟩
theorem cR_some {y x : XV} {N1 N' : Nat} {H0 H1 H' : Tr Bx} {g : Lg} (h : csR y N1 H0 H1 = some (.mk x N' H' g)) : x = y ∧ N' = N1 ∧ H' = H1 ∧ g = .c H0 H1 := by
  unfold csR at h
  injection h with h
  injection h with h1 h2 h3 h4
  exact ⟨h1.symm, h2.symm, h3.symm, h4.symm⟩
theorem good_c (hx : xok x) (hO' : HOk H') (hL' : HLt N' H') (hle : N ≤ N') (hrun : RunG P ops o TT ⟨x, HS H, HS H', N, N'⟩) : Good P ops o TT N H x N' H' (.c H H') := by
  have hf : Foot N N' H H' (HS H) (HS H') (.c H H') := ⟨rfl, rfl, rfl, rfl⟩
  refine ⟨hle, hx, hO', hL', HS H, HS H', hrun, fun k c h => h, fun k c h => ?_, hf⟩
  unfold put2; rw [h]
theorem app_exec {U : TypeId} {y z : Operand} {a : Act} {w w' : World} {v : Value} (h : (Builtin.append_ #[U, U] ty #[a.eval y, a.eval z]).run P w = .ok v w') : (execOp a.eval ⟨dst, .call ⟨.builtin .append, #[y, z], #[U, U]⟩, ty, pos, af, gd⟩).run P w = .ok (.value v) w' := by
  simp only [execOp, resolve, invoke, builtin, Sem.run_bind, Sem.run_pure, Result.andThen_ok, List.map_toArray, List.map_cons, List.map_nil]
  rw [h]
  rfl
theorem grow_new (hm : Mem V A Hm β w) (hN : ∀ k, A k → k ≠ N) {e : TypeId} {i : TypeInfo} {z : Value} (hsz : z.cells.size = i.size) {n q c' : Nat} {olds news : List Value} {us : List AV}
    (hl : (olds ++ news).length = (n + q) * i.size) (hr : RdAs A (Zs V Hm β) w β (olds ++ news) us) (hc1 : n + q ≤ c') (hc2 : c' ≤ maxLen) :
    ∃ A' β', (∀ k, A k → A' k) ∧ (∀ k, A' k → Ad A N (N + 1) k) ∧ Mem V A' (fun k => if k = N then some (e, us) else Hm k) β' (w.drew.alloc (.cells ((olds ++ news).toArray ++ Builtin.zeroCells z.cells (c' - (n + q))) e)) ∧
      Hst N (N + 1) A Hm β w (fun k => if k = N then some (e, us) else Hm k) β' (w.drew.alloc (.cells ((olds ++ news).toArray ++ Builtin.zeroCells z.cells (c' - (n + q))) e)) ∧
      ∀ Z w', RdA A' Z w' β' (.slice (some ⟨w.heap.size, 0, none⟩) (n + q) c') (.s N 0 (n + q) (n + q) false i.size) := by
  have hul : us.length = (n + q) * i.size := by rw [← hr.1, hl]
  have hzl : (Builtin.zeroCells z.cells (c' - (n + q))).size = (c' - (n + q)) * i.size := by unfold Builtin.zeroCells; simp [hsz]
  have hvs : ((olds ++ news).toArray ++ Builtin.zeroCells z.cells (c' - (n + q))).size = c' * i.size := by
    rw [Array.size_append, hzl]
    show (olds ++ news).length + _ = _
    rw [hl, ← Nat.add_mul]; congr 1; omega
  obtain ⟨m1, m2⟩ := mem_new (U := e) (vs := (olds ++ news).toArray ++ Builtin.zeroCells z.cells (c' - (n + q))) (cs := us) (mem_drew hm) hN (by rw [hvs, hul]; exact Nat.mul_le_mul_right _ hc1) (by
    have e1 : ((olds ++ news).toArray ++ Builtin.zeroCells z.cells (c' - (n + q))).toList.take us.length = olds ++ news := by
      rw [Array.toList_append, List.take_append_of_le_length (by rw [hul, ← hl]; exact Nat.le_refl _), List.take_of_length_le (by rw [hul, ← hl]; exact Nat.le_refl _)]
    rw [e1]
    have hk2 : Keep (Zs V Hm β) (Zs V Hm β) w w.drew := ⟨Nat.le_refl _, fun _ _ _ => rfl, fun _ _ h => h⟩
    exact hr.mono hk2 (fun _ h => h) (fun _ _ => rfl))
  refine ⟨_, _, fun k hk => .inl hk, fun k hk => ?_, m1, ⟨m2.os, m2.tape, m2.output, m2.size, m2.blk, m2.same, m2.own, m2.nam⟩, fun Z w' => ?_⟩
  · rcases hk with hk | hk
    · exact .inl hk
    · exact .inr ⟨Nat.le_of_eq hk.symm, by omega⟩
  · have := RdA.s (A := fun k => A k ∨ k = N) (Z := Z) (w := w') (β := fun k => if k = N then ⟨w.drew.heap.size, ((olds ++ news).toArray ++ Builtin.zeroCells z.cells (c' - (n + q))).size⟩ else β k) N 0 (n + q) (n + q) false i.size c' (.inr rfl) (Nat.le_refl _) hc1 hc2 (fun e => by cases e) (by
      show 0 + c' * i.size ≤ (if N = N then (⟨w.drew.heap.size, _⟩ : Pl) else β N).z
      rw [if_pos rfl]
      show 0 + c' * i.size ≤ ((olds ++ news).toArray ++ Builtin.zeroCells z.cells (c' - (n + q))).size
      omega)
    have e2 : (if N = N then (⟨w.drew.heap.size, ((olds ++ news).toArray ++ Builtin.zeroCells z.cells (c' - (n + q))).size⟩ : Pl) else β N) = ⟨w.drew.heap.size, ((olds ++ news).toArray ++ Builtin.zeroCells z.cells (c' - (n + q))).size⟩ := if_pos rfl
    rw [e2] at this
    exact this
end
section
variable {P : Program} {ops : Array Oper} {o : Oper} {TT : TX} {m N : Nat} {L : LX} {T : Tr XV} {H : Tr Bx} {x : XV}
variable {N' : Nat} {H' : Tr Bx} {g : Lg} {call : CallX}
variable {dst : Option Nat} {ty : TypeId} {pos : String} {af : Array Edge} {gd : Option (Nat × Bool)}
theorem app_room {U e : TypeId} {i : TypeInfo} (hu : P.underlying U = some (.slice e)) (hi : P.info? e = some i) {w : World} {bl off n c q : Nat} {v : Value} {news : List Value} {vs : Array Value} (hsrc : Src P i.size U v q news w)
    (ev : w.heap[bl]? = some (.cells vs e (0, 0))) (hroom : n + q ≤ c) (hfit : off + c * i.size ≤ vs.size) :
    (Builtin.append_ #[U, U] ty #[.slice (some ⟨bl, off, none⟩) n c, v]).run P w = .ok (.slice (some ⟨bl, off, none⟩) (n + q) c) (w.setRow bl (vs.toList.take (off + n * i.size) ++ news ++ vs.toList.drop (off + n * i.size + news.length)).toArray) := by
  have hnl : news.length = q * i.size := hsrc.newsLen
  have hfit2 : off + n * i.size + 0 + news.length ≤ vs.size := by
    rw [hnl]
    have := Nat.mul_le_mul_right i.size hroom
    rw [Nat.add_mul] at this; omega
  have hst := run_storeCells_at P bl (off + n * i.size) e news 0 vs w ev hfit2 hsrc.one
  simp only [Nat.add_zero] at hst
  have ha : (⟨bl, off, none⟩ : Addr).add (n * i.size) = ⟨bl, off + n * i.size, none⟩ := addr_add _ _ _
  rcases hsrc.kind with ⟨e', hk⟩ | hk <;> simp [Builtin.append_, run_underlying hu, sizeOf, typeInfo, hi, hsrc.len, hroom, hsrc.cells, ha, hst]
theorem app_zero {U e : TypeId} {i : TypeInfo} (hu : P.underlying U = some (.slice e)) (hi : P.info? e = some i) {w : World} {b : Option Addr} {n c : Nat} {v : Value} (hsrc : Src P i.size U v 0 [] w) (hroom : n ≤ c) :
    (Builtin.append_ #[U, U] ty #[.slice b n c, v]).run P w = .ok (.slice b n c) w := by
  rcases hsrc.kind with ⟨e', hk⟩ | hk <;> cases b <;> simp [Builtin.append_, run_underlying hu, sizeOf, typeInfo, hi, hsrc.len, hroom, hsrc.cells, storeCells]
theorem old_cells {w : World} {bl off n c sz : Nat} {U : TypeId} {vs : Array Value} (ev : w.heap[bl]? = some (.cells vs U (0, 0))) (hle : off + n * sz ≤ vs.size) :
    (Builtin.firstCells sz n (.slice (some ⟨bl, off, none⟩) n c)).run P w.drew = .ok ((vs.toList.drop off).take (n * sz)).toArray w.drew := by
  have := run_loadCells_list (P := P) w.drew ⟨bl, off, none⟩ ((vs.toList.drop off).take (n * sz)) (fun j u hj => by
    rw [addr_add]
    show w.cell? _ = _
    rw [List.getElem?_take] at hj
    split at hj
    · rw [cells_of_box ev, ← hj]; simp
    · cases hj)
  have hl : ((vs.toList.drop off).take (n * sz)).length = n * sz := by simp; omega
  rw [hl] at this
  exact this
theorem pre_reads {A Z : Nat → Prop} {w : World} {β : Nat → Pl} {vs : Array Value} {us : List AV} (hr : RdAs A Z w β (vs.toList.take us.length) us) {off n : Nat} (hle : off + n ≤ us.length) : RdAs A Z w β ((vs.toList.drop off).take n) ((us.drop off).take n) := by
  have h := (hr.drop off).take n
  have e : ((vs.toList.take us.length).drop off).take n = (vs.toList.drop off).take n := by
    rw [List.drop_take, List.take_take, Nat.min_eq_left (by omega)]
  rw [e] at h; exact h
theorem s_app (_hT : TOk (TS m L T)) (hO : HOk H) (hL : HLt N H) {U e : TypeId} {sz by_ : Nat} {zs : List AV} {y z : Operand} {xo yo : XO} {x : XV} (hU : elA P U = some (e, sz, by_, zs)) (h1 : cO m y = some xo) (h2 : cO m z = some yo)
    (h : opApp e sz by_ xo yo call L T N H = some (.mk x N' H' g)) : Good P ops ⟨dst, .call ⟨.builtin .append, #[y, z], #[U, U]⟩, ty, pos, af, gd⟩ (TS m L T) N H x N' H' g := by
  obtain ⟨v, hv, h⟩ := oO_some h
  obtain ⟨v2, hv2, h⟩ := oO_some h
  obtain ⟨a, q1, h3⟩ := xC_some h
  obtain ⟨b, q2, h4⟩ := xC_some h3
  subst q1 q2
  obtain ⟨hu, i, zv, hi, hz, hsz, hby, hzl, h0, hzr⟩ := elA_spec hU
  subst hsz
  obtain ⟨q, ys, hF, hyo, hyl, hsrc, hsrc0⟩ := srcX_some hu hO h4
  have hzs : zv.cells.size = i.size := by
    have h1 := (hzr (fun _ => False) (fun _ => False) default (fun _ => ⟨0, 0⟩)).1
    rw [hzl] at h1; simpa using h1
  have hmy : y ∈ (Op.call ⟨.builtin .append, #[y, z], #[U, U]⟩).operands := by simp [Op.operands, Call.operands]
  have hmz : z ∈ (Op.call ⟨.builtin .append, #[y, z], #[U, U]⟩).operands := by simp [Op.operands, Call.operands]
  rw [bI_eq] at hF
  split at hF
  · rename_i hq
    have hq := Nat.eq_of_beq_eq_true hq
    subst hq
    rcases aS_some hF with ⟨k, off, n, lo, ex, m', rfl, h5⟩ | ⟨rfl, h5⟩ | ⟨rfl, h5⟩
    · obtain ⟨rfl, rfl, rfl, rfl⟩ := pR_some h5
      refine good_pure hO hL trivial fun A Z w β ac ht => ?_
      have hr := cO_reads (o := ⟨dst, .call ⟨.builtin .append, #[y, z], #[U, U]⟩, ty, pos, af, gd⟩) hmy h1 hv ht
      obtain ⟨c, e1, hk, c1, c2, c3, c4, c5⟩ := RdA.s_eq hr
      have hs := hsrc0 rfl A Z β w _ (cO_reads (o := ⟨dst, .call ⟨.builtin .append, #[y, z], #[U, U]⟩, ty, pos, af, gd⟩) hmz h2 hv2 ht)
      refine ⟨ac.eval y, app_exec ?_, hr⟩
      rw [e1]
      exact app_zero hu hi hs (by omega)
    · obtain ⟨rfl, rfl, rfl, rfl⟩ := pR_some h5
      refine good_pure hO hL trivial fun A Z w β ac ht => ?_
      have hr := cO_reads (o := ⟨dst, .call ⟨.builtin .append, #[y, z], #[U, U]⟩, ty, pos, af, gd⟩) hmy h1 hv ht
      have e1 := RdA.z_eq hr
      have hs := hsrc0 rfl A Z β w _ (cO_reads (o := ⟨dst, .call ⟨.builtin .append, #[y, z], #[U, U]⟩, ty, pos, af, gd⟩) hmz h2 hv2 ht)
      refine ⟨ac.eval y, app_exec ?_, hr⟩
      rw [e1]
      exact app_zero hu hi hs (Nat.le_refl _)
    · cases h5
  · rename_i hq
    have hq0 : 0 < q := by
      rcases Nat.eq_zero_or_pos q with e | e
      · subst e; exact absurd rfl hq
      · exact e
    have hNA : ∀ {A : Nat → Prop}, (∀ k, A k → ¬ (N ≤ k ∧ k < N + 1)) → ∀ k, A k → k ≠ N := fun h k hk e => h k hk ⟨by omega, by omega⟩
    rcases aS_some hF with ⟨k, off, n, lo, ex, m', rfl, h5⟩ | ⟨rfl, h5⟩ | ⟨rfl, h5⟩
    · obtain ⟨bx, hb, h6⟩ := oO_some h5
      obtain ⟨g1, h7⟩ := bT_some h6
      obtain ⟨g2, h8⟩ := bT_some h7
      obtain ⟨g3, h9⟩ := bT_some h8
      obtain ⟨g6, h10⟩ := bT_some h9
      obtain ⟨g4, hfin⟩ := bT_some h10
      have g1 := Nat.eq_of_beq_eq_true g1
      have g2 := Nat.eq_of_beq_eq_true g2
      rw [ble_iff] at g3 g4 g6
      have h63 : n + q ≤ maxLen := Nat.le_trans (show n + q ≤ 1000000 from g6) (by decide)
      have g3 : (n + q) * by_ ≤ 140737488355328 := g3
      have g4 : off + n * i.size ≤ bx.n := g4
      obtain ⟨hb1, hb2⟩ := hO k bx hb
      have hkk := HS_get hb
      rw [g1] at hkk
      subst g2
      have hlb := hL k bx hb
      have e5 : (n + q) * i.size = n * i.size + q * i.size := Nat.add_mul _ _ _
      have g4' : off + n * i.size ≤ bx.r.flat.length := by rw [← hb2]; exact g4
      rw [bI_eq] at hfin
      split at hfin
      · rename_i hroom
        rw [ble_iff] at hroom
        have hroom : n + q ≤ lo := hroom
        have key : ∀ (nb : Nat) (nr : Rp), nr.ok → nb = nr.flat.length → nr.flat = bx.r.flat.take (off + n * i.size) ++ ys.flat ++ bx.r.flat.drop (off + (n + q) * i.size) →
            Good P ops ⟨dst, .call ⟨.builtin .append, #[y, z], #[U, U]⟩, ty, pos, af, gd⟩ (TS m L T) N H (.c (.s k off (n + q) lo ex i.size)) N (H.set ⟨e, nb, nr⟩ k) (.c H (H.set ⟨e, nb, nr⟩ k)) := by
          intro nb nr hnr hnb hnf
          refine good_c trivial (HOk_set hO hnr hnb) (HLt_set hL (Nat.le_refl _) hlb) (Nat.le_refl _) fun V A β ac w hA hm ht => ?_
          obtain ⟨c, e1, hk, c1, c2, c3, c4, c5⟩ := RdA.s_eq (cO_reads (o := ⟨dst, .call ⟨.builtin .append, #[y, z], #[U, U]⟩, ty, pos, af, gd⟩) hmy h1 hv ht)
          obtain ⟨news, hs, hnr2⟩ := hsrc V A β w _ hm (cO_reads (o := ⟨dst, .call ⟨.builtin .append, #[y, z], #[U, U]⟩, ty, pos, af, gd⟩) hmz h2 hv2 ht)
          obtain ⟨vs, ev, hvz, hvl, hrd⟩ := hm.box k e bx.r.flat hkk
          have hcq : (n + q) * i.size ≤ c * i.size := Nat.mul_le_mul_right _ (by omega)
          have hrun := app_room (ty := ty) hu hi hs ev (n := n) (c := c) (off := off) (by omega) (by omega)
          have hnl : news.length = q * i.size := hs.newsLen
          have hex := app_exec (dst := dst) (pos := pos) (af := af) (gd := gd) (a := ac) (y := y) (z := z) (by rw [e1]; exact hrun)
          unfold Gives
          rw [hex]
          have hpre : off + n * i.size + q * i.size ≤ vs.size := by omega
          obtain ⟨m1, m2⟩ := mem_store (N := N) (cs := nr.flat) hm hkk (vs := (vs.toList.take (off + n * i.size) ++ news ++ vs.toList.drop (off + n * i.size + news.length)).toArray) (by simp; omega) (setRow_heap_set ev) rfl rfl rfl
            (by rw [hnf]; simp; omega) (by
              rw [hnf]
              have hw := RdAs.append (RdAs.append (pre_reads (off := 0) (n := off + n * i.size) hrd (by omega)) hnr2) (hrd.drop (off + (n + q) * i.size))
              have e4 : ((vs.toList.take (off + n * i.size) ++ news ++ vs.toList.drop (off + n * i.size + news.length)).toArray).toList.take (bx.r.flat.take (off + n * i.size) ++ ys.flat ++ bx.r.flat.drop (off + (n + q) * i.size)).length = (vs.toList.drop 0).take (off + n * i.size) ++ news ++ (vs.toList.take bx.r.flat.length).drop (off + (n + q) * i.size) := by
                show (vs.toList.take (off + n * i.size) ++ news ++ vs.toList.drop (off + n * i.size + news.length)).take _ = _
                rw [List.take_append, List.take_of_length_le (l := vs.toList.take (off + n * i.size) ++ news) (by simp; omega), List.drop_take, List.drop_zero, show off + n * i.size + news.length = off + (n + q) * i.size by omega]
                congr 2
                simp; omega
              rw [e4]; simpa using hw)
          refine ⟨A, β, fun _ h => h, fun _ h => .inl h, m1.sub (fun j c hj => ?_), m2.less (fun j c hj => ?_), ?_⟩
          · rcases HS_set hj with ⟨r1, r2⟩ | ⟨r1, r2⟩
            · show (if j = k then some (e, nr.flat) else HS H j) = some c
              rw [if_pos r1, r2]
            · show (if j = k then some (e, nr.flat) else HS H j) = some c
              rw [if_neg r1]; exact r2
          · rcases HS_set hj with ⟨r1, r2⟩ | ⟨r1, r2⟩
            · show (if j = k then some (e, nr.flat) else HS H j) = some c
              rw [if_pos r1, r2]
            · show (if j = k then some (e, nr.flat) else HS H j) = some c
              rw [if_neg r1]; exact r2
          · exact RdA.s k off (n + q) lo ex i.size c hk hroom c2 c3 c4 c5
        rw [bI_eq] at hfin
        split at hfin
        · rename_i hin
          rw [ble_iff] at hin
          have hin : off + (n + q) * i.size ≤ bx.n := hin
          obtain ⟨rfl, rfl, rfl, rfl⟩ := cR_some hfin
          obtain ⟨u1, u2⟩ := updR_spec hyo bx.r bx.n (off + n * i.size) (q * i.size) hb1 hb2 hyl.symm (by omega)
          exact key bx.n (updR ys bx.r bx.n (off + n * i.size) (q * i.size)) u1 (by rw [u2, hb2]; simp; omega) (by rw [u2, show off + n * i.size + q * i.size = off + (n + q) * i.size by omega])
        · rename_i hin
          rw [ble_iff] at hin
          have hin : ¬ off + (n + q) * i.size ≤ bx.n := hin
          obtain ⟨rfl, rfl, rfl, rfl⟩ := cR_some hfin
          obtain ⟨s1, s2⟩ := subR_spec bx.r bx.n 0 (off + n * i.size) hb1 hb2 (by omega)
          obtain ⟨j1, j2⟩ := joinR_spec (ls := off + n * i.size) (l := subR bx.r bx.n 0 (off + n * i.size)) (r := ys) (by rw [s2]; simp; omega) s1 hyo
          refine key (off + (n + q) * i.size) (joinR (off + n * i.size) (subR bx.r bx.n 0 (off + n * i.size)) ys) j1 (by rw [j2, s2]; simp; omega) (by rw [j2, s2, List.drop_zero, List.drop_of_length_le (i := off + (n + q) * i.size) (by omega)]; simp)
      · rename_i hroom
        rw [ble_iff] at hroom
        have hroom : ¬ n + q ≤ lo := hroom
        rw [bI_eq] at hfin
        split at hfin
        · -- it grows, for sure
          rename_i hex
          obtain ⟨rfl, rfl, rfl, rfl⟩ := cR_some hfin
          obtain ⟨s1, s2⟩ := subR_spec bx.r bx.n off (n * i.size) hb1 hb2 g4
          obtain ⟨j1, j2⟩ := joinR_spec (ls := n * i.size) (l := subR bx.r bx.n off (n * i.size)) (r := ys) (by rw [s2]; simp; omega) s1 hyo
          have jl : (n + q) * i.size = (joinR (n * i.size) (subR bx.r bx.n off (n * i.size)) ys).flat.length := by rw [j2, s2]; simp; omega
          refine good_c trivial (HOk_set hO j1 jl) (HLt_set hL (Nat.le_succ _) (Nat.lt_succ_self _)) (Nat.le_succ _) fun V A β ac w hA hm ht => ?_
          obtain ⟨c, e1, hk, c1, c2, c3, c4, c5⟩ := RdA.s_eq (cO_reads (o := ⟨dst, .call ⟨.builtin .append, #[y, z], #[U, U]⟩, ty, pos, af, gd⟩) hmy h1 hv ht)
          obtain ⟨news, hs, hnr2⟩ := hsrc V A β w _ hm (cO_reads (o := ⟨dst, .call ⟨.builtin .append, #[y, z], #[U, U]⟩, ty, pos, af, gd⟩) hmz h2 hv2 ht)
          obtain ⟨vs, ev, hvz, hvl, hrd⟩ := hm.box k e bx.r.flat hkk
          have hc := c4 hex
          have hgrow : c < n + q := by omega
          have hrun := run_append_grow_src (P := P) (w := w) U U ty e i zv hu hi hz (some ⟨(β k).b, off, none⟩) n c _ (old_cells (c := c) ev (by omega)) (ac.eval z) q news hs hgrow (by have : maxLen = 9223372036854775807 := rfl; omega) (growslice_fits hgrow (by rw [hby]; exact g3))
          have hol := pre_reads hrd (off := off) (n := n * i.size) g4'
          have hnl : news.length = q * i.size := hs.newsLen
          have hll : (((vs.toList.drop off).take (n * i.size)) ++ news).length = (n + q) * i.size := by rw [List.length_append, hnl, hol.1]; simp; omega
          obtain ⟨A', β', w1, w2, w3, w4, w5⟩ := grow_new (N := N) (e := e) (z := zv) hm (hNA hA) hzs hll (hol.append hnr2) (grownCap_ge w (n + q) c e) (grownCap_le_maxLen w (n + q) c e h63)
          have hex2 := app_exec (dst := dst) (pos := pos) (af := af) (gd := gd) (a := ac) (y := y) (z := z) (by rw [e1]; exact hrun)
          unfold Gives
          rw [hex2]
          have hjf : (joinR (n * i.size) (subR bx.r bx.n off (n * i.size)) ys).flat = (bx.r.flat.drop off).take (n * i.size) ++ ys.flat := by rw [j2, s2]
          have hsub : ∀ j c, HS (H.set ⟨e, (n + q) * i.size, joinR (n * i.size) (subR bx.r bx.n off (n * i.size)) ys⟩ N) j = some c → (if j = N then some (e, (bx.r.flat.drop off).take (n * i.size) ++ ys.flat) else HS H j) = some c := by
            intro j c hj
            rcases HS_set hj with ⟨r1, r2⟩ | ⟨r1, r2⟩
            · rw [if_pos r1, r2, hjf]
            · rw [if_neg r1]; exact r2
          exact ⟨A', β', w1, w2, w3.sub hsub, w4.less hsub, w5 _ _⟩
        · -- not known
          obtain ⟨hoff, hfin2⟩ := bT_some hfin
          have hoff := Nat.eq_of_beq_eq_true hoff
          subst hoff
          obtain ⟨rfl, rfl, rfl, rfl⟩ := cR_some hfin2
          obtain ⟨s1, s2⟩ := subR_spec bx.r bx.n 0 (n * i.size) hb1 hb2 g4
          obtain ⟨j1, j2⟩ := joinR_spec (ls := n * i.size) (l := subR bx.r bx.n 0 (n * i.size)) (r := ys) (by rw [s2]; simp; omega) s1 hyo
          have jl : (n + q) * i.size = (joinR (n * i.size) (subR bx.r bx.n 0 (n * i.size)) ys).flat.length := by rw [j2, s2]; simp; omega
          have hod : HOk (H.del k) := fun j b' hj => hO j b' (Tr.del_get H k j hj).2
          have hld : HLt N (H.del k) := fun j b' hj => hL j b' (Tr.del_get H k j hj).2
          have hds : ∀ j c, HS (H.del k) j = some c → j ≠ k ∧ HS H j = some c := by
            intro j c hj
            unfold HS at hj ⊢
            cases h9 : (H.del k).get j with
            | none => rw [h9] at hj; cases hj
            | some b' =>
              rw [h9] at hj
              injection hj with hj
              obtain ⟨r1, r2⟩ := Tr.del_get H k j h9
              refine ⟨r1, ?_⟩
              rw [r2, ← hj]; rfl
          have hjf : (joinR (n * i.size) (subR bx.r bx.n 0 (n * i.size)) ys).flat = (bx.r.flat.drop 0).take (n * i.size) ++ ys.flat := by rw [j2, s2]
          refine good_c trivial (HOk_set hod j1 jl) (HLt_set hld (Nat.le_succ _) (Nat.lt_succ_self _)) (Nat.le_succ _) fun V A β ac w hA hm ht => ?_
          obtain ⟨c, e1, hk, c1, c2, c3, c4, c5⟩ := RdA.s_eq (cO_reads (o := ⟨dst, .call ⟨.builtin .append, #[y, z], #[U, U]⟩, ty, pos, af, gd⟩) hmy h1 hv ht)
          obtain ⟨news, hs, hnr2⟩ := hsrc V A β w _ hm (cO_reads (o := ⟨dst, .call ⟨.builtin .append, #[y, z], #[U, U]⟩, ty, pos, af, gd⟩) hmz h2 hv2 ht)
          obtain ⟨vs, ev, hvz, hvl, hrd⟩ := hm.box k e bx.r.flat hkk
          have hnl : news.length = q * i.size := hs.newsLen
          have hol := pre_reads hrd (off := 0) (n := n * i.size) g4'
          have hkN : k ≠ N := by omega
          by_cases hc : n + q ≤ c
          · -- in place: the box goes by a new name
            have hcq : (n + q) * i.size ≤ c * i.size := Nat.mul_le_mul_right _ hc
            have hrun := app_room (ty := ty) hu hi hs ev (n := n) (c := c) (off := 0) hc (by omega)
            have hex2 := app_exec (dst := dst) (pos := pos) (af := af) (gd := gd) (a := ac) (y := y) (z := z) (by rw [e1]; exact hrun)
            unfold Gives
            rw [hex2]
            simp only [Nat.zero_add]
            obtain ⟨m1, m2⟩ := mem_store (N := N) (cs := (bx.r.flat.drop 0).take (n * i.size) ++ ys.flat) hm hkk (vs := (vs.toList.take (n * i.size) ++ news ++ vs.toList.drop (n * i.size + news.length)).toArray) (by simp; omega) (setRow_heap_set ev) rfl rfl rfl
              (by simp; omega) (by
                have hw := hol.append hnr2
                have e4 : ((vs.toList.take (n * i.size) ++ news ++ vs.toList.drop (n * i.size + news.length)).toArray).toList.take ((bx.r.flat.drop 0).take (n * i.size) ++ ys.flat).length = (vs.toList.drop 0).take (n * i.size) ++ news := by
                  show (vs.toList.take (n * i.size) ++ news ++ vs.toList.drop (n * i.size + news.length)).take _ = _
                  rw [List.take_append_of_le_length (by simp; omega), List.take_of_length_le (by simp; omega), List.drop_zero]
                rw [e4]; exact hw)
            obtain ⟨n1, n2⟩ := mem_ren (N := N) m1 (hNA hA) (k0 := k) (U := e) (cs := (bx.r.flat.drop 0).take (n * i.size) ++ ys.flat) (if_pos rfl)
            have hsub : ∀ j d, HS ((H.del k).set ⟨e, (n + q) * i.size, joinR (n * i.size) (subR bx.r bx.n 0 (n * i.size)) ys⟩ N) j = some d →
                (if j = N then some (e, (bx.r.flat.drop 0).take (n * i.size) ++ ys.flat) else if j = k then none else if j = k then some (e, (bx.r.flat.drop 0).take (n * i.size) ++ ys.flat) else HS H j) = some d := by
              intro j d hj
              rcases HS_set hj with ⟨r1, r2⟩ | ⟨r1, r2⟩
              · rw [if_pos r1, r2, hjf]
              · obtain ⟨r3, r4⟩ := hds j d r2
                rw [if_neg r1, if_neg r3, if_neg r3]; exact r4
            refine ⟨_, _, fun j hj => .inl hj, fun j hj => ?_, n1.sub hsub, ((m2.wide (Nat.le_refl _) (Nat.le_succ _)).trans (fun _ h => h) n2).less hsub, ?_⟩
            · rcases hj with hj | hj
              · exact .inl hj
              · exact .inr ⟨Nat.le_of_eq hj.symm, by show j < N + 1; omega⟩
            · have hrs := RdA.s (A := fun j => A j ∨ j = N) (Z := Zs V (HS ((H.del k).set ⟨e, (n + q) * i.size, joinR (n * i.size) (subR bx.r bx.n 0 (n * i.size)) ys⟩ N)) (fun j => if j = N then β k else β j))
                (w := w.setRow (β k).b (vs.toList.take (n * i.size) ++ news ++ vs.toList.drop (n * i.size + news.length)).toArray) (β := fun j => if j = N then β k else β j) N 0 (n + q) (n + q) false i.size c (.inr rfl) (Nat.le_refl _) hc c3 (fun e => by cases e) (by rw [if_pos rfl]; exact c5)
              rw [if_pos rfl] at hrs
              exact hrs
          · have hgrow : c < n + q := by omega
            have hrun := run_append_grow_src (P := P) (w := w) U U ty e i zv hu hi hz (some ⟨(β k).b, 0, none⟩) n c _ (old_cells (c := c) ev (by omega)) (ac.eval z) q news hs hgrow (by have : maxLen = 9223372036854775807 := rfl; omega) (growslice_fits hgrow (by rw [hby]; exact g3))
            have hll : (((vs.toList.drop 0).take (n * i.size)) ++ news).length = (n + q) * i.size := by rw [List.length_append, hnl, hol.1]; simp; omega
            obtain ⟨A', β', w1, w2, w3, w4, w5⟩ := grow_new (N := N) (e := e) (z := zv) hm (hNA hA) hzs hll (hol.append hnr2) (grownCap_ge w (n + q) c e) (grownCap_le_maxLen w (n + q) c e h63)
            have hex2 := app_exec (dst := dst) (pos := pos) (af := af) (gd := gd) (a := ac) (y := y) (z := z) (by rw [e1]; exact hrun)
            unfold Gives
            rw [hex2]
            have hsub : ∀ j d, HS ((H.del k).set ⟨e, (n + q) * i.size, joinR (n * i.size) (subR bx.r bx.n 0 (n * i.size)) ys⟩ N) j = some d → (if j = N then some (e, (bx.r.flat.drop 0).take (n * i.size) ++ ys.flat) else HS H j) = some d := by
              intro j d hj
              rcases HS_set hj with ⟨r1, r2⟩ | ⟨r1, r2⟩
              · rw [if_pos r1, r2, hjf]
              · rw [if_neg r1]; exact (hds j d r2).2
            exact ⟨A', β', w1, w2, w3.sub hsub, w4.less hsub, w5 _ _⟩
    · -- onto the nil slice
      obtain ⟨g3, h6⟩ := bT_some h5
      obtain ⟨g6, hfin⟩ := bT_some h6
      rw [ble_iff] at g3 g6
      have g3 : q * by_ ≤ 140737488355328 := g3
      have h63 : 0 + q ≤ maxLen := by rw [Nat.zero_add]; exact Nat.le_trans g6 (by decide)
      obtain ⟨rfl, rfl, rfl, rfl⟩ := cR_some hfin
      refine good_c trivial (HOk_set hO hyo hyl.symm) (HLt_set hL (Nat.le_succ _) (Nat.lt_succ_self _)) (Nat.le_succ _) fun V A β ac w hA hm ht => ?_
      have e1 := RdA.z_eq (cO_reads (o := ⟨dst, .call ⟨.builtin .append, #[y, z], #[U, U]⟩, ty, pos, af, gd⟩) hmy h1 hv ht)
      obtain ⟨news, hs, hnr2⟩ := hsrc V A β w _ hm (cO_reads (o := ⟨dst, .call ⟨.builtin .append, #[y, z], #[U, U]⟩, ty, pos, af, gd⟩) hmz h2 hv2 ht)
      have hnl : news.length = q * i.size := hs.newsLen
      have hold : (Builtin.firstCells i.size 0 (.slice none 0 0)).run P w.drew = .ok ([] : List Value).toArray w.drew := rfl
      have hgrow : 0 < 0 + q := by omega
      have hrun := run_append_grow_src (P := P) (w := w) U U ty e i zv hu hi hz none 0 0 _ hold (ac.eval z) q news hs hgrow (by have : maxLen = 9223372036854775807 := rfl; omega) (growslice_fits hgrow (by rw [hby, Nat.zero_add]; exact g3))
      obtain ⟨A', β', w1, w2, w3, w4, w5⟩ := grow_new (N := N) (e := e) (z := zv) (n := 0) (q := q) (olds := []) (news := news) hm (hNA hA) hzs (by simp [hnl]) (by simpa using hnr2) (grownCap_ge w (0 + q) 0 e) (grownCap_le_maxLen w (0 + q) 0 e h63)
      have hex2 := app_exec (dst := dst) (pos := pos) (af := af) (gd := gd) (a := ac) (y := y) (z := z) (by rw [e1]; exact hrun)
      unfold Gives
      rw [hex2]
      have hsub : ∀ j d, HS (H.set ⟨e, q * i.size, ys⟩ N) j = some d → (if j = N then some (e, ys.flat) else HS H j) = some d := by
        intro j d hj
        rcases HS_set hj with ⟨r1, r2⟩ | ⟨r1, r2⟩
        · rw [if_pos r1, r2]
        · rw [if_neg r1]; exact r2
      refine ⟨A', β', w1, w2, w3.sub hsub, w4.less hsub, ?_⟩
      show RdA A' _ _ β' _ (.s N 0 q q false i.size)
      rw [show AV.s N 0 q q false i.size = AV.s N 0 (0 + q) (0 + q) false i.size by rw [Nat.zero_add]]
      exact w5 _ _
    · cases h5
end
section
variable {P : Program} {ops : Array Oper} {TT : TX} {m N : Nat} {L : LX} {T : Tr XV} {H : Tr Bx}
variable {N' : Nat} {H' : Tr Bx} {g : Lg} {call : CallX}
variable {dst : Option Nat} {ty : TypeId} {pos : String} {af : Array Edge} {gd : Option (Nat × Bool)}
theorem run_app_zeros {U W e : TypeId} {i : TypeInfo} {z : Value} {kk k : IntKind} (hu : P.underlying U = some (.slice e)) (hW : P.underlying W = some (.int kk)) (hi : P.info? e = some i) (hz : i.zero = some z) (_hsz : z.cells.size = i.size) (h0 : 0 < i.size) {w : World} {q : Nat}
    (hq : 0 < q) (hq2 : q ≤ 1000000) (hb : q * i.bytes ≤ 140737488355328) :
    (Builtin.append_ #[U, W] ty #[.slice none 0 0, .int k (q : Int)]).run P w =
      .ok (.slice (some ⟨w.heap.size, 0, none⟩) q (grownCap w q 0 e)) (w.drew.alloc (.cells (([] ++ (Builtin.zeroCells z.cells q).toList).toArray ++ Builtin.zeroCells z.cells (grownCap w q 0 e - q)) e)) := by
  have hw : IntKind.i64.wrap (q : Int) = (q : Int) := by unfold IntKind.wrap; simp [IntKind.bits, IntKind.signed]; omega
  have hl : ¬ ((q : Int) < 0) := by omega
  have hbb : ¬ (281474976710656 < (q : Int) * (i.bytes : Int)) := by
    have h2 : ((q * i.bytes : Nat) : Int) ≤ 140737488355328 := Int.ofNat_le.2 hb
    rw [Int.natCast_mul] at h2; omega
  have hn0 : ¬ (q ≤ 0) := by omega
  have hqs : ¬ (q * i.size = 0) := by have := Nat.mul_pos hq h0; omega
  have hcap : Builtin.nextslicecap q 0 = q := by unfold Builtin.nextslicecap; rw [if_pos (by omega)]
  have hb2 : ¬ (281474976710656 < q * i.bytes) := by omega
  have hmax : ¬ ((9223372036854775807 : Int) < (q : Int)) := by omega
  have hq3 : q ≠ 0 := by omega
  have hs3 : i.size ≠ 0 := by omega
  simp [Builtin.append_, run_underlying hu, run_underlying hW, sizeOf, typeInfo, zeroValue, hi, hz, asInt, asIntOf, hw, hl, hbb, hqs, hcap, hb2, hmax, Question.forced, newRow, grownCap, Builtin.firstCells, hq3]
theorem app_exec2 {U W : TypeId} {y z : Operand} {a : Act} {w w' : World} {v : Value} (h : (Builtin.append_ #[U, W] ty #[a.eval y, a.eval z]).run P w = .ok v w') : (execOp a.eval ⟨dst, .call ⟨.builtin .append, #[y, z], #[U, W]⟩, ty, pos, af, gd⟩).run P w = .ok (.value v) w' := by
  simp only [execOp, resolve, invoke, builtin, Sem.run_bind, Sem.run_pure, Result.andThen_ok, List.map_toArray, List.map_cons, List.map_nil]
  rw [h]
  rfl
theorem s_apz (_hT : TOk (TS m L T)) (hO : HOk H) (hL : HLt N H) {U W e : TypeId} {sz by_ : Nat} {zs : List AV} {kk : IntKind} {y z : Operand} {xo yo : XO} {x : XV} (hU : elA P U = some (e, sz, by_, zs)) (hW : ikA P W = some kk) (h1 : cO m y = some xo) (h2 : cO m z = some yo)
    (h : opApz e sz by_ (ofL zs) xo yo call L T N H = some (.mk x N' H' g)) : Good P ops ⟨dst, .call ⟨.builtin .append, #[y, z], #[U, W]⟩, ty, pos, af, gd⟩ (TS m L T) N H x N' H' g := by
  obtain ⟨v, hv, h⟩ := oO_some h
  obtain ⟨v2, hv2, h⟩ := oO_some h
  obtain ⟨a, q1, h⟩ := xC_some h
  obtain ⟨kb, q, q2, h⟩ := xN_some h
  subst q1 q2
  obtain ⟨hu, i, zv, hi, hz, hsz, hby, hzl, h0, hzr⟩ := elA_spec hU
  have hw : P.underlying W = some (.int kk) := by
    unfold ikA at hW
    split at hW
    · rename_i k e1; injection hW with hW; subst hW; exact e1
    · cases hW
  rcases aS_some h with ⟨k, off, n, lo, ex, m', rfl, h5⟩ | ⟨rfl, h5⟩ | ⟨rfl, h5⟩
  · cases h5
  · obtain ⟨g1, h6⟩ := bT_some h5
    obtain ⟨g2, h7⟩ := bT_some h6
    obtain ⟨g3, h8⟩ := bT_some h7
    rw [blt_iff] at g1
    rw [ble_iff] at g2 g3
    have g2 : q * by_ ≤ 140737488355328 := g2
    have hzs : zv.cells.size = i.size := by
      have h1 := (hzr (fun _ => False) (fun _ => False) default (fun _ => ⟨0, 0⟩)).1
      rw [hzl] at h1; rw [hsz]; simpa using h1
    obtain ⟨z1, z2⟩ := ofL_spec zs
    obtain ⟨r1, r2⟩ := repR_spec (m := sz) (z := ofL zs) (by rw [z2, hzl]) z1 q
    have r2' : (repR sz (ofL zs) q).flat = repA zs q := by rw [r2, z2]
    have hlen : q * sz = (repR sz (ofL zs) q).flat.length := by rw [r2', repA_len, hzl]
    have h63 : 0 + q ≤ maxLen := by rw [Nat.zero_add]; exact Nat.le_trans g3 (by decide)
    obtain ⟨rfl, rfl, rfl, rfl⟩ := cR_some h8
    have hNA : ∀ {A : Nat → Prop}, (∀ k, A k → ¬ (N ≤ k ∧ k < N + 1)) → ∀ k, A k → k ≠ N := fun h k hk e => h k hk ⟨by omega, by omega⟩
    refine good_c trivial (HOk_set hO r1 hlen) (HLt_set hL (Nat.le_succ _) (Nat.lt_succ_self _)) (Nat.le_succ _) fun V A β ac w hA hm ht => ?_
    have e1 := RdA.z_eq (cO_reads (o := ⟨dst, .call ⟨.builtin .append, #[y, z], #[U, W]⟩, ty, pos, af, gd⟩) (by simp [Op.operands, Call.operands]) h1 hv ht)
    have e2 : ac.eval z = .int kb (q : Int) := RdA.i_eq (cO_reads (o := ⟨dst, .call ⟨.builtin .append, #[y, z], #[U, W]⟩, ty, pos, af, gd⟩) (by simp [Op.operands, Call.operands]) h2 hv2 ht)
    have hrun := run_app_zeros (ty := ty) (w := w) (k := kb) hu hw hi hz hzs (by omega) g1 g3 (by rw [hby]; exact g2)
    have hrow := zero_row hzl (hzr A (Zs V (HS H) β) w β) q
    obtain ⟨A', β', w1, w2, w3, w4, w5⟩ := grow_new (N := N) (e := e) (z := zv) (n := 0) (q := q) (olds := []) (news := (Builtin.zeroCells zv.cells q).toList) (us := repA zs q) hm (hNA hA) hzs (by simp [Builtin.zeroCells, hzs]) (by
      have e3 : (Builtin.zeroCells zv.cells q).toList = (madeCells zv.cells (q * sz)).toList := by unfold Builtin.zeroCells madeCells; rw [hzs, hsz]
      rw [List.nil_append, e3]
      unfold madeCells
      simpa using hrow) (grownCap_ge w (0 + q) 0 e) (grownCap_le_maxLen w (0 + q) 0 e h63)
    have hex2 := app_exec2 (dst := dst) (pos := pos) (af := af) (gd := gd) (a := ac) (y := y) (z := z) (by rw [e1, e2]; exact hrun)
    unfold Gives
    rw [hex2]
    have hsub : ∀ j d, HS (H.set ⟨e, q * sz, repR sz (ofL zs) q⟩ N) j = some d → (if j = N then some (e, repA zs q) else HS H j) = some d := by
      intro j d hj
      rcases HS_set hj with ⟨r3, r4⟩ | ⟨r3, r4⟩
      · rw [if_pos r3, r4]; exact congrArg (fun l => some (e, l)) r2'.symm
      · rw [if_neg r3]; exact r4
    rw [Nat.zero_add] at w3 w4
    refine ⟨A', β', w1, w2, w3.sub hsub, w4.less hsub, ?_⟩
    show RdA A' _ _ β' _ (.s N 0 q q false sz)
    have := w5 (Zs V (HS (H.set ⟨e, q * sz, repR sz (ofL zs) q⟩ N)) β') (w.drew.alloc (.cells (([] ++ (Builtin.zeroCells zv.cells q).toList).toArray ++ Builtin.zeroCells zv.cells (grownCap w q 0 e - q)) e))
    rw [Nat.zero_add, hsz] at this
    exact this
  · cases h5
end
end Go.Proofs.YthhhlpdbainlaaaGreat
