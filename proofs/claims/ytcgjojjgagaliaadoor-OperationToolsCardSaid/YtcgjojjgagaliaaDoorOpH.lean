/- Layer 28: what operation.Format returns. At most 1000 operations of at most 1000 depths; the table of powers of ten is as its initialiser lays it. -/
import Derived.Test.YtcgjojjgagaliaaDoorOps
import Derived.Test.YtcgjojjgagaliaaDoorOpF
import Derived.Test.YtcgjojjgagaliaaDoorBuilder
import Derived.Test.YtcgjojjgagaliaaDoorItoa
import Derived.Lib.ItoaLen
import Derived.Deep.RegionHeld3
namespace Go.Proofs.YtcgjojjgagaliaaDoor
open Go.RowKit
/-- The table of powers of ten is laid. -/
def Pow (w : World) : Prop := Lib.TabIs Tryd.prog w "internal/strconv.uint64pow10" .u64 Lib.pow10Tab
theorem gpow : Tryd.prog.globalNamed "internal/strconv.uint64pow10" = some 0 := by kernel_rfl
theorem Pow.below {w w' : World} (h : Pow w) (hb : Below w.heap.size w w') : Pow w' := by
  unfold Pow Lib.TabIs at h ⊢
  have hlt : 0 < w.heap.size := by
    unfold World.var? at h
    rw [gpow] at h
    simp only [Option.bind_some] at h
    rcases Nat.lt_or_ge 0 w.heap.size with h' | h'
    · exact h'
    · rw [Array.getElem?_eq_none h'] at h; cases h
  exact var?_below hb gpow hlt h
theorem below_grow (w : World) (k : Nat) (os : Array Obj) : Below w.heap.size w (Sort.grow (w.drewN k) os) :=
  ⟨rfl, rfl, rfl, by simp [Sort.grow], fun i hi => by simp only [Sort.grow]; rw [Array.getElem?_append_left (by simpa using hi)]; rfl⟩
/-- A number's decimal digits, as a string. -/
def dec (n : Int) : ByteArray := ⟨(Lib.itoa n).toArray⟩
def i64b (n : Int) : Prop := -9223372036854775808 ≤ n ∧ n ≤ 9223372036854775807
theorem dec_size (n : Int) (h : i64b n) : (dec n).size ≤ 21 := by
  have := Lib.itoa_length_le n h.1 h.2
  show (Lib.itoa n).toArray.size ≤ 21
  simpa using this
theorem itoa_any (n : Int) (w : World) (h : i64b n) (hp : Pow w) :
    Calls Tryd.prog 28 #[.int .i64 n] w fun e w' => e = .returned (.string (dec n)) ∧ Below w.heap.size w w' :=
  (Tryd.strconv_Itoa n h.1 h.2 w hp).mono fun _ _ ⟨he, k, os, hw⟩ => ⟨he, by rw [hw]; exact below_grow w k os⟩
theorem fint_any (n : Int) (w : World) (h : i64b n) (hp : Pow w) :
    Calls Tryd.prog 29 #[.int .i64 n, .int .i64 10] w fun e w' => e = .returned (.string (dec n)) ∧ Below w.heap.size w w' :=
  (Tryd.strconv_FormatInt_10 n h.1 h.2 w hp).mono fun _ _ ⟨he, k, os, hw⟩ => ⟨he, by rw [hw]; exact below_grow w k os⟩
/-- The builder in block b holds the bytes l. -/
def Bd (B b : Nat) (l : List UInt8) (w : World) : Prop := Lib.IsBuilderF 55 5 B b (Lib.byteCells l) w
theorem Bd.below {B b : Nat} {l : List UInt8} {w w' : World} (h : Bd B b l w) (hb : Below w.heap.size w w') : Bd B b l w' := by
  have lt : ∀ {g : Nat} {o : Obj}, w.heap[g]? = some o → w'.heap[g]? = some o := fun {g o} hg => by
    rcases Nat.lt_or_ge g w.heap.size with h1 | h1
    · exact (hb.block g h1).trans hg
    · rw [Array.getElem?_eq_none h1] at hg; cases hg
  have key : ∀ p, Lib.BuilderAtF 55 5 B b p (Lib.byteCells l) w → Lib.BuilderAtF 55 5 B b p (Lib.byteCells l) w' := fun p hp => by
    obtain ⟨hB, v, hv, ⟨hl, hr⟩, hne⟩ := hp
    refine ⟨hB, v, lt hv, ⟨hl, ?_⟩, hne⟩
    rcases hr with h0 | ⟨g, cap, cur, fz, e1, e2, e3, r⟩
    · exact .inl h0
    · exact .inr ⟨g, cap, cur, fz, e1, e2, lt e3, r⟩
  exact h.elim (fun x => .inl (key _ x)) (fun x => .inr (key _ x))
theorem Bd.lt {B b : Nat} {l : List UInt8} {w : World} (h : Bd B b l w) : b < w.heap.size := by
  have key : ∀ p, Lib.BuilderAtF 55 5 B b p (Lib.byteCells l) w → b < w.heap.size := fun p hp => by
    obtain ⟨hB, v, hv, _⟩ := hp
    rcases Nat.lt_or_ge b w.heap.size with h1 | h1
    · exact h1
    · rw [Array.getElem?_eq_none h1] at hv; cases hv
  exact h.elim (key _) (key _)
theorem write_any (B b : Nat) (l : List UInt8) (s : ByteArray) (w : World) (h : Bd B b l w) (hlen : l.length + s.size ≤ 140737488355328) (hBw : B ≤ w.heap.size) :
    Calls Tryd.prog 27 #[.pointer (some ⟨b, 0, none⟩), .string s] w fun e w' => e = .returned (.tuple #[.int .i64 s.size, .nilIface]) ∧ Bd B b (l ++ s.data.toList) w' ∧ Below B w w' ∧ Lib.OthersKept 5 (some b) w w' :=
  (build_write B b _ s w h (by rw [Lib.byteCells_length]; exact hlen) hBw).mono fun _ _ ⟨he, hb, h1, h2⟩ => ⟨he, .inr (by simpa [Lib.byteCells, Lib.strCells] using hb), h1, h2⟩
theorem string_any (B b : Nat) (l : List UInt8) (w : World) (h : Bd B b l w) (hBw : B ≤ w.heap.size) :
    Calls Tryd.prog 30 #[.pointer (some ⟨b, 0, none⟩)] w fun e w' => e = .returned (.string ⟨l.toArray⟩) ∧ Below B w w' :=
  (build_string B b l w h hBw).mono fun _ _ ⟨he, _, h1, _⟩ => ⟨he, h1⟩
theorem Bk.others {w w' : World} {g b : Nat} {t e : TypeId} {cs : Array Value} (h : Bk w g t cs) (ho : Lib.OthersKept e (some b) w w') (hg : g ≠ b) (ht : t ≠ e) : Bk w' g t cs :=
  ho g _ h (by simpa using hg) (by intro c fz h2; injection h2 with _ h3; exact ht h3)
/-- The name in a line: a question mark where there is none. -/
def nm (k : Int) : ByteArray := if 1 ≤ k ∧ k ≤ 5 then kname k else ⟨#[63]⟩
theorem kname_yes (k : Int) (h : 1 ≤ k ∧ k ≤ 5) : (kname k).toList.isEmpty = false := by
  rcases (show k = 1 ∨ k = 2 ∨ k = 3 ∨ k = 4 ∨ k = 5 from by omega) with h | h | h | h | h <;> subst h <;> decide +kernel
theorem kname_no (k : Int) (h : ¬ (1 ≤ k ∧ k ≤ 5)) : kname k = ⟨#[]⟩ := by
  unfold kname
  rw [if_neg (by omega), if_neg (by omega), if_neg (by omega), if_neg (by omega), if_neg (by omega)]
theorem nm_size (k : Int) : (nm k).size ≤ 6 := by
  unfold nm
  split
  · rename_i h
    rcases (show k = 1 ∨ k = 2 ∨ k = 3 ∨ k = 4 ∨ k = 5 from by omega) with h | h | h | h | h <;> subst h <;> decide +kernel
  · decide +kernel
/-- The head of an operation's line, in the order in which it is put together. -/
def headB (n : ByteArray) (f t l : Int) : ByteArray :=
  n ++ ⟨#[32, 102, 101, 97, 116, 117, 114, 101, 32]⟩ ++ dec f ++ ⟨#[32, 116, 111, 111, 108, 32]⟩ ++ dec t ++ ⟨#[32, 108, 101, 97, 118, 101, 32]⟩ ++ dec l ++ ⟨#[32, 100, 101, 112, 116, 104, 115]⟩
theorem add_str (a b s : ByteArray) (h : a ++ b = s) (hs : a.size + b.size ≤ 9223372036854775807) (w : World) : (Op.stringOp .add a b).run Tryd.prog w = .ok (.string s) w := by
  rw [← h]
  exact run_string_add_sum (P := Tryd.prog) (w := w) a b hs
theorem size_add (a b s : ByteArray) (h : a ++ b = s) : s.size = a.size + b.size := by rw [← h]; exact ByteArray.size_append
def depthsL (ds : List Int) : List UInt8 := ds.flatMap fun d => 32 :: Lib.itoa d
theorem depths_snoc (ds : List Int) (j : Nat) (x : Int) (h : ds[j]? = some x) : depthsL (ds.take (j + 1)) = depthsL (ds.take j) ++ 32 :: Lib.itoa x := by
  unfold depthsL
  rw [take_succ_of h, List.flatMap_append]; simp
def lineL (o : OpR) : List UInt8 := (headB (nm o.kind) o.feat o.tool o.leave).data.toList ++ depthsL o.ds ++ [10]
def textL (os : List OpR) : List UInt8 := os.flatMap lineL
theorem text_snoc {os : List OpR} {k : Nat} {o : OpR} (h : os[k]? = some o) : textL (os.take (k + 1)) = textL (os.take k) ++ lineL o := by
  unfold textL
  rw [take_succ_of h, List.flatMap_append]; simp
/-- What Format asks of an operation: its numbers are int64s, and it has few depths. -/
def Fine (o : OpR) : Prop := i64b o.feat ∧ i64b o.tool ∧ i64b o.leave ∧ (∀ d ∈ o.ds, i64b d) ∧ o.dn ≤ 1000
set_option maxHeartbeats 1000000 in
theorem format_any (A : Option Addr) (n c : Nat) (os : List OpR) (w : World) (ha : RdO w A n os) (hn : n ≤ 1000) (hf : ∀ o ∈ os, Fine o) (hp : Pow w) :
    Calls Tryd.prog 17 #[.slice A n c] w fun e w' => e = .returned (.string ⟨(textL os).toArray⟩) ∧ Below w.heap.size w w' := by
  have hlen := ha.1
  have Hf := Lib.hid hf; clear hf
  go_enter Tryd.func17, Tryd.ntmps17
  go_wp2
  go_loopw [11] (fun i wr => ∃ k : Nat, k ≤ n ∧ i = .int .i64 k ∧ Below w.heap.size w wr ∧ Bd w.heap.size w.heap.size (textL (os.take k)) wr ∧ Hid ((textL (os.take k)).length ≤ k * 30000)) (fun i _ => n - (intOf i).toNat)
  case atStart =>
    refine ⟨0, Nat.zero_le _, rfl, (Below.refl _ _).alloc (Nat.le_refl _) _, .inl ⟨Nat.le_refl _, _, heap_alloc_new w _, ⟨rfl, .inl ⟨rfl, rfl⟩⟩, by simp [Value.ownBlock]⟩, by show _ ≤ _; simp [textL]⟩
  case round =>
    obtain ⟨k, hk, rfl, hbel, hbd, Hl⟩ := hrel
    have hz := hbel.size
    by_cases hlt : k < n
    · obtain ⟨b, off, o, rfl, hb, hoo, hc0, hc1, hc2, hc3, hc4, hds⟩ := (ha.below hbel).at_ hlt
      have hfo := Hf.out o (List.mem_of_getElem? hoo.out)
      have hbk := Bk.new wr 37 #[.int .i64 o.kind, .int .i64 o.feat, .int .i64 o.tool, .slice o.da o.dn o.dc, .int .i64 o.leave]
      have hbd2 := hbd.below ((Below.refl _ _).alloc (Nat.le_refl _) (.cells #[.int .i64 o.kind, .int .i64 o.feat, .int .i64 o.tool, .slice o.da o.dn o.dc, .int .i64 o.leave] 37))
      have hbel2 := hbel.alloc hz (.cells #[.int .i64 o.kind, .int .i64 o.feat, .int .i64 o.tool, .slice o.da o.dn o.dc, .int .i64 o.leave] 37)
      go_wp2_with fail
      refine (kind_any _ _).mono ?_
      rintro e w2 ⟨rfl, hb2⟩
      have hbk3 := hbk.below hb2
      have hbd3 := hbd2.below hb2
      have hbel3 := hbel2.trans (hb2.mono (by simp; omega))
      have hz3 := hbel3.size
      have hltb := hbd.lt
      clear hbk hbd hbd2 hbel2 hb2 hc0 hc1 hc2 hc3 hc4
      have f1 := hbk3.cell 1
      have f2 := hbk3.cell 2
      have f4 := hbk3.cell 4
      simp at f1 f2 f4
      obtain ⟨nmk, hnmk⟩ : ∃ s, nm o.kind = s := ⟨_, rfl⟩
      have Hnm := Lib.hid hnmk
      have hns := nm_size o.kind
      rw [hnmk] at hns; clear hnmk
      by_cases hk5 : 1 ≤ o.kind ∧ o.kind ≤ 5
      · have hne := kname_yes o.kind hk5
        have hkn : Hid (kname o.kind = nmk) := by show _ = _; rw [← Hnm.out, nm, if_pos hk5]
        rw [hkn.out] at hne ⊢
        obtain ⟨hif, hit, hil, hid, hdn⟩ := hfo
        have z1 := dec_size _ hif
        have z2 := dec_size _ hit
        have z3 := dec_size _ hil
        obtain ⟨s1, e1⟩ : ∃ s, nmk ++ (⟨#[32, 102, 101, 97, 116, 117, 114, 101, 32]⟩ : ByteArray) = s := ⟨_, rfl⟩
        obtain ⟨s2, e2⟩ : ∃ s, s1 ++ dec o.feat = s := ⟨_, rfl⟩
        obtain ⟨s3, e3⟩ : ∃ s, s2 ++ (⟨#[32, 116, 111, 111, 108, 32]⟩ : ByteArray) = s := ⟨_, rfl⟩
        obtain ⟨s4, e4⟩ : ∃ s, s3 ++ dec o.tool = s := ⟨_, rfl⟩
        obtain ⟨s5, e5⟩ : ∃ s, s4 ++ (⟨#[32, 108, 101, 97, 118, 101, 32]⟩ : ByteArray) = s := ⟨_, rfl⟩
        obtain ⟨s6, e6⟩ : ∃ s, s5 ++ dec o.leave = s := ⟨_, rfl⟩
        obtain ⟨s7, e7⟩ : ∃ s, s6 ++ (⟨#[32, 100, 101, 112, 116, 104, 115]⟩ : ByteArray) = s := ⟨_, rfl⟩
        have q1 := size_add _ _ _ e1
        have q2 := size_add _ _ _ e2
        have q3 := size_add _ _ _ e3
        have q4 := size_add _ _ _ e4
        have q5 := size_add _ _ _ e5
        have q6 := size_add _ _ _ e6
        have q7 := size_add _ _ _ e7
        have k1 : (⟨#[32, 102, 101, 97, 116, 117, 114, 101, 32]⟩ : ByteArray).size = 9 := rfl
        have k3 : (⟨#[32, 116, 111, 111, 108, 32]⟩ : ByteArray).size = 6 := rfl
        have k5 : (⟨#[32, 108, 101, 97, 118, 101, 32]⟩ : ByteArray).size = 7 := rfl
        have k7 : (⟨#[32, 100, 101, 112, 116, 104, 115]⟩ : ByteArray).size = 7 := rfl
        have a1 := add_str _ _ _ e1 (by omega)
        have a2 := add_str _ _ _ e2 (by omega)
        have a3 := add_str _ _ _ e3 (by omega)
        have a4 := add_str _ _ _ e4 (by omega)
        have a5 := add_str _ _ _ e5 (by omega)
        have a6 := add_str _ _ _ e6 (by omega)
        have a7 := add_str _ _ _ e7 (by omega)
        have hs7 : s7.size ≤ 98 := by omega
        have He : Hid (headB nmk o.feat o.tool o.leave = s7) := by show _ = _; rw [headB, e1, e2, e3, e4, e5, e6, e7]
        clear q1 q2 q3 q4 q5 q6 q7 k1 k3 k5 k7 e1 e2 e3 e4 e5 e6 e7 z1 z2 z3 hns
        have hp3 : Pow w2.drew := hp.below (hbel3.drew)
        have hbd4 : Bd w.heap.size w.heap.size (textL (os.take k)) w2.drew := hbd3
        have hbk4 : Bk w2.drew wr.heap.size 37 #[.int .i64 o.kind, .int .i64 o.feat, .int .i64 o.tool, .slice o.da o.dn o.dc, .int .i64 o.leave] := hbk3
        have hll := Hl.out
        have hq0 : Below w2.heap.size w2.drew w2.drew := Below.refl _ _
        go_wp2_with fail
        go_region_held3 (fun w' => w'.cell? ⟨wr.heap.size, 1, none⟩ = some (.int .i64 o.feat) ∧ w'.cell? ⟨wr.heap.size, 2, none⟩ = some (.int .i64 o.tool) ∧ w'.cell? ⟨wr.heap.size, 4, none⟩ = some (.int .i64 o.leave))
          (first | exact ⟨f1, f2, f4⟩ | exact ⟨(hbk5.cell 1).trans rfl, (hbk5.cell 2).trans rfl, (hbk5.cell 4).trans rfl⟩ | exact ⟨((hbk4.below hq0).cell 1).trans rfl, ((hbk4.below hq0).cell 2).trans rfl, ((hbk4.below hq0).cell 4).trans rfl⟩)
          (first
            | (go_at_call 28; refine (itoa_any _ _ (by assumption) (Pow.below hp3 hq0)).mono ?_; rintro e w4 ⟨rfl, hb4⟩; replace hq0 := hq0.trans (hb4.mono hq0.size))
            | (go_at_call 29; refine (fint_any _ _ (by assumption) (Pow.below hp3 hq0)).mono ?_; rintro e w4 ⟨rfl, hb4⟩; replace hq0 := hq0.trans (hb4.mono hq0.size))
            | (go_at_call 27; refine (write_any _ _ _ s7 _ (Bd.below hbd4 hq0) (by omega) (by have := hq0.size; simp at this; omega)).mono ?_; rintro e w5 ⟨rfl, hbd5, hb5, ho5⟩; have hbk5 := (hbk4.below hq0).others ho5 (by omega) (by decide)))
        have hbel5 : Below w.heap.size w w5 := (hbel3.drew.trans (hq0.mono hz3)).trans hb5
        have f3 := hbk5.cell 3
        simp at f3
        clear hbd4 hbk4 hq0 hp3 f1 f2 f4 hbk3 hbd3 hbel3 hb5 ho5 hbk5 a1 a2 a3 a4 a5 a6 a7 hif hit hil hne
        go_wp2
        clear f3
        obtain ⟨wo, hwo⟩ : ∃ wo : World, wo = w5 := ⟨_, rfl⟩
        rw [← hwo] at hbd5 hbel5 ⊢
        clear hwo
        go_loopw [41] (fun i' wr => ∃ j : Nat, j ≤ o.dn ∧ i' = .int .i64 j ∧ Below w.heap.size w wr ∧ Bd w.heap.size w.heap.size (textL (os.take k) ++ s7.data.toList ++ depthsL (o.ds.take j)) wr ∧ Hid ((depthsL (o.ds.take j)).length ≤ j * 22)) (fun i _ => o.dn - (intOf i).toNat)
        case atStart => exact ⟨0, Nat.zero_le _, rfl, hbel5, by simpa [depthsL] using hbd5, by show _ ≤ _; simp [depthsL]⟩
        case round =>
          clear hbd5 hbel5 hds
          obtain ⟨j, hj, rfl, hbel6, hbd6, Hj⟩ := hrel
          have hz6 := hbel6.size
          have hltj := hbd6.lt
          by_cases hltd : j < o.dn
          · obtain ⟨b3, off3, x, hA3, hb3, hx, hcx⟩ := ((ha.2.2 o (List.mem_of_getElem? hoo.out)).below hbel6).at_ hltd
            have hix := hid x (List.mem_of_getElem? hx.out)
            have zx := dec_size x hix
            obtain ⟨s8, e8⟩ : ∃ s, (⟨#[32]⟩ : ByteArray) ++ dec x = s := ⟨_, rfl⟩
            have q8 := size_add _ _ _ e8
            have k8 : (⟨#[32]⟩ : ByteArray).size = 1 := rfl
            have a8 := add_str _ _ _ e8 (by omega)
            have hs8 : s8.size ≤ 22 := by omega
            have hl8 : Hid (s8.data.toList = 32 :: Lib.itoa x) := by
              show _ = _
              rw [← e8]; simp [dec, ByteArray.data_append]
            have hjl := Hj.out
            have hp6 : Pow wr := hp.below hbel6
            have hll2 : s7.data.toList.length = s7.size := rfl
            clear q8 k8 e8 zx
            rw [hA3]
            go_wp2_with (first
              | (go_at_call 29; refine (fint_any _ _ (by assumption) hp6).mono ?_; rintro e w4 ⟨rfl, hb4⟩)
              | (go_at_call 27; refine (write_any _ _ _ s8 _ (Bd.below hbd6 hb4) (by simp only [List.length_append, hll2]; omega) (by have := hb4.size; omega)).mono ?_; rintro e w7 ⟨rfl, hbd7, hb7, ho7⟩))
            go_roundw
            case rel =>
              refine ⟨j + 1, by omega, by go_num, (hbel6.trans (hb4.mono hz6)).trans hb7, ?_, ?_⟩
              · rw [depths_snoc _ _ _ hx.out, ← hl8.out, ← List.append_assoc]; exact hbd7
              · show _ ≤ _
                rw [depths_snoc _ _ _ hx.out, ← hl8.out, List.length_append]
                have : s8.data.toList.length = s8.size := rfl
                omega
            case measure => simp [intOf]; omega
          · obtain rfl : j = o.dn := by omega
            have hdl : o.ds.take o.dn = o.ds := List.take_of_length_le (by have := (ha.2.2 o (List.mem_of_getElem? hoo.out)).len; omega)
            have hjl := Hj.out
            rw [hdl] at hbd6 hjl
            have hll2 : s7.data.toList.length = s7.size := rfl
            have k10 : (⟨#[10]⟩ : ByteArray).size = 1 := rfl
            clear hdl Hj
            go_wp2_with (go_at_call 27; refine (write_any _ _ _ _ _ hbd6 (by simp only [List.length_append, hll2]; omega) hz6).mono ?_; rintro e w7 ⟨rfl, hbd7, hb7, ho7⟩)
            have hline : lineL o = s7.data.toList ++ depthsL o.ds ++ [10] := by rw [lineL, Hnm.out, He.out]
            go_roundw
            case rel =>
              refine ⟨k + 1, by omega, by go_num, hbel6.trans hb7, ?_, ?_⟩
              · rw [text_snoc hoo.out, hline, ← List.append_assoc, ← List.append_assoc]; exact hbd7
              · show _ ≤ _
                rw [text_snoc hoo.out, hline, List.length_append, List.length_append, List.length_append]
                simp only [List.length_cons, List.length_nil]
                omega
            case measure => simp [intOf]; omega
      · have hkn := kname_no o.kind hk5
        obtain rfl : nmk = (⟨#[63]⟩ : ByteArray) := by rw [← Hnm.out, nm, if_neg hk5]
        rw [hkn]; clear hkn
        obtain ⟨hif, hit, hil, hid, hdn⟩ := hfo
        have z1 := dec_size _ hif
        have z2 := dec_size _ hit
        have z3 := dec_size _ hil
        obtain ⟨s1, e1⟩ : ∃ s, (⟨#[63]⟩ : ByteArray) ++ (⟨#[32, 102, 101, 97, 116, 117, 114, 101, 32]⟩ : ByteArray) = s := ⟨_, rfl⟩
        obtain ⟨s2, e2⟩ : ∃ s, s1 ++ dec o.feat = s := ⟨_, rfl⟩
        obtain ⟨s3, e3⟩ : ∃ s, s2 ++ (⟨#[32, 116, 111, 111, 108, 32]⟩ : ByteArray) = s := ⟨_, rfl⟩
        obtain ⟨s4, e4⟩ : ∃ s, s3 ++ dec o.tool = s := ⟨_, rfl⟩
        obtain ⟨s5, e5⟩ : ∃ s, s4 ++ (⟨#[32, 108, 101, 97, 118, 101, 32]⟩ : ByteArray) = s := ⟨_, rfl⟩
        obtain ⟨s6, e6⟩ : ∃ s, s5 ++ dec o.leave = s := ⟨_, rfl⟩
        obtain ⟨s7, e7⟩ : ∃ s, s6 ++ (⟨#[32, 100, 101, 112, 116, 104, 115]⟩ : ByteArray) = s := ⟨_, rfl⟩
        have q1 := size_add _ _ _ e1
        have q2 := size_add _ _ _ e2
        have q3 := size_add _ _ _ e3
        have q4 := size_add _ _ _ e4
        have q5 := size_add _ _ _ e5
        have q6 := size_add _ _ _ e6
        have q7 := size_add _ _ _ e7
        have k1 : (⟨#[32, 102, 101, 97, 116, 117, 114, 101, 32]⟩ : ByteArray).size = 9 := rfl
        have k3 : (⟨#[32, 116, 111, 111, 108, 32]⟩ : ByteArray).size = 6 := rfl
        have k5 : (⟨#[32, 108, 101, 97, 118, 101, 32]⟩ : ByteArray).size = 7 := rfl
        have k7 : (⟨#[32, 100, 101, 112, 116, 104, 115]⟩ : ByteArray).size = 7 := rfl
        have a1 := add_str _ _ _ e1 (by omega)
        have a2 := add_str _ _ _ e2 (by omega)
        have a3 := add_str _ _ _ e3 (by omega)
        have a4 := add_str _ _ _ e4 (by omega)
        have a5 := add_str _ _ _ e5 (by omega)
        have a6 := add_str _ _ _ e6 (by omega)
        have a7 := add_str _ _ _ e7 (by omega)
        have hs7 : s7.size ≤ 98 := by omega
        have He : Hid (headB (⟨#[63]⟩ : ByteArray) o.feat o.tool o.leave = s7) := by show _ = _; rw [headB, e1, e2, e3, e4, e5, e6, e7]
        clear q1 q2 q3 q4 q5 q6 q7 k1 k3 k5 k7 e1 e2 e3 e4 e5 e6 e7 z1 z2 z3 hns
        have hp3 : Pow w2.drew := hp.below (hbel3.drew)
        have hbd4 : Bd w.heap.size w.heap.size (textL (os.take k)) w2.drew := hbd3
        have hbk4 : Bk w2.drew wr.heap.size 37 #[.int .i64 o.kind, .int .i64 o.feat, .int .i64 o.tool, .slice o.da o.dn o.dc, .int .i64 o.leave] := hbk3
        have hll := Hl.out
        have hq0 : Below w2.heap.size w2.drew w2.drew := Below.refl _ _
        go_wp2_with fail
        go_region_held3 (fun w' => w'.cell? ⟨wr.heap.size, 1, none⟩ = some (.int .i64 o.feat) ∧ w'.cell? ⟨wr.heap.size, 2, none⟩ = some (.int .i64 o.tool) ∧ w'.cell? ⟨wr.heap.size, 4, none⟩ = some (.int .i64 o.leave))
          (first | exact ⟨f1, f2, f4⟩ | exact ⟨(hbk5.cell 1).trans rfl, (hbk5.cell 2).trans rfl, (hbk5.cell 4).trans rfl⟩ | exact ⟨((hbk4.below hq0).cell 1).trans rfl, ((hbk4.below hq0).cell 2).trans rfl, ((hbk4.below hq0).cell 4).trans rfl⟩)
          (first
            | (go_at_call 28; refine (itoa_any _ _ (by assumption) (Pow.below hp3 hq0)).mono ?_; rintro e w4 ⟨rfl, hb4⟩; replace hq0 := hq0.trans (hb4.mono hq0.size))
            | (go_at_call 29; refine (fint_any _ _ (by assumption) (Pow.below hp3 hq0)).mono ?_; rintro e w4 ⟨rfl, hb4⟩; replace hq0 := hq0.trans (hb4.mono hq0.size))
            | (go_at_call 27; refine (write_any _ _ _ s7 _ (Bd.below hbd4 hq0) (by omega) (by have := hq0.size; simp at this; omega)).mono ?_; rintro e w5 ⟨rfl, hbd5, hb5, ho5⟩; have hbk5 := (hbk4.below hq0).others ho5 (by omega) (by decide)))
        have hbel5 : Below w.heap.size w w5 := (hbel3.drew.trans (hq0.mono hz3)).trans hb5
        have f3 := hbk5.cell 3
        simp at f3
        clear hbd4 hbk4 hq0 hp3 f1 f2 f4 hbk3 hbd3 hbel3 hb5 ho5 hbk5 a1 a2 a3 a4 a5 a6 a7 hif hit hil
        go_wp2
        clear f3
        obtain ⟨wo, hwo⟩ : ∃ wo : World, wo = w5 := ⟨_, rfl⟩
        rw [← hwo] at hbd5 hbel5 ⊢
        clear hwo
        go_loopw [41] (fun i' wr => ∃ j : Nat, j ≤ o.dn ∧ i' = .int .i64 j ∧ Below w.heap.size w wr ∧ Bd w.heap.size w.heap.size (textL (os.take k) ++ s7.data.toList ++ depthsL (o.ds.take j)) wr ∧ Hid ((depthsL (o.ds.take j)).length ≤ j * 22)) (fun i _ => o.dn - (intOf i).toNat)
        case atStart => exact ⟨0, Nat.zero_le _, rfl, hbel5, by simpa [depthsL] using hbd5, by show _ ≤ _; simp [depthsL]⟩
        case round =>
          clear hbd5 hbel5 hds
          obtain ⟨j, hj, rfl, hbel6, hbd6, Hj⟩ := hrel
          have hz6 := hbel6.size
          have hltj := hbd6.lt
          by_cases hltd : j < o.dn
          · obtain ⟨b3, off3, x, hA3, hb3, hx, hcx⟩ := ((ha.2.2 o (List.mem_of_getElem? hoo.out)).below hbel6).at_ hltd
            have hix := hid x (List.mem_of_getElem? hx.out)
            have zx := dec_size x hix
            obtain ⟨s8, e8⟩ : ∃ s, (⟨#[32]⟩ : ByteArray) ++ dec x = s := ⟨_, rfl⟩
            have q8 := size_add _ _ _ e8
            have k8 : (⟨#[32]⟩ : ByteArray).size = 1 := rfl
            have a8 := add_str _ _ _ e8 (by omega)
            have hs8 : s8.size ≤ 22 := by omega
            have hl8 : Hid (s8.data.toList = 32 :: Lib.itoa x) := by
              show _ = _
              rw [← e8]; simp [dec, ByteArray.data_append]
            have hjl := Hj.out
            have hp6 : Pow wr := hp.below hbel6
            have hll2 : s7.data.toList.length = s7.size := rfl
            clear q8 k8 e8 zx
            rw [hA3]
            go_wp2_with (first
              | (go_at_call 29; refine (fint_any _ _ (by assumption) hp6).mono ?_; rintro e w4 ⟨rfl, hb4⟩)
              | (go_at_call 27; refine (write_any _ _ _ s8 _ (Bd.below hbd6 hb4) (by simp only [List.length_append, hll2]; omega) (by have := hb4.size; omega)).mono ?_; rintro e w7 ⟨rfl, hbd7, hb7, ho7⟩))
            go_roundw
            case rel =>
              refine ⟨j + 1, by omega, by go_num, (hbel6.trans (hb4.mono hz6)).trans hb7, ?_, ?_⟩
              · rw [depths_snoc _ _ _ hx.out, ← hl8.out, ← List.append_assoc]; exact hbd7
              · show _ ≤ _
                rw [depths_snoc _ _ _ hx.out, ← hl8.out, List.length_append]
                have : s8.data.toList.length = s8.size := rfl
                omega
            case measure => simp [intOf]; omega
          · obtain rfl : j = o.dn := by omega
            have hdl : o.ds.take o.dn = o.ds := List.take_of_length_le (by have := (ha.2.2 o (List.mem_of_getElem? hoo.out)).len; omega)
            have hjl := Hj.out
            rw [hdl] at hbd6 hjl
            have hll2 : s7.data.toList.length = s7.size := rfl
            have k10 : (⟨#[10]⟩ : ByteArray).size = 1 := rfl
            clear hdl Hj
            go_wp2_with (go_at_call 27; refine (write_any _ _ _ _ _ hbd6 (by simp only [List.length_append, hll2]; omega) hz6).mono ?_; rintro e w7 ⟨rfl, hbd7, hb7, ho7⟩)
            have hline : lineL o = s7.data.toList ++ depthsL o.ds ++ [10] := by rw [lineL, Hnm.out, He.out]
            go_roundw
            case rel =>
              refine ⟨k + 1, by omega, by go_num, hbel6.trans hb7, ?_, ?_⟩
              · rw [text_snoc hoo.out, hline, ← List.append_assoc, ← List.append_assoc]; exact hbd7
              · show _ ≤ _
                rw [text_snoc hoo.out, hline, List.length_append, List.length_append, List.length_append]
                simp only [List.length_cons, List.length_nil]
                omega
            case measure => simp [intOf]; omega
    · obtain rfl : k = n := by omega
      rw [List.take_of_length_le (by omega)] at hbd
      go_wp2_with (go_at_call 30; refine (string_any _ _ _ _ hbd hz).mono ?_; rintro e w7 ⟨rfl, hb7⟩)
      go_ret
      exact ⟨rfl, hbel.trans hb7⟩
end Go.Proofs.YtcgjojjgagaliaaDoor
