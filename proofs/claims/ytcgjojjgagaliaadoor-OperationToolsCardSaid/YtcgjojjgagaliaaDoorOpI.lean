/- Layer 28: what the reference's Format returns. At most 1000 operations of at most 1000 depths; the table of powers of ten is as its initialiser lays it. -/
import Derived.Test.YtcgjojjgagaliaaDoorOpH
namespace Go.Proofs.YtcgjojjgagaliaaDoor
open Go.RowKit
theorem size_mk (l : List UInt8) : (⟨l.toArray⟩ : ByteArray).size = l.length := by show l.toArray.size = _; simp
theorem mk_toList (s : ByteArray) : (⟨s.data.toList.toArray⟩ : ByteArray) = s := by cases s; simp

set_option maxHeartbeats 1000000 in
theorem rformat_any (A : Option Addr) (n c : Nat) (os : List OpR) (w : World) (ha : RdO w A n os) (hn : n ≤ 1000) (hf : ∀ o ∈ os, Fine o) (hp : Pow w) :
    Calls Tryd.prog 18 #[.slice A n c] w fun e w' => e = .returned (.string ⟨(textL os).toArray⟩) ∧ Below w.heap.size w w' := by
  have hlen := ha.1
  have Hf := Lib.hid hf; clear hf
  go_enter Tryd.func18, Tryd.ntmps18
  go_wp2
  go_loopw [3, 4] (fun v i wr => ∃ (k : Nat) (out : ByteArray), k ≤ n ∧ i = .int .i64 k ∧ v = .string out ∧ Below w.heap.size w wr ∧ Hid (out.data.toList = textL (os.take k)) ∧ out.size ≤ k * 30000) (fun _ i _ => n - (intOf i).toNat)
  case atStart =>
    exact ⟨0, ⟨#[]⟩, Nat.zero_le _, rfl, rfl, Below.refl _ _, by show _ = _; simp [textL], by decide⟩
  case round =>
    obtain ⟨k, out, hk, rfl, rfl, hbel, Hout, hos⟩ := hrel
    have hz := hbel.size
    by_cases hlt : k < n
    · obtain ⟨b, off, o, rfl, hb, hoo, hc0, hc1, hc2, hc3, hc4, hds⟩ := (ha.below hbel).at_ hlt
      have hfo := Hf.out o (List.mem_of_getElem? hoo.out)
      have hbk := Bk.new wr 37 #[.int .i64 o.kind, .int .i64 o.feat, .int .i64 o.tool, .slice o.da o.dn o.dc, .int .i64 o.leave]
      have hbel2 := hbel.alloc hz (.cells #[.int .i64 o.kind, .int .i64 o.feat, .int .i64 o.tool, .slice o.da o.dn o.dc, .int .i64 o.leave] 37)
      go_wp2_with fail
      refine (rkind_any _ _).mono ?_
      rintro e w2 ⟨rfl, hw2⟩
      rw [hw2] at hbk hbel2
      have hbk3 := hbk
      have hbel3 := hbel2
      have hz3 := hbel3.size
      clear hbk hbel2 hw2 hc0 hc1 hc2 hc3 hc4
      have f1 := hbk3.cell 1
      have f2 := hbk3.cell 2
      have f4 := hbk3.cell 4
      simp at f1 f2 f4
      obtain ⟨nmk, hnmk⟩ : ∃ s, nm o.kind = s := ⟨_, rfl⟩
      have Hnm := Lib.hid hnmk
      have hns := nm_size o.kind
      rw [hnmk] at hns; clear hnmk
      by_cases hk5 : 1 ≤ o.kind ∧ o.kind ≤ 5
      · have hne := kname_yes o.kind hk5
        have hkn : Hid (kname o.kind = nmk) := by show _ = _; rw [← Hnm.out, nm, if_pos hk5]
        rw [hkn.out] at hne ⊢
        obtain ⟨hif, hit, hil, hid, hdn⟩ := hfo
        have z1 := dec_size _ hif
        have z2 := dec_size _ hit
        have z3 := dec_size _ hil
        obtain ⟨s0, e0⟩ : ∃ s, out ++ nmk = s := ⟨_, rfl⟩
        obtain ⟨s1, e1⟩ : ∃ s, s0 ++ (⟨#[32, 102, 101, 97, 116, 117, 114, 101, 32]⟩ : ByteArray) = s := ⟨_, rfl⟩
        obtain ⟨s2, e2⟩ : ∃ s, s1 ++ dec o.feat = s := ⟨_, rfl⟩
        obtain ⟨s3, e3⟩ : ∃ s, s2 ++ (⟨#[32, 116, 111, 111, 108, 32]⟩ : ByteArray) = s := ⟨_, rfl⟩
        obtain ⟨s4, e4⟩ : ∃ s, s3 ++ dec o.tool = s := ⟨_, rfl⟩
        obtain ⟨s5, e5⟩ : ∃ s, s4 ++ (⟨#[32, 108, 101, 97, 118, 101, 32]⟩ : ByteArray) = s := ⟨_, rfl⟩
        obtain ⟨s6, e6⟩ : ∃ s, s5 ++ dec o.leave = s := ⟨_, rfl⟩
        obtain ⟨s7, e7⟩ : ∃ s, s6 ++ (⟨#[32, 100, 101, 112, 116, 104, 115]⟩ : ByteArray) = s := ⟨_, rfl⟩
        have q0 := size_add _ _ _ e0
        have q1 := size_add _ _ _ e1
        have q2 := size_add _ _ _ e2
        have q3 := size_add _ _ _ e3
        have q4 := size_add _ _ _ e4
        have q5 := size_add _ _ _ e5
        have q6 := size_add _ _ _ e6
        have q7 := size_add _ _ _ e7
        have k1 : (⟨#[32, 102, 101, 97, 116, 117, 114, 101, 32]⟩ : ByteArray).size = 9 := rfl
        have k3 : (⟨#[32, 116, 111, 111, 108, 32]⟩ : ByteArray).size = 6 := rfl
        have k5 : (⟨#[32, 108, 101, 97, 118, 101, 32]⟩ : ByteArray).size = 7 := rfl
        have k7 : (⟨#[32, 100, 101, 112, 116, 104, 115]⟩ : ByteArray).size = 7 := rfl
        have a0 := add_str _ _ _ e0 (by omega)
        have a1 := add_str _ _ _ e1 (by omega)
        have a2 := add_str _ _ _ e2 (by omega)
        have a3 := add_str _ _ _ e3 (by omega)
        have a4 := add_str _ _ _ e4 (by omega)
        have a5 := add_str _ _ _ e5 (by omega)
        have a6 := add_str _ _ _ e6 (by omega)
        have a7 := add_str _ _ _ e7 (by omega)
        have hs7 : s7.size ≤ out.size + 98 := by omega
        have He : Hid (s7.data.toList = textL (os.take k) ++ (headB nmk o.feat o.tool o.leave).data.toList) := by
          show _ = _
          rw [← e7, ← e6, ← e5, ← e4, ← e3, ← e2, ← e1, ← e0, ← Hout.out, headB]
          simp [ByteArray.data_append]
        clear q0 q1 q2 q3 q4 q5 q6 q7 k1 k3 k5 k7 e0 e1 e2 e3 e4 e5 e6 e7 z1 z2 z3 hns
        have hp3 : Pow w2.drew := hp.below (hbel3.drew)
        have hbk4 : Bk w2.drew wr.heap.size 37 #[.int .i64 o.kind, .int .i64 o.feat, .int .i64 o.tool, .slice o.da o.dn o.dc, .int .i64 o.leave] := hbk3
        have hq0 : Below w2.heap.size w2.drew w2.drew := Below.refl _ _
        go_wp2_with fail
        go_region_held3 (fun w' => w'.cell? ⟨wr.heap.size, 1, none⟩ = some (.int .i64 o.feat) ∧ w'.cell? ⟨wr.heap.size, 2, none⟩ = some (.int .i64 o.tool) ∧ w'.cell? ⟨wr.heap.size, 4, none⟩ = some (.int .i64 o.leave))
          (first | exact ⟨f1, f2, f4⟩ | exact ⟨((hbk4.below hq0).cell 1).trans rfl, ((hbk4.below hq0).cell 2).trans rfl, ((hbk4.below hq0).cell 4).trans rfl⟩)
          (first
            | (go_at_call 28; refine (itoa_any _ _ (by assumption) (Pow.below hp3 hq0)).mono ?_; rintro e w4 ⟨rfl, hb4⟩; replace hq0 := hq0.trans (hb4.mono hq0.size))
            | (go_at_call 29; refine (fint_any _ _ (by assumption) (Pow.below hp3 hq0)).mono ?_; rintro e w4 ⟨rfl, hb4⟩; replace hq0 := hq0.trans (hb4.mono hq0.size)))
        have hbk5 := hbk4.below hq0
        have hbel5 : Below w.heap.size w w4 := hbel3.drew.trans (hq0.mono hz3)
        have hll := hs7
        clear hbk4 hq0 hp3 f1 f2 f4 hbk3 hbel3 hb4 a0 a1 a2 a3 a4 a5 a6 a7 hif hit hil hne
        go_wp2
        obtain ⟨wo, hwo⟩ : ∃ wo : World, wo = w4 := ⟨_, rfl⟩
        rw [← hwo] at hbk5 hbel5 ⊢
        clear hwo
        obtain ⟨gb, hgb⟩ : ∃ gb, gb = wr.heap.size := ⟨_, rfl⟩
        rw [← hgb] at hbk5 ⊢
        generalize (Value.agg #[.int .i64 o.kind, .int .i64 o.feat, .int .i64 o.tool, .slice o.da o.dn o.dc, .int .i64 o.leave]) = va
        clear hgb hbel hz
        go_loopw [3, 7] (fun v i' wi => ∃ (j : Nat) (out2 : ByteArray), j ≤ o.dn ∧ i' = .int .i64 j ∧ v = .string out2 ∧ Below w.heap.size w wi ∧ Hid (out2.data.toList = s7.data.toList ++ depthsL (o.ds.take j)) ∧ out2.size ≤ s7.size + j * 22 ∧ Bk wi gb 37 #[.int .i64 o.kind, .int .i64 o.feat, .int .i64 o.tool, .slice o.da o.dn o.dc, .int .i64 o.leave]) (fun _ i _ => o.dn - (intOf i).toNat)
        case atStart => exact ⟨0, s7, Nat.zero_le _, rfl, rfl, hbel5, by show _ = _; simp [depthsL], by omega, hbk5⟩
        case round =>
          clear hbk5 hbel5 hds
          obtain ⟨j, out2, hj, rfl, rfl, hbel6, Ho2, hos2, hbk6⟩ := hrel
          have hz6 := hbel6.size
          have f3 := hbk6.cell 3
          simp at f3
          by_cases hltd : j < o.dn
          · obtain ⟨b3, off3, x, hA3, hb3, hx, hcx⟩ := ((ha.2.2 o (List.mem_of_getElem? hoo.out)).below hbel6).at_ hltd
            have hix := hid x (List.mem_of_getElem? hx.out)
            have zx := dec_size x hix
            obtain ⟨s8, e8⟩ : ∃ s, out2 ++ (⟨#[32]⟩ : ByteArray) = s := ⟨_, rfl⟩
            obtain ⟨s9, e9⟩ : ∃ s, s8 ++ dec x = s := ⟨_, rfl⟩
            have q8 := size_add _ _ _ e8
            have q9 := size_add _ _ _ e9
            have k8 : (⟨#[32]⟩ : ByteArray).size = 1 := rfl
            have a8 := add_str _ _ _ e8 (by omega)
            have a9 := add_str _ _ _ e9 (by omega)
            have hs9 : s9.size ≤ out2.size + 22 := by omega
            have Hl8 : Hid (s9.data.toList = out2.data.toList ++ 32 :: Lib.itoa x) := by
              show _ = _
              rw [← e9, ← e8]; simp [dec, ByteArray.data_append]
            have hp6 : Pow wr := hp.below hbel6
            clear q8 q9 k8 e8 e9 zx
            rw [hA3] at f3
            go_wp2_with (go_at_call 29; refine (fint_any _ _ (by assumption) hp6).mono ?_; rintro e w8 ⟨rfl, hb8⟩)
            go_roundw
            case rel =>
              refine ⟨j + 1, s9, by omega, by go_num, rfl, hbel6.trans (hb8.mono hz6), ?_, by omega, hbk6.below hb8⟩
              show _ = _
              rw [depths_snoc _ _ _ hx.out, Hl8.out, Ho2.out, List.append_assoc]
            case measure => simp [intOf]; omega
          · obtain rfl : j = o.dn := by omega
            have hdl : o.ds.take o.dn = o.ds := List.take_of_length_le (by have := (ha.2.2 o (List.mem_of_getElem? hoo.out)).len; omega)
            have Ho3 := Ho2.out
            rw [hdl] at Ho3
            have Ho4 := Lib.hid Ho3
            clear hdl Ho2 Ho3
            obtain ⟨s9, e9⟩ : ∃ s, out2 ++ (⟨#[10]⟩ : ByteArray) = s := ⟨_, rfl⟩
            have q9 := size_add _ _ _ e9
            have k9 : (⟨#[10]⟩ : ByteArray).size = 1 := rfl
            have a9 := add_str _ _ _ e9 (by omega)
            have hs9 : s9.size ≤ out2.size + 1 := by omega
            have Hl9 : Hid (s9.data.toList = textL (os.take (k + 1))) := by
              show _ = _
              rw [← e9, text_snoc hoo.out, lineL, Hnm.out, ← List.append_assoc, ← List.append_assoc, ← He.out, ← Ho4.out]
              simp [ByteArray.data_append]
            clear q9 k9 e9
            go_wp2
            go_roundw
            case rel => exact ⟨k + 1, s9, by omega, by go_num, rfl, hbel6, Hl9, by omega⟩
            case measure => simp [intOf]; omega
      · have hkn := kname_no o.kind hk5
        obtain rfl : nmk = (⟨#[63]⟩ : ByteArray) := by rw [← Hnm.out, nm, if_neg hk5]
        rw [hkn]; clear hkn
        obtain ⟨hif, hit, hil, hid, hdn⟩ := hfo
        have z1 := dec_size _ hif
        have z2 := dec_size _ hit
        have z3 := dec_size _ hil
        obtain ⟨s0, e0⟩ : ∃ s, out ++ (⟨#[63]⟩ : ByteArray) = s := ⟨_, rfl⟩
        obtain ⟨s1, e1⟩ : ∃ s, s0 ++ (⟨#[32, 102, 101, 97, 116, 117, 114, 101, 32]⟩ : ByteArray) = s := ⟨_, rfl⟩
        obtain ⟨s2, e2⟩ : ∃ s, s1 ++ dec o.feat = s := ⟨_, rfl⟩
        obtain ⟨s3, e3⟩ : ∃ s, s2 ++ (⟨#[32, 116, 111, 111, 108, 32]⟩ : ByteArray) = s := ⟨_, rfl⟩
        obtain ⟨s4, e4⟩ : ∃ s, s3 ++ dec o.tool = s := ⟨_, rfl⟩
        obtain ⟨s5, e5⟩ : ∃ s, s4 ++ (⟨#[32, 108, 101, 97, 118, 101, 32]⟩ : ByteArray) = s := ⟨_, rfl⟩
        obtain ⟨s6, e6⟩ : ∃ s, s5 ++ dec o.leave = s := ⟨_, rfl⟩
        obtain ⟨s7, e7⟩ : ∃ s, s6 ++ (⟨#[32, 100, 101, 112, 116, 104, 115]⟩ : ByteArray) = s := ⟨_, rfl⟩
        have q0 := size_add _ _ _ e0
        have q1 := size_add _ _ _ e1
        have q2 := size_add _ _ _ e2
        have q3 := size_add _ _ _ e3
        have q4 := size_add _ _ _ e4
        have q5 := size_add _ _ _ e5
        have q6 := size_add _ _ _ e6
        have q7 := size_add _ _ _ e7
        have k1 : (⟨#[32, 102, 101, 97, 116, 117, 114, 101, 32]⟩ : ByteArray).size = 9 := rfl
        have k3 : (⟨#[32, 116, 111, 111, 108, 32]⟩ : ByteArray).size = 6 := rfl
        have k5 : (⟨#[32, 108, 101, 97, 118, 101, 32]⟩ : ByteArray).size = 7 := rfl
        have k7 : (⟨#[32, 100, 101, 112, 116, 104, 115]⟩ : ByteArray).size = 7 := rfl
        have a0 := add_str _ _ _ e0 (by omega)
        have a1 := add_str _ _ _ e1 (by omega)
        have a2 := add_str _ _ _ e2 (by omega)
        have a3 := add_str _ _ _ e3 (by omega)
        have a4 := add_str _ _ _ e4 (by omega)
        have a5 := add_str _ _ _ e5 (by omega)
        have a6 := add_str _ _ _ e6 (by omega)
        have a7 := add_str _ _ _ e7 (by omega)
        have hs7 : s7.size ≤ out.size + 98 := by omega
        have He : Hid (s7.data.toList = textL (os.take k) ++ (headB (⟨#[63]⟩ : ByteArray) o.feat o.tool o.leave).data.toList) := by
          show _ = _
          rw [← e7, ← e6, ← e5, ← e4, ← e3, ← e2, ← e1, ← e0, ← Hout.out, headB]
          simp [ByteArray.data_append]
        clear q0 q1 q2 q3 q4 q5 q6 q7 k1 k3 k5 k7 e0 e1 e2 e3 e4 e5 e6 e7 z1 z2 z3 hns
        have hp3 : Pow w2.drew := hp.below (hbel3.drew)
        have hbk4 : Bk w2.drew wr.heap.size 37 #[.int .i64 o.kind, .int .i64 o.feat, .int .i64 o.tool, .slice o.da o.dn o.dc, .int .i64 o.leave] := hbk3
        have hq0 : Below w2.heap.size w2.drew w2.drew := Below.refl _ _
        go_wp2_with fail
        go_region_held3 (fun w' => w'.cell? ⟨wr.heap.size, 1, none⟩ = some (.int .i64 o.feat) ∧ w'.cell? ⟨wr.heap.size, 2, none⟩ = some (.int .i64 o.tool) ∧ w'.cell? ⟨wr.heap.size, 4, none⟩ = some (.int .i64 o.leave))
          (first | exact ⟨f1, f2, f4⟩ | exact ⟨((hbk4.below hq0).cell 1).trans rfl, ((hbk4.below hq0).cell 2).trans rfl, ((hbk4.below hq0).cell 4).trans rfl⟩)
          (first
            | (go_at_call 28; refine (itoa_any _ _ (by assumption) (Pow.below hp3 hq0)).mono ?_; rintro e w4 ⟨rfl, hb4⟩; replace hq0 := hq0.trans (hb4.mono hq0.size))
            | (go_at_call 29; refine (fint_any _ _ (by assumption) (Pow.below hp3 hq0)).mono ?_; rintro e w4 ⟨rfl, hb4⟩; replace hq0 := hq0.trans (hb4.mono hq0.size)))
        have hbk5 := hbk4.below hq0
        have hbel5 : Below w.heap.size w w4 := hbel3.drew.trans (hq0.mono hz3)
        have hll := hs7
        clear hbk4 hq0 hp3 f1 f2 f4 hbk3 hbel3 hb4 a0 a1 a2 a3 a4 a5 a6 a7 hif hit hil
        go_wp2
        obtain ⟨wo, hwo⟩ : ∃ wo : World, wo = w4 := ⟨_, rfl⟩
        rw [← hwo] at hbk5 hbel5 ⊢
        clear hwo
        obtain ⟨gb, hgb⟩ : ∃ gb, gb = wr.heap.size := ⟨_, rfl⟩
        rw [← hgb] at hbk5 ⊢
        generalize (Value.agg #[.int .i64 o.kind, .int .i64 o.feat, .int .i64 o.tool, .slice o.da o.dn o.dc, .int .i64 o.leave]) = va
        clear hgb hbel hz
        go_loopw [3, 7] (fun v i' wi => ∃ (j : Nat) (out2 : ByteArray), j ≤ o.dn ∧ i' = .int .i64 j ∧ v = .string out2 ∧ Below w.heap.size w wi ∧ Hid (out2.data.toList = s7.data.toList ++ depthsL (o.ds.take j)) ∧ out2.size ≤ s7.size + j * 22 ∧ Bk wi gb 37 #[.int .i64 o.kind, .int .i64 o.feat, .int .i64 o.tool, .slice o.da o.dn o.dc, .int .i64 o.leave]) (fun _ i _ => o.dn - (intOf i).toNat)
        case atStart => exact ⟨0, s7, Nat.zero_le _, rfl, rfl, hbel5, by show _ = _; simp [depthsL], by omega, hbk5⟩
        case round =>
          clear hbk5 hbel5 hds
          obtain ⟨j, out2, hj, rfl, rfl, hbel6, Ho2, hos2, hbk6⟩ := hrel
          have hz6 := hbel6.size
          have f3 := hbk6.cell 3
          simp at f3
          by_cases hltd : j < o.dn
          · obtain ⟨b3, off3, x, hA3, hb3, hx, hcx⟩ := ((ha.2.2 o (List.mem_of_getElem? hoo.out)).below hbel6).at_ hltd
            have hix := hid x (List.mem_of_getElem? hx.out)
            have zx := dec_size x hix
            obtain ⟨s8, e8⟩ : ∃ s, out2 ++ (⟨#[32]⟩ : ByteArray) = s := ⟨_, rfl⟩
            obtain ⟨s9, e9⟩ : ∃ s, s8 ++ dec x = s := ⟨_, rfl⟩
            have q8 := size_add _ _ _ e8
            have q9 := size_add _ _ _ e9
            have k8 : (⟨#[32]⟩ : ByteArray).size = 1 := rfl
            have a8 := add_str _ _ _ e8 (by omega)
            have a9 := add_str _ _ _ e9 (by omega)
            have hs9 : s9.size ≤ out2.size + 22 := by omega
            have Hl8 : Hid (s9.data.toList = out2.data.toList ++ 32 :: Lib.itoa x) := by
              show _ = _
              rw [← e9, ← e8]; simp [dec, ByteArray.data_append]
            have hp6 : Pow wr := hp.below hbel6
            clear q8 q9 k8 e8 e9 zx
            rw [hA3] at f3
            go_wp2_with (go_at_call 29; refine (fint_any _ _ (by assumption) hp6).mono ?_; rintro e w8 ⟨rfl, hb8⟩)
            go_roundw
            case rel =>
              refine ⟨j + 1, s9, by omega, by go_num, rfl, hbel6.trans (hb8.mono hz6), ?_, by omega, hbk6.below hb8⟩
              show _ = _
              rw [depths_snoc _ _ _ hx.out, Hl8.out, Ho2.out, List.append_assoc]
            case measure => simp [intOf]; omega
          · obtain rfl : j = o.dn := by omega
            have hdl : o.ds.take o.dn = o.ds := List.take_of_length_le (by have := (ha.2.2 o (List.mem_of_getElem? hoo.out)).len; omega)
            have Ho3 := Ho2.out
            rw [hdl] at Ho3
            have Ho4 := Lib.hid Ho3
            clear hdl Ho2 Ho3
            obtain ⟨s9, e9⟩ : ∃ s, out2 ++ (⟨#[10]⟩ : ByteArray) = s := ⟨_, rfl⟩
            have q9 := size_add _ _ _ e9
            have k9 : (⟨#[10]⟩ : ByteArray).size = 1 := rfl
            have a9 := add_str _ _ _ e9 (by omega)
            have hs9 : s9.size ≤ out2.size + 1 := by omega
            have Hl9 : Hid (s9.data.toList = textL (os.take (k + 1))) := by
              show _ = _
              rw [← e9, text_snoc hoo.out, lineL, Hnm.out, ← List.append_assoc, ← List.append_assoc, ← He.out, ← Ho4.out]
              simp [ByteArray.data_append]
            clear q9 k9 e9
            go_wp2
            go_roundw
            case rel => exact ⟨k + 1, s9, by omega, by go_num, rfl, hbel6, Hl9, by omega⟩
            case measure => simp [intOf]; omega
    · obtain rfl : k = n := by omega
      have Ho : Hid (out = ⟨(textL os).toArray⟩) := by
        show _ = _
        rw [← mk_toList out, Hout.out, List.take_of_length_le (by omega)]
      go_wp2
      go_ret
      exact ⟨by rw [Ho.out]; rfl, hbel⟩
end Go.Proofs.YtcgjojjgagaliaaDoor
