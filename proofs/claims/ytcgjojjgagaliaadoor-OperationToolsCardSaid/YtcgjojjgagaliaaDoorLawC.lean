/- Layer 28: the laws OperationNeeds, OperationFormat and OperationTools return true. The table of powers of ten is as its initialiser lays it; the numbers of the operations are int64s. -/
import Derived.Test.YtcgjojjgagaliaaDoorAwake
import Derived.Test.YtcgjojjgagaliaaDoorOpD
import Derived.Test.YtcgjojjgagaliaaDoorOpG
import Derived.Test.YtcgjojjgagaliaaDoorOpI
namespace Go.Proofs.YtcgjojjgagaliaaDoor
open Go.RowKit
set_option maxHeartbeats 1000000 in
theorem law_needs (A : Option Addr) (n c : Nat) (os : List OpR) (w : World) (ha : RdO w A n os) (hA : A = none → n = 0) (hn : n ≤ 9223372036854775807) (hp : Pow w) :
    Calls Tryd.prog 5 #[.slice A n c] w fun e w' => e = .returned (.bool true) ∧ Below w.heap.size w w' := by
  have hlen := ha.1
  have HA := Lib.hid hA; clear hA
  obtain ⟨t, ht⟩ : ∃ t, fewB os 20 = t := ⟨_, rfl⟩
  have Ht := Lib.hid ht; clear ht
  go_enter Tryd.func5, Tryd.ntmps5
  go_wp2_with fail
  refine (awake_any w hp).mono ?_
  rintro e w1 ⟨rfl, hb1⟩
  go_wp2_with fail
  refine (few_any A n c 20 os _ (ha.below hb1) hn).mono ?_
  rintro e w2 ⟨rfl, hb2⟩
  have hbA := hb1.trans (hb2.mono hb1.size)
  have ra := ha.below hbA
  clear hb1 hb2
  rw [Ht.out]
  cases t
  · go_wp2
    go_ret
    exact ⟨rfl, hbA⟩
  · have hn2 : n ≤ 20 := by
      have h := Ht.out
      unfold fewB at h
      simp at h
      omega
    go_wp2_with fail
    refine (clone_ops A n c os w2 ra (by omega) HA.out).mono ?_
    rintro e w3 ⟨A3, c3, rfl, hA3, r3, hb3⟩
    have hbB := hbA.trans (hb3.mono hbA.size)
    have rb := ra.below hb3
    go_wp2_with fail
    refine (needs_any A3 n c3 os w3 r3 (by omega)).mono ?_
    rintro e w4 ⟨v4, rfl, hown4, hb4⟩
    obtain ⟨A4, c4, rfl⟩ := own_form hown4
    have hbC := hbB.trans (hb4.mono hbB.size)
    have rc := rb.below hb4
    have rp4 : RdP w4 A4 _ (need os n) := Rd.own hown4
    go_wp2_with fail
    refine (rneeds_any A n c os w4 rc (by omega)).mono ?_
    rintro e w5 ⟨v5, rfl, hown5, hb5⟩
    obtain ⟨A5, c5, rfl⟩ := own_form hown5
    have hbD := hbC.trans (hb5.mono hbC.size)
    have rp5 : RdP w5 A5 _ (need os n) := Rd.own hown5
    have hnl : (need os n).length ≤ 9223372036854775807 := by
      have := need_le os n
      have := Nat.mul_le_mul hn2 (show os.length ≤ 20 by omega)
      omega
    go_wp2_with fail
    refine (equal_pairs A4 A5 _ _ _ _ _ _ w5 (rp4.below hb5) rp5 hnl).mono ?_
    rintro e w6 ⟨rfl, hb6⟩
    go_wp2
    go_ret
    exact ⟨ret_bool (by simp), hbD.trans (hb6.mono hbD.size)⟩

theorem fine_of {os : List OpR} {w : World} {A : Option Addr} {n : Nat} (h : RdO w A n os) (hf : fewB os 20 = true) (hb : ∀ o ∈ os, i64b o.feat ∧ i64b o.tool ∧ i64b o.leave ∧ ∀ d ∈ o.ds, i64b d) : ∀ o ∈ os, Fine o := by
  intro o ho
  obtain ⟨b1, b2, b3, b4⟩ := hb o ho
  unfold fewB at hf
  simp at hf
  exact ⟨b1, b2, b3, b4, by have := hf.1 o ho; omega⟩
set_option maxHeartbeats 1000000 in
theorem law_format (A : Option Addr) (n c : Nat) (os : List OpR) (w : World) (ha : RdO w A n os) (hA : A = none → n = 0) (hn : n ≤ 9223372036854775807) (hbd : ∀ o ∈ os, i64b o.feat ∧ i64b o.tool ∧ i64b o.leave ∧ ∀ d ∈ o.ds, i64b d) (hp : Pow w) :
    Calls Tryd.prog 6 #[.slice A n c] w fun e w' => e = .returned (.bool true) ∧ Below w.heap.size w w' := by
  have hlen := ha.1
  have HA := Lib.hid hA; clear hA
  have Hbd := Lib.hid hbd; clear hbd
  obtain ⟨t, ht⟩ : ∃ t, fewB os 20 = t := ⟨_, rfl⟩
  have Ht := Lib.hid ht; clear ht
  go_enter Tryd.func6, Tryd.ntmps6
  go_wp2_with fail
  refine (awake_any w hp).mono ?_
  rintro e w1 ⟨rfl, hb1⟩
  go_wp2_with fail
  refine (few_any A n c 20 os _ (ha.below hb1) hn).mono ?_
  rintro e w2 ⟨rfl, hb2⟩
  have hbA := hb1.trans (hb2.mono hb1.size)
  have ra := ha.below hbA
  clear hb1 hb2
  rw [Ht.out]
  cases t
  · go_wp2
    go_ret
    exact ⟨rfl, hbA⟩
  · have hn2 : n ≤ 20 := by
      have h := Ht.out
      unfold fewB at h
      simp at h
      omega
    have Hfine := Lib.hid (fine_of ra Ht.out Hbd.out)
    go_wp2_with fail
    refine (clone_ops A n c os w2 ra (by omega) HA.out).mono ?_
    rintro e w3 ⟨A3, c3, rfl, hA3, r3, hb3⟩
    have hbB := hbA.trans (hb3.mono hbA.size)
    have rb := ra.below hb3
    go_wp2_with fail
    refine (format_any A3 n c3 os w3 r3 (by omega) Hfine.out (hp.below hbB)).mono ?_
    rintro e w4 ⟨rfl, hb4⟩
    have hbC := hbB.trans (hb4.mono hbB.size)
    have rc := rb.below hb4
    obtain ⟨s, hs⟩ : ∃ s : ByteArray, (⟨(textL os).toArray⟩ : ByteArray) = s := ⟨_, rfl⟩
    rw [hs]
    have Hs := Lib.hid hs; clear hs
    go_wp2_with fail
    refine (rformat_any A n c os w4 rc (by omega) Hfine.out (hp.below hbC)).mono ?_
    rintro e w5 ⟨rfl, hb5⟩
    rw [Hs.out]
    go_wp2
    go_ret
    exact ⟨ret_bool (by simp), hbC.trans (hb5.mono hbC.size)⟩
set_option maxHeartbeats 1000000 in
theorem law_tools (A B : Option Addr) (n c m d : Nat) (k : Int) (os : List OpR) (ts : List ToolR) (w : World) (ha : RdO w A n os) (hA : A = none → n = 0) (hn : n ≤ 9223372036854775807)
    (hb : RdT w B m ts) (hB : B = none → m = 0) (hm : m ≤ 9223372036854775807) (hp : Pow w) :
    Calls Tryd.prog 7 #[.slice A n c, .slice B m d, .int .i64 k] w fun e w' => e = .returned (.bool true) ∧ Below w.heap.size w w' := by
  have hlen := ha.1
  have HA := Lib.hid hA; clear hA
  have HB := Lib.hid hB; clear hB
  obtain ⟨t, ht⟩ : ∃ t, fewB os 20 = t := ⟨_, rfl⟩
  have Ht := Lib.hid ht; clear ht
  go_enter Tryd.func7, Tryd.ntmps7
  go_wp2_with fail
  refine (awake_any w hp).mono ?_
  rintro e w1 ⟨rfl, hb1⟩
  go_wp2_with fail
  refine (few_any A n c 20 os _ (ha.below hb1) hn).mono ?_
  rintro e w2 ⟨rfl, hb2⟩
  have hbA := hb1.trans (hb2.mono hb1.size)
  have ra := ha.below hbA
  have rta := hb.below hbA
  clear hb1 hb2
  rw [Ht.out]
  cases t
  · go_wp2
    go_ret
    exact ⟨rfl, hbA⟩
  · have hn2 : n ≤ 20 := by
      have h := Ht.out
      unfold fewB at h
      simp at h
      omega
    by_cases hm2 : m ≤ 20
    · go_wp2_with fail
      refine (clone_ops A n c os w2 ra (by omega) HA.out).mono ?_
      rintro e w3 ⟨A3, c3, rfl, hA3, r3, hb3⟩
      have hbB := hbA.trans (hb3.mono hbA.size)
      have rb := ra.below hb3
      have rtb := rta.below hb3
      go_wp2_with fail
      refine (clone_tools B m d ts w3 rtb (by omega) HB.out).mono ?_
      rintro e w4 ⟨A4, c4, rfl, r4, hb4⟩
      have hbC := hbB.trans (hb4.mono hbB.size)
      have rc := rb.below hb4
      have rtc := rtb.below hb4
      go_wp2_with fail
      refine (tools_any A3 A4 n c3 m c4 os ts w4 (r3.below hb4) r4 (by omega) (by omega)).mono ?_
      rintro e w5 ⟨v5, h5, hb5⟩
      have hbD := hbC.trans (hb5.mono hbC.size)
      have rd := rc.below hb5
      have rtd := rtc.below hb5
      have hl2 := rtd.1
      by_cases hok : okTools os ts.length = true
      · rw [if_pos hok] at h5
        obtain ⟨rfl, hown5⟩ := h5
        rw [hlen] at hown5
        obtain ⟨A5, c5, rfl⟩ := own_form hown5
        have rp5 : RdI .i64 w5 A5 _ (toolNums os ts) := Rd.own hown5
        go_wp2_with fail
        refine (rtools_any A B n c m d os ts w5 rd rtd (by omega) (by omega)).mono ?_
        rintro e w6 ⟨v6, h6, hb6⟩
        have hbE := hbD.trans (hb6.mono hbD.size)
        rw [if_pos hok] at h6
        obtain ⟨rfl, hown6⟩ := h6
        rw [hlen] at hown6
        obtain ⟨A6, c6, rfl⟩ := own_form hown6
        have rp6 : RdI .i64 w6 A6 _ (toolNums os ts) := Rd.own hown6
        clear hown5 hown6
        go_wp2_with fail
        refine (equal_int A5 A6 n n c5 c6 _ _ w6 (rp5.below hb6) rp6 (by omega)).mono ?_
        rintro e w7 ⟨rfl, hb7⟩
        have hbF := hbE.trans (hb7.mono hbE.size)
        clear hlen
        go_wp2_with (first
          | (go_at_call 23; refine (kind_any k w7).mono ?_; rintro e w8 ⟨rfl, hb8⟩)
          | (go_at_call 24; refine (rkind_any k _).mono ?_; rintro e w9 ⟨rfl, rfl⟩))
        go_ret
        exact ⟨ret_bool (by simp), hbF.trans (hb8.mono hbF.size)⟩
      · rw [if_neg hok] at h5
        obtain ⟨rfl, rfl⟩ := h5
        go_wp2_with fail
        refine (rtools_any A B n c m d os ts w5 rd rtd (by omega) (by omega)).mono ?_
        rintro e w6 ⟨v6, h6, hb6⟩
        have hbE := hbD.trans (hb6.mono hbD.size)
        rw [if_neg hok] at h6
        obtain ⟨rfl, rfl⟩ := h6
        go_wp2_with fail
        refine (equal_int none none 0 0 0 0 [] [] w6 Rd.nil Rd.nil (by omega)).mono ?_
        rintro e w7 ⟨rfl, hb7⟩
        have hbF := hbE.trans (hb7.mono hbE.size)
        clear hlen
        go_wp2_with (first
          | (go_at_call 23; refine (kind_any k w7).mono ?_; rintro e w8 ⟨rfl, hb8⟩)
          | (go_at_call 24; refine (rkind_any k _).mono ?_; rintro e w9 ⟨rfl, rfl⟩))
        go_ret
        exact ⟨ret_bool (by simp), hbF.trans (hb8.mono hbF.size)⟩
    · go_wp2
      go_ret
      exact ⟨rfl, hbA⟩
end Go.Proofs.YtcgjojjgagaliaaDoor
