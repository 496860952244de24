/- Small; RadicalOrder: the law at all readings. -/
import Derived.Test.YtcbjmiddangfoaaGreatRoA
namespace Go.Proofs.YtcbjmiddangfoaaGreat
open Go Go.RowKit
theorem ySmall5_A {x y z : RN} (oF : Ok Tryz.prog 8 [.c (.s 3 (cN x ++ cN y ++ cN z))] [.c (.b false)]) : Ok Tryz.prog 14 [.a (cN x ++ cN y ++ cN z)] [.c (.b false)] := by
  refine Ok.of (by kernel_rfl) Tryz.func14 rfl rfl ?_
  rw [show Tryz.f14.ntmps = 48 from rfl, show Tryz.f14.results.toList = [.tmp 2] from rfl]
  refine dw_seq ?_
  -- region 0
  refine dw_region (by kernel_rfl) ?_
  refine dl_new (sem_box_a rfl rfl) rfl ?_
  refine dl_r (sem_assign rfl rfl) ?_
  refine dl_end ?_
  refine dw_seq ?_
  refine dw_seq ?_
  -- region 1
  refine dw_region (by kernel_rfl) ?_
  refine dl_r (sem_field fd39_0 rfl rfl) ?_
  refine dl_r (sem_load (us := cN x) ty26 rfl rfl rfl rfl rfl) ?_
  refine dl_r (sem_field fd39_1 rfl rfl) ?_
  refine dl_r (sem_load (us := cN y) ty26 rfl rfl rfl rfl rfl) ?_
  refine dl_r (sem_field fd39_2 rfl rfl) ?_
  refine dl_r (sem_load (us := cN z) ty26 rfl rfl rfl rfl rfl) ?_
  refine dl_r (sem_slit_D (n := 3) (us := cN x ++ cN y ++ cN z) el55 rfl rfl rfl (by decide) (by decide) rfl) ?_
  refine dl_r (sem_call rfl rfl (oF) rfl) ?_
  refine dl_r (sem_not rfl rfl) ?_
  refine dl_end ?_
  refine dw_true rfl ?_
  refine dw_seq ?_
  -- region 2
  refine dw_region (by kernel_rfl) ?_
  refine dl_r (sem_assign rfl rfl) ?_
  refine dl_end ?_
  refine dw_ret ?_
  -- path 
  exact ⟨.inr rfl, (resL_tmp rfl resL_nil)⟩
theorem ySmall5_R {a b c : Rat} (ha : Rz 2 a) (hb : Rz 2 b) (hc : Rz 2 c) (oF : Ok Tryz.prog 8 [.c (.s 3 (cR a ++ cR b ++ cR c))] [.c (.b true)]) : Ok Tryz.prog 14 [.a (cR a ++ cR b ++ cR c)] [.c (.b (vRoot b c))] := by
  have kb : Rz 300 b := hb.mono (by decide)
  have kc : Rz 300 c := hc.mono (by decide)
  refine Ok.of (by kernel_rfl) Tryz.func14 rfl rfl ?_
  rw [show Tryz.f14.ntmps = 48 from rfl, show Tryz.f14.results.toList = [.tmp 2] from rfl]
  refine dw_seq ?_
  -- region 0
  refine dw_region (by kernel_rfl) ?_
  refine dl_new (sem_box_a rfl rfl) rfl ?_
  refine dl_r (sem_assign rfl rfl) ?_
  refine dl_end ?_
  refine dw_seq ?_
  refine dw_seq ?_
  -- region 1
  refine dw_region (by kernel_rfl) ?_
  refine dl_r (sem_field fd39_0 rfl rfl) ?_
  refine dl_r (sem_load (us := cR a) ty26 rfl rfl rfl rfl rfl) ?_
  refine dl_r (sem_field fd39_1 rfl rfl) ?_
  refine dl_r (sem_load (us := cR b) ty26 rfl rfl rfl rfl rfl) ?_
  refine dl_r (sem_field fd39_2 rfl rfl) ?_
  refine dl_r (sem_load (us := cR c) ty26 rfl rfl rfl rfl rfl) ?_
  refine dl_r (sem_slit_D (n := 3) (us := cR a ++ cR b ++ cR c) el55 rfl rfl rfl (by decide) (by decide) rfl) ?_
  refine dl_r (sem_call rfl rfl (oF) rfl) ?_
  refine dl_r (sem_not rfl rfl) ?_
  refine dl_end ?_
  refine dw_false rfl ?_
  refine dw_skip ?_
  refine dw_seq ?_
  refine dw_seq ?_
  -- region 3
  refine dw_region (by kernel_rfl) ?_
  refine dl_r (sem_field fd39_1 rfl rfl) ?_
  refine dl_r (sem_load (us := cR b) ty26 rfl rfl rfl rfl rfl) ?_
  refine dl_r (sem_call rfl rfl (sSign_ok) rfl) ?_
  refine dl_r (sem_cmp rfl rfl rfl rfl) ?_
  refine dl_rb (sem_move rfl rfl) (fun c1 hb1 => ?_)
  cases c1
  · refine dl_r (sem_field fd39_2 rfl rfl) ?_
    refine dl_r (sem_load (us := cR c) ty26 rfl rfl rfl rfl rfl) ?_
    refine dl_r (sem_call rfl rfl (sSign_ok) rfl) ?_
    refine dl_r (sem_cmp rfl rfl rfl rfl) ?_
    refine dl_r (sem_pick rfl rfl rfl rfl) ?_
    refine dl_end ?_
    refine dw_cond rfl (fun hc2 => ?_) (fun hc2 => ?_)
    · refine dw_seq ?_
      -- region 4
      refine dw_region (by kernel_rfl) ?_
      refine dl_r (sem_field fd39_1 rfl rfl) ?_
      refine dl_r (sem_load (us := cR b) ty26 rfl rfl rfl rfl rfl) ?_
      refine dl_r (sem_call rfl rfl (sSign_ok) rfl) ?_
      refine dl_r (sem_cmp rfl rfl rfl rfl) ?_
      refine dl_rb (sem_move rfl rfl) (fun c3 hb3 => ?_)
      cases c3
      · refine dl_skip (sem_skip rfl) ?_
        refine dl_skip (sem_skip rfl) ?_
        refine dl_skip (sem_skip rfl) ?_
        refine dl_skip (sem_skip rfl) ?_
        refine dl_r (sem_pick rfl rfl rfl rfl) ?_
        refine dl_r (sem_assign rfl rfl) ?_
        refine dl_end ?_
        refine dw_ret ?_
        -- path fTf
        rw [vRoot_c hb1 hc2]
        exact ⟨.inr rfl, (resL_tmp rfl resL_nil)⟩
      · exact absurd hb3 (by rw [hb1]; decide)
    · refine dw_skip ?_
      refine dw_seq ?_
      -- region 5
      refine dw_region (by kernel_rfl) ?_
      refine dl_r (sem_field fd39_2 rfl rfl) ?_
      refine dl_r (sem_load (us := cR c) ty26 rfl rfl rfl rfl rfl) ?_
      refine dl_r (sem_call rfl rfl (sSqrt_ok (by first | assumption | exact Rz.mono hc (by decide))) rfl) ?_
      refine dl_r (sem_move rfl rfl) ?_
      refine dl_r (sem_extract rfl rfl rfl) ?_
      refine dl_r (sem_extract rfl rfl rfl) ?_
      refine dl_new (sem_alloc zc26 rfl) rfl ?_
      refine dl_st (sem_store_a ty26 rfl rfl rfl rfl rfl rfl) ?_
      refine dl_r (sem_assign rfl rfl) ?_
      refine dl_end ?_
      refine dw_seq ?_
      -- region 6
      refine dw_region (by kernel_rfl) ?_
      refine dl_r (sem_field fd39_2 rfl rfl) ?_
      refine dl_r (sem_load (us := cR c) ty26 rfl rfl rfl rfl rfl) ?_
      refine dl_r (sem_call rfl rfl (sSign_ok) rfl) ?_
      refine dl_r (sem_cmp rfl rfl rfl rfl) ?_
      refine dl_rb (sem_move rfl rfl) (fun c4 hb4 => ?_)
      cases c4
      · refine dl_skip (sem_skip rfl) ?_
        refine dl_skip (sem_skip rfl) ?_
        refine dl_r (sem_pick rfl rfl rfl rfl) ?_
        refine dl_r (sem_assign rfl rfl) ?_
        refine dl_end ?_
        refine dw_ret ?_
        -- path fFf
        rw [vRoot_n hb1 hc2, hb4, Bool.false_and]
        exact ⟨.inr rfl, (resL_tmp rfl resL_nil)⟩
      · refine dl_r (sem_move rfl rfl) ?_
        refine dl_r (sem_not rfl rfl) ?_
        refine dl_r (sem_pick rfl rfl rfl rfl) ?_
        refine dl_r (sem_assign rfl rfl) ?_
        refine dl_end ?_
        refine dw_ret ?_
        -- path fFt
        rw [vRoot_n hb1 hc2, hb4, Bool.true_and]
        exact ⟨.inr rfl, (resL_tmp rfl resL_nil)⟩
  · refine dl_skip (sem_skip rfl) ?_
    refine dl_skip (sem_skip rfl) ?_
    refine dl_skip (sem_skip rfl) ?_
    refine dl_skip (sem_skip rfl) ?_
    refine dl_r (sem_pick rfl rfl rfl rfl) ?_
    refine dl_end ?_
    refine dw_true rfl ?_
    refine dw_seq ?_
    -- region 4
    refine dw_region (by kernel_rfl) ?_
    refine dl_r (sem_field fd39_1 rfl rfl) ?_
    refine dl_r (sem_load (us := cR b) ty26 rfl rfl rfl rfl rfl) ?_
    refine dl_r (sem_call rfl rfl (sSign_ok) rfl) ?_
    refine dl_r (sem_cmp rfl rfl rfl rfl) ?_
    refine dl_rb (sem_move rfl rfl) (fun c5 hb5 => ?_)
    cases c5
    · exact absurd hb1 (by rw [hb5]; decide)
    · refine dl_r (sem_field fd39_2 rfl rfl) ?_
      refine dl_r (sem_load (us := cR c) ty26 rfl rfl rfl rfl rfl) ?_
      refine dl_r (sem_call rfl rfl (sSign_ok) rfl) ?_
      refine dl_r (sem_cmp rfl rfl rfl rfl) ?_
      refine dl_r (sem_pick rfl rfl rfl rfl) ?_
      refine dl_r (sem_assign rfl rfl) ?_
      refine dl_end ?_
      refine dw_ret ?_
      -- path tt
      rw [vRoot_b hb1]
      exact ⟨.inr rfl, (resL_tmp rfl resL_nil)⟩
theorem small5_ex {x y z : RN} (w1 : x.Wf) (w2 : y.Wf) (w3 : z.Wf) : Ok Tryz.prog 14 [.a (cN x ++ cN y ++ cN z)] [.c (.b false)] ∨
    (Ok Tryz.prog 14 [.a (cN x ++ cN y ++ cN z)] [.c (.b true)] ∧ ∃ a b c : Rat, Rz 2 a ∧ Rz 2 b ∧ Rz 2 c ∧ vRoot b c = true ∧ (cN x ++ cN y ++ cN z) = (cR a ++ cR b ++ cR c)) := by
  rcases few3 w1 w2 w3 with h | ⟨a, b, c, g1, g2, g3, e1, e2, e3, h⟩
  · exact .inl (ySmall5_A h)
  · have h1 := ySmall5_R g1 g2 g3 h
    cases hv : vRoot b c with
    | false => rw [hv] at h1; rw [e1, e2, e3]; exact .inl h1
    | true => rw [hv] at h1; rw [e1, e2, e3]; exact .inr ⟨h1, a, b, c, g1, g2, g3, hv, rfl⟩
theorem lwO5_0 {x1 x2 x3 y1 y2 y3 z1 z2 z3 : RN} (oS1 : Ok Tryz.prog 14 [.a (cN x1 ++ cN x2 ++ cN x3)] [.c (.b false)]) : Ok Tryz.prog 5 [.a (cN x1 ++ cN x2 ++ cN x3), .a (cN y1 ++ cN y2 ++ cN y3), .a (cN z1 ++ cN z2 ++ cN z3)] [.c (.b true)] := by
  refine Ok.of (by kernel_rfl) Tryz.func5 rfl rfl ?_
  rw [show Tryz.f5.ntmps = 128 from rfl, show Tryz.f5.results.toList = [.tmp 6] from rfl]
  refine dw_seq ?_
  -- region 0
  refine dw_region (by kernel_rfl) ?_
  refine dl_new (sem_box_a rfl rfl) rfl ?_
  refine dl_new (sem_box_a rfl rfl) rfl ?_
  refine dl_new (sem_box_a rfl rfl) rfl ?_
  refine dl_r (sem_assign rfl rfl) ?_
  refine dl_end ?_
  refine dw_seq ?_
  refine dw_seq ?_
  -- region 1
  refine dw_region (by kernel_rfl) ?_
  refine dl_r (sem_call rfl rfl (awake5_ok) rfl) ?_
  refine dl_r (sem_not rfl rfl) ?_
  refine dl_r (sem_move rfl rfl) ?_
  refine dl_r (sem_load (us := (cN x1 ++ cN x2 ++ cN x3)) ty39 rfl rfl rfl rfl rfl) ?_
  refine dl_r (sem_call rfl rfl (oS1) rfl) ?_
  refine dl_r (sem_not rfl rfl) ?_
  refine dl_r (sem_pick rfl rfl rfl rfl) ?_
  refine dl_r (sem_move rfl rfl) ?_
  refine dl_skip (sem_skip rfl) ?_
  refine dl_skip (sem_skip rfl) ?_
  refine dl_skip (sem_skip rfl) ?_
  refine dl_r (sem_pick rfl rfl rfl rfl) ?_
  refine dl_r (sem_move rfl rfl) ?_
  refine dl_skip (sem_skip rfl) ?_
  refine dl_skip (sem_skip rfl) ?_
  refine dl_skip (sem_skip rfl) ?_
  refine dl_r (sem_pick rfl rfl rfl rfl) ?_
  refine dl_end ?_
  refine dw_true rfl ?_
  refine dw_seq ?_
  -- region 2
  refine dw_region (by kernel_rfl) ?_
  refine dl_r (sem_call rfl rfl (awake5_ok) rfl) ?_
  refine dl_r (sem_assign rfl rfl) ?_
  refine dl_end ?_
  refine dw_ret ?_
  -- path 
  exact ⟨.inr rfl, (resL_tmp rfl resL_nil)⟩
theorem lwO5_1 {x1 x2 x3 y1 y2 y3 z1 z2 z3 : RN} (oS1 : Ok Tryz.prog 14 [.a (cN x1 ++ cN x2 ++ cN x3)] [.c (.b true)]) (oS2 : Ok Tryz.prog 14 [.a (cN y1 ++ cN y2 ++ cN y3)] [.c (.b false)]) : Ok Tryz.prog 5 [.a (cN x1 ++ cN x2 ++ cN x3), .a (cN y1 ++ cN y2 ++ cN y3), .a (cN z1 ++ cN z2 ++ cN z3)] [.c (.b true)] := by
  refine Ok.of (by kernel_rfl) Tryz.func5 rfl rfl ?_
  rw [show Tryz.f5.ntmps = 128 from rfl, show Tryz.f5.results.toList = [.tmp 6] from rfl]
  refine dw_seq ?_
  -- region 0
  refine dw_region (by kernel_rfl) ?_
  refine dl_new (sem_box_a rfl rfl) rfl ?_
  refine dl_new (sem_box_a rfl rfl) rfl ?_
  refine dl_new (sem_box_a rfl rfl) rfl ?_
  refine dl_r (sem_assign rfl rfl) ?_
  refine dl_end ?_
  refine dw_seq ?_
  refine dw_seq ?_
  -- region 1
  refine dw_region (by kernel_rfl) ?_
  refine dl_r (sem_call rfl rfl (awake5_ok) rfl) ?_
  refine dl_r (sem_not rfl rfl) ?_
  refine dl_r (sem_move rfl rfl) ?_
  refine dl_r (sem_load (us := (cN x1 ++ cN x2 ++ cN x3)) ty39 rfl rfl rfl rfl rfl) ?_
  refine dl_r (sem_call rfl rfl (oS1) rfl) ?_
  refine dl_r (sem_not rfl rfl) ?_
  refine dl_r (sem_pick rfl rfl rfl rfl) ?_
  refine dl_r (sem_move rfl rfl) ?_
  refine dl_r (sem_load (us := (cN y1 ++ cN y2 ++ cN y3)) ty39 rfl rfl rfl rfl rfl) ?_
  refine dl_r (sem_call rfl rfl (oS2) rfl) ?_
  refine dl_r (sem_not rfl rfl) ?_
  refine dl_r (sem_pick rfl rfl rfl rfl) ?_
  refine dl_r (sem_move rfl rfl) ?_
  refine dl_skip (sem_skip rfl) ?_
  refine dl_skip (sem_skip rfl) ?_
  refine dl_skip (sem_skip rfl) ?_
  refine dl_r (sem_pick rfl rfl rfl rfl) ?_
  refine dl_end ?_
  refine dw_true rfl ?_
  refine dw_seq ?_
  -- region 2
  refine dw_region (by kernel_rfl) ?_
  refine dl_r (sem_call rfl rfl (awake5_ok) rfl) ?_
  refine dl_r (sem_assign rfl rfl) ?_
  refine dl_end ?_
  refine dw_ret ?_
  -- path 
  exact ⟨.inr rfl, (resL_tmp rfl resL_nil)⟩
theorem lwO5_2 {x1 x2 x3 y1 y2 y3 z1 z2 z3 : RN} (oS1 : Ok Tryz.prog 14 [.a (cN x1 ++ cN x2 ++ cN x3)] [.c (.b true)]) (oS2 : Ok Tryz.prog 14 [.a (cN y1 ++ cN y2 ++ cN y3)] [.c (.b true)]) (oS3 : Ok Tryz.prog 14 [.a (cN z1 ++ cN z2 ++ cN z3)] [.c (.b false)]) : Ok Tryz.prog 5 [.a (cN x1 ++ cN x2 ++ cN x3), .a (cN y1 ++ cN y2 ++ cN y3), .a (cN z1 ++ cN z2 ++ cN z3)] [.c (.b true)] := by
  refine Ok.of (by kernel_rfl) Tryz.func5 rfl rfl ?_
  rw [show Tryz.f5.ntmps = 128 from rfl, show Tryz.f5.results.toList = [.tmp 6] from rfl]
  refine dw_seq ?_
  -- region 0
  refine dw_region (by kernel_rfl) ?_
  refine dl_new (sem_box_a rfl rfl) rfl ?_
  refine dl_new (sem_box_a rfl rfl) rfl ?_
  refine dl_new (sem_box_a rfl rfl) rfl ?_
  refine dl_r (sem_assign rfl rfl) ?_
  refine dl_end ?_
  refine dw_seq ?_
  refine dw_seq ?_
  -- region 1
  refine dw_region (by kernel_rfl) ?_
  refine dl_r (sem_call rfl rfl (awake5_ok) rfl) ?_
  refine dl_r (sem_not rfl rfl) ?_
  refine dl_r (sem_move rfl rfl) ?_
  refine dl_r (sem_load (us := (cN x1 ++ cN x2 ++ cN x3)) ty39 rfl rfl rfl rfl rfl) ?_
  refine dl_r (sem_call rfl rfl (oS1) rfl) ?_
  refine dl_r (sem_not rfl rfl) ?_
  refine dl_r (sem_pick rfl rfl rfl rfl) ?_
  refine dl_r (sem_move rfl rfl) ?_
  refine dl_r (sem_load (us := (cN y1 ++ cN y2 ++ cN y3)) ty39 rfl rfl rfl rfl rfl) ?_
  refine dl_r (sem_call rfl rfl (oS2) rfl) ?_
  refine dl_r (sem_not rfl rfl) ?_
  refine dl_r (sem_pick rfl rfl rfl rfl) ?_
  refine dl_r (sem_move rfl rfl) ?_
  refine dl_r (sem_load (us := (cN z1 ++ cN z2 ++ cN z3)) ty39 rfl rfl rfl rfl rfl) ?_
  refine dl_r (sem_call rfl rfl (oS3) rfl) ?_
  refine dl_r (sem_not rfl rfl) ?_
  refine dl_r (sem_pick rfl rfl rfl rfl) ?_
  refine dl_end ?_
  refine dw_true rfl ?_
  refine dw_seq ?_
  -- region 2
  refine dw_region (by kernel_rfl) ?_
  refine dl_r (sem_call rfl rfl (awake5_ok) rfl) ?_
  refine dl_r (sem_assign rfl rfl) ?_
  refine dl_end ?_
  refine dw_ret ?_
  -- path 
  exact ⟨.inr rfl, (resL_tmp rfl resL_nil)⟩
theorem lwO5_R {a b c d e f p q r : Rat} (ha : Rz 2 a) (hb : Rz 2 b) (hc : Rz 2 c) (hd : Rz 2 d) (he : Rz 2 e) (hf : Rz 2 f) (hp : Rz 2 p) (hq : Rz 2 q) (hr : Rz 2 r) (oS1 : Ok Tryz.prog 14 [.a (cR a ++ cR b ++ cR c)] [.c (.b true)]) (oS2 : Ok Tryz.prog 14 [.a (cR d ++ cR e ++ cR f)] [.c (.b true)]) (oS3 : Ok Tryz.prog 14 [.a (cR p ++ cR q ++ cR r)] [.c (.b true)]) {n1 n2 n3 : Int} (l1 : -1 ≤ n1) (u1 : n1 ≤ 1) (e1 : cmpP a b c d e f = n1) (e2 : cmpP d e f p q r = n2) (e3 : cmpP a b c p q r = n3) (e4 : cmpP d e f a b c = -n1) (e5 : cmpP (a + p) b c (d + p) e f = n1) (e6 : cmpP (a * p) (b * p) c (d * p) (e * p) f = n1 * cmpR p 0) (c1 : 0 ≤ n1 → 0 ≤ n2 → max n1 n2 ≤ n3) (c2 : n1 ≤ 0 → n2 ≤ 0 → n3 ≤ min n1 n2) : Ok Tryz.prog 5 [.a (cR a ++ cR b ++ cR c), .a (cR d ++ cR e ++ cR f), .a (cR p ++ cR q ++ cR r)] [.c (.b true)] := by
  have wa9 : Rz 100 a := ha.mono (by decide)
  have wd9 : Rz 100 d := hd.mono (by decide)
  have wp9 : Rz 100 p := hp.mono (by decide)
  have wb8 : Rz 8 b := hb.mono (by decide)
  have wc8 : Rz 8 c := hc.mono (by decide)
  have we8 : Rz 8 e := he.mono (by decide)
  have wf8 : Rz 8 f := hf.mono (by decide)
  have wq8 : Rz 8 q := hq.mono (by decide)
  have wr8 : Rz 8 r := hr.mono (by decide)
  have ka : Rz 300 a := ha.mono (by decide)
  have kb : Rz 300 b := hb.mono (by decide)
  have kc : Rz 300 c := hc.mono (by decide)
  have kd : Rz 300 d := hd.mono (by decide)
  have ke : Rz 300 e := he.mono (by decide)
  have kf : Rz 300 f := hf.mono (by decide)
  have kp : Rz 300 p := hp.mono (by decide)
  have kq : Rz 300 q := hq.mono (by decide)
  have kr : Rz 300 r := hr.mono (by decide)
  have s1 : Rz 8 (a - d) := (ha.sub hd).mono (by decide)
  have s2 : Rz 8 (d - p) := (hd.sub hp).mono (by decide)
  have s3 : Rz 8 (a - p) := (ha.sub hp).mono (by decide)
  have s4 : Rz 8 (d - a) := (hd.sub ha).mono (by decide)
  have t1a : Rz 100 (a + p) := (ha.add hp).mono (by decide)
  have t1d : Rz 100 (d + p) := (hd.add hp).mono (by decide)
  have t2a : Rz 100 (a * p) := (ha.mul hp).mono (by decide)
  have t2d : Rz 100 (d * p) := (hd.mul hp).mono (by decide)
  have t2b : Rz 8 (b * p) := (hb.mul hp).mono (by decide)
  have t2e : Rz 8 (e * p) := (he.mul hp).mono (by decide)
  have s5 : Rz 8 (a + p - (d + p)) := by rw [sub_mv]; exact s1
  have s6 : Rz 8 (a * p - d * p) := by rw [show a * p - d * p = (a - d) * p from by grind]; exact ((ha.sub hd).mul hp).mono (by decide)
  have hpb := prod_bd (show -1 ≤ n1 ∧ n1 ≤ 1 from ⟨l1, u1⟩) (cmpR_bd p 0)
  refine Ok.of (by kernel_rfl) Tryz.func5 rfl rfl ?_
  rw [show Tryz.f5.ntmps = 128 from rfl, show Tryz.f5.results.toList = [.tmp 6] from rfl]
  refine dw_seq ?_
  -- region 0
  refine dw_region (by kernel_rfl) ?_
  refine dl_new (sem_box_a rfl rfl) rfl ?_
  refine dl_new (sem_box_a rfl rfl) rfl ?_
  refine dl_new (sem_box_a rfl rfl) rfl ?_
  refine dl_r (sem_assign rfl rfl) ?_
  refine dl_end ?_
  refine dw_seq ?_
  refine dw_seq ?_
  -- region 1
  refine dw_region (by kernel_rfl) ?_
  refine dl_r (sem_call rfl rfl (awake5_ok) rfl) ?_
  refine dl_r (sem_not rfl rfl) ?_
  refine dl_r (sem_move rfl rfl) ?_
  refine dl_r (sem_load (us := (cR a ++ cR b ++ cR c)) ty39 rfl rfl rfl rfl rfl) ?_
  refine dl_r (sem_call rfl rfl (oS1) rfl) ?_
  refine dl_r (sem_not rfl rfl) ?_
  refine dl_r (sem_pick rfl rfl rfl rfl) ?_
  refine dl_r (sem_move rfl rfl) ?_
  refine dl_r (sem_load (us := (cR d ++ cR e ++ cR f)) ty39 rfl rfl rfl rfl rfl) ?_
  refine dl_r (sem_call rfl rfl (oS2) rfl) ?_
  refine dl_r (sem_not rfl rfl) ?_
  refine dl_r (sem_pick rfl rfl rfl rfl) ?_
  refine dl_r (sem_move rfl rfl) ?_
  refine dl_r (sem_load (us := (cR p ++ cR q ++ cR r)) ty39 rfl rfl rfl rfl rfl) ?_
  refine dl_r (sem_call rfl rfl (oS3) rfl) ?_
  refine dl_r (sem_not rfl rfl) ?_
  refine dl_r (sem_pick rfl rfl rfl rfl) ?_
  refine dl_end ?_
  refine dw_false rfl ?_
  refine dw_skip ?_
  refine dw_seq ?_
  -- region 3
  refine dw_draw 12 [] follows_mixed (by kernel_rfl) rfl rfl ?_
  refine dq_r (sem_load (us := (cR a ++ cR b ++ cR c)) ty39 rfl rfl rfl rfl rfl) ?_
  refine dq_r (sem_load (us := (cR d ++ cR e ++ cR f)) ty39 rfl rfl rfl rfl rfl) ?_
  refine dq_r (sem_call rfl rfl (rcasti (xCmp_ok wa9 wb8 wc8 wd9 we8 wf8 s1) e1) rfl) ?_
  refine dq_r (sem_load (us := (cR d ++ cR e ++ cR f)) ty39 rfl rfl rfl rfl rfl) ?_
  refine dq_r (sem_load (us := (cR p ++ cR q ++ cR r)) ty39 rfl rfl rfl rfl rfl) ?_
  refine dq_r (sem_call rfl rfl (rcasti (xCmp_ok wd9 we8 wf8 wp9 wq8 wr8 s2) e2) rfl) ?_
  refine dq_r (sem_load (us := (cR a ++ cR b ++ cR c)) ty39 rfl rfl rfl rfl rfl) ?_
  refine dq_r (sem_load (us := (cR p ++ cR q ++ cR r)) ty39 rfl rfl rfl rfl rfl) ?_
  refine dq_r (sem_call rfl rfl (rcasti (xCmp_ok wa9 wb8 wc8 wp9 wq8 wr8 s3) e3) rfl) ?_
  refine dq_r (sem_assign rfl rfl) ?_
  refine dq_r (sem_assign rfl rfl) ?_
  refine dq_r (sem_assign rfl rfl) ?_
  refine dq_end ?_
  refine dl_start0 ?_
  refine dl_end ?_
  refine dw_seq ?_
  refine dw_seq ?_
  -- region 4
  refine dw_region (by kernel_rfl) ?_
  refine dl_r (sem_move rfl rfl) ?_
  refine dl_r (sem_load (us := (cR d ++ cR e ++ cR f)) ty39 rfl rfl rfl rfl rfl) ?_
  refine dl_r (sem_load (us := (cR a ++ cR b ++ cR c)) ty39 rfl rfl rfl rfl rfl) ?_
  refine dl_r (sem_call rfl rfl (rcasti (xCmp_ok wd9 we8 wf8 wa9 wb8 wc8 s4) e4) rfl) ?_
  refine dl_r (sem_neg' (r := n1) rfl ((congrArg (IntKind.wrap .i64) (show 0 - -n1 = n1 by omega)).trans (nw64 (by omega) (by omega))) rfl) ?_
  refine dl_r (sem_castb (sem_cmp rfl rfl rfl rfl) (bne_self_eq_false n1)) ?_
  refine dl_r (sem_move rfl rfl) ?_
  refine dl_r (sem_move rfl rfl) ?_
  refine dl_r (sem_cmp rfl rfl rfl rfl) ?_
  refine dl_rb (sem_move rfl rfl) (fun c1 hb1 => ?_)
  cases c1
  · refine dl_skip (sem_skip rfl) ?_
    refine dl_skip (sem_skip rfl) ?_
    refine dl_r (sem_pick rfl rfl rfl rfl) ?_
    refine dl_r (sem_move rfl rfl) ?_
    refine dl_skip (sem_skip rfl) ?_
    refine dl_skip (sem_skip rfl) ?_
    refine dl_skip (sem_skip rfl) ?_
    refine dl_skip (sem_skip rfl) ?_
    refine dl_skip (sem_skip rfl) ?_
    refine dl_r (sem_pick rfl rfl rfl rfl) ?_
    refine dl_r (sem_pick rfl rfl rfl rfl) ?_
    refine dl_r (sem_move rfl rfl) ?_
    refine dl_r (sem_move rfl rfl) ?_
    refine dl_r (sem_cmp rfl rfl rfl rfl) ?_
    refine dl_rb (sem_move rfl rfl) (fun c2 hb2 => ?_)
    cases c2
    · refine dl_skip (sem_skip rfl) ?_
      refine dl_skip (sem_skip rfl) ?_
      refine dl_r (sem_pick rfl rfl rfl rfl) ?_
      refine dl_r (sem_move rfl rfl) ?_
      refine dl_skip (sem_skip rfl) ?_
      refine dl_skip (sem_skip rfl) ?_
      refine dl_skip (sem_skip rfl) ?_
      refine dl_skip (sem_skip rfl) ?_
      refine dl_skip (sem_skip rfl) ?_
      refine dl_r (sem_pick rfl rfl rfl rfl) ?_
      refine dl_r (sem_pick rfl rfl rfl rfl) ?_
      refine dl_end ?_
      refine dw_false rfl ?_
      refine dw_skip ?_
      refine dw_seq ?_
      -- region 6
      refine dw_region (by kernel_rfl) ?_
      refine dl_r (sem_field fd39_0 rfl rfl) ?_
      refine dl_r (sem_load (us := cR p) ty26 rfl rfl rfl rfl rfl) ?_
      refine dl_new (sem_alloc zc26 rfl) rfl ?_
      refine dl_st (sem_store_a ty26 rfl rfl rfl rfl rfl rfl) ?_
      refine dl_end ?_
      refine dw_seq ?_
      -- region 7
      refine dw_draw 6 [11, 12] follows_mixed (by kernel_rfl) rfl rfl ?_
      refine dq_r (sem_load (us := (cR a ++ cR b ++ cR c)) ty39 rfl rfl rfl rfl rfl) ?_
      refine dq_r (sem_load (us := (cR d ++ cR e ++ cR f)) ty39 rfl rfl rfl rfl rfl) ?_
      refine dq_new (sem_alloc zc39 rfl) rfl ?_
      refine dq_new (sem_alloc zc39 rfl) rfl ?_
      refine dq_sn (sem_store_a ty39 rfl rfl rfl rfl rfl rfl) rfl rfl rfl ?_
      refine dq_sn (sem_store_a ty39 rfl rfl rfl rfl rfl rfl) rfl rfl rfl ?_
      refine dq_end ?_
      refine dl_start4 ?_
      refine dl_end ?_
      refine dw_seq ?_
      -- region 8
      refine dw_draw 9 [] follows_mixed (by kernel_rfl) rfl rfl ?_
      refine dq_r (sem_field fd39_0 rfl rfl) ?_
      refine dq_r (sem_load (us := cR a) ty26 rfl rfl rfl rfl rfl) ?_
      refine dq_r (sem_load (us := cR p) ty26 rfl rfl rfl rfl rfl) ?_
      refine dq_r (sem_call rfl rfl (sAdd_ok (by first | assumption | exact Rz.mono ha (by decide)) (by first | assumption | exact Rz.mono hp (by decide))) rfl) ?_
      refine dq_r (sem_field fd39_0 rfl rfl) ?_
      refine dq_r (sem_load (us := cR d) ty26 rfl rfl rfl rfl rfl) ?_
      refine dq_r (sem_load (us := cR p) ty26 rfl rfl rfl rfl rfl) ?_
      refine dq_r (sem_call rfl rfl (sAdd_ok (by first | assumption | exact Rz.mono hd (by decide)) (by first | assumption | exact Rz.mono hp (by decide))) rfl) ?_
      refine dq_r (sem_field fd39_0 rfl rfl) ?_
      refine dq_end ?_
      refine dl_start0 ?_
      refine dl_st (sem_store (us := (cR (a + p) ++ cR b ++ cR c)) ty26 rfl rfl rfl rfl (Nat.le_of_ble_eq_true rfl) rfl rfl) ?_
      refine dl_r (sem_field fd39_0 rfl rfl) ?_
      refine dl_st (sem_store (us := (cR (d + p) ++ cR e ++ cR f)) ty26 rfl rfl rfl rfl (Nat.le_of_ble_eq_true rfl) rfl rfl) ?_
      refine dl_end ?_
      refine dw_seq ?_
      refine dw_seq ?_
      -- region 9
      refine dw_region (by kernel_rfl) ?_
      refine dl_r (sem_load (us := (cR (a + p) ++ cR b ++ cR c)) ty39 rfl rfl rfl rfl rfl) ?_
      refine dl_r (sem_load (us := (cR (d + p) ++ cR e ++ cR f)) ty39 rfl rfl rfl rfl rfl) ?_
      refine dl_r (sem_call rfl rfl (rcasti (xCmp_ok t1a wb8 wc8 t1d we8 wf8 s5) e5) rfl) ?_
      refine dl_r (sem_move rfl rfl) ?_
      refine dl_r (sem_castb (sem_cmp rfl rfl rfl rfl) (bne_self_eq_false n1)) ?_
      refine dl_end ?_
      refine dw_false rfl ?_
      refine dw_skip ?_
      refine dw_seq ?_
      refine dw_seq ?_
      -- region 11
      refine dw_region (by kernel_rfl) ?_
      refine dl_r (sem_load (us := cR p) ty26 rfl rfl rfl rfl rfl) ?_
      refine dl_r (sem_call rfl rfl (sSign_ok) rfl) ?_
      refine dl_r (sem_cmp rfl rfl rfl rfl) ?_
      refine dl_end ?_
      refine dw_cond rfl (fun hc3 => ?_) (fun hc3 => ?_)
      · refine dw_seq ?_
        -- region 12
        refine dw_region (by kernel_rfl) ?_
        refine dl_r (sem_assign rfl rfl) ?_
        refine dl_end ?_
        refine dw_ret ?_
        -- path ffT
        exact ⟨.inr rfl, (resL_tmp rfl resL_nil)⟩
      · refine dw_skip ?_
        refine dw_seq ?_
        -- region 13
        refine dw_draw 24 [11, 12] follows_mixed (by kernel_rfl) rfl rfl ?_
        refine dq_r (sem_field fd39_0 rfl rfl) ?_
        refine dq_r (sem_load (us := cR a) ty26 rfl rfl rfl rfl rfl) ?_
        refine dq_r (sem_load (us := cR p) ty26 rfl rfl rfl rfl rfl) ?_
        refine dq_r (sem_call rfl rfl (sMul_ok (by first | assumption | exact Rz.mono ha (by decide)) (by first | assumption | exact Rz.mono hp (by decide))) rfl) ?_
        refine dq_r (sem_field fd39_1 rfl rfl) ?_
        refine dq_r (sem_load (us := cR b) ty26 rfl rfl rfl rfl rfl) ?_
        refine dq_r (sem_load (us := cR p) ty26 rfl rfl rfl rfl rfl) ?_
        refine dq_r (sem_call rfl rfl (sMul_ok (by first | assumption | exact Rz.mono hb (by decide)) (by first | assumption | exact Rz.mono hp (by decide))) rfl) ?_
        refine dq_r (sem_field fd39_2 rfl rfl) ?_
        refine dq_r (sem_load (us := cR c) ty26 rfl rfl rfl rfl rfl) ?_
        refine dq_r (sem_build (us := (cR (a * p) ++ cR (b * p) ++ cR c)) fs39 zc39 rfl rfl rfl) ?_
        refine dq_r (sem_field fd39_0 rfl rfl) ?_
        refine dq_r (sem_load (us := cR d) ty26 rfl rfl rfl rfl rfl) ?_
        refine dq_r (sem_load (us := cR p) ty26 rfl rfl rfl rfl rfl) ?_
        refine dq_r (sem_call rfl rfl (sMul_ok (by first | assumption | exact Rz.mono hd (by decide)) (by first | assumption | exact Rz.mono hp (by decide))) rfl) ?_
        refine dq_r (sem_field fd39_1 rfl rfl) ?_
        refine dq_r (sem_load (us := cR e) ty26 rfl rfl rfl rfl rfl) ?_
        refine dq_r (sem_load (us := cR p) ty26 rfl rfl rfl rfl rfl) ?_
        refine dq_r (sem_call rfl rfl (sMul_ok (by first | assumption | exact Rz.mono he (by decide)) (by first | assumption | exact Rz.mono hp (by decide))) rfl) ?_
        refine dq_r (sem_field fd39_2 rfl rfl) ?_
        refine dq_r (sem_load (us := cR f) ty26 rfl rfl rfl rfl rfl) ?_
        refine dq_r (sem_build (us := (cR (d * p) ++ cR (e * p) ++ cR f)) fs39 zc39 rfl rfl rfl) ?_
        refine dq_st (sem_store_a ty39 rfl rfl rfl rfl rfl rfl) rfl rfl rfl ?_
        refine dq_st (sem_store_a ty39 rfl rfl rfl rfl rfl rfl) rfl rfl rfl ?_
        refine dq_end ?_
        refine dl_start2 ?_
        refine dl_end ?_
        refine dw_seq ?_
        -- region 14
        refine dw_draw 9 [] follows_mixed (by kernel_rfl) rfl rfl ?_
        refine dq_r (sem_load (us := (cR (a * p) ++ cR (b * p) ++ cR c)) ty39 rfl rfl rfl rfl rfl) ?_
        refine dq_r (sem_load (us := (cR (d * p) ++ cR (e * p) ++ cR f)) ty39 rfl rfl rfl rfl rfl) ?_
        refine dq_r (sem_call rfl rfl (rcasti (xCmp_ok t2a t2b wc8 t2d t2e wf8 s6) e6) rfl) ?_
        refine dq_r (sem_move rfl rfl) ?_
        refine dq_r (sem_load (us := cR p) ty26 rfl rfl rfl rfl rfl) ?_
        refine dq_r (sem_call rfl rfl (sSign_ok) rfl) ?_
        refine dq_r (sem_ari (r := n1 * cmpR p 0) rfl rfl (ari_i64_mul (by omega) (by omega)) rfl) ?_
        refine dq_r (sem_castb (sem_cmp rfl rfl rfl rfl) (beq_self_eq_true (n1 * cmpR p 0))) ?_
        refine dq_r (sem_assign rfl rfl) ?_
        refine dq_end ?_
        refine dl_start0 ?_
        refine dl_end ?_
        refine dw_ret ?_
        -- path ffF
        exact ⟨.inr rfl, (resL_tmp rfl resL_nil)⟩
    · refine dl_r (sem_move rfl rfl) ?_
      refine dl_r (sem_cmp rfl rfl rfl rfl) ?_
      refine dl_r (sem_pick rfl rfl rfl rfl) ?_
      refine dl_rb (sem_move rfl rfl) (fun c4 hb4 => ?_)
      cases c4
      · refine dl_skip (sem_skip rfl) ?_
        refine dl_skip (sem_skip rfl) ?_
        refine dl_skip (sem_skip rfl) ?_
        refine dl_skip (sem_skip rfl) ?_
        refine dl_skip (sem_skip rfl) ?_
        refine dl_r (sem_pick rfl rfl rfl rfl) ?_
        refine dl_r (sem_pick rfl rfl rfl rfl) ?_
        refine dl_end ?_
        refine dw_false rfl ?_
        refine dw_skip ?_
        refine dw_seq ?_
        -- region 6
        refine dw_region (by kernel_rfl) ?_
        refine dl_r (sem_field fd39_0 rfl rfl) ?_
        refine dl_r (sem_load (us := cR p) ty26 rfl rfl rfl rfl rfl) ?_
        refine dl_new (sem_alloc zc26 rfl) rfl ?_
        refine dl_st (sem_store_a ty26 rfl rfl rfl rfl rfl rfl) ?_
        refine dl_end ?_
        refine dw_seq ?_
        -- region 7
        refine dw_draw 6 [11, 12] follows_mixed (by kernel_rfl) rfl rfl ?_
        refine dq_r (sem_load (us := (cR a ++ cR b ++ cR c)) ty39 rfl rfl rfl rfl rfl) ?_
        refine dq_r (sem_load (us := (cR d ++ cR e ++ cR f)) ty39 rfl rfl rfl rfl rfl) ?_
        refine dq_new (sem_alloc zc39 rfl) rfl ?_
        refine dq_new (sem_alloc zc39 rfl) rfl ?_
        refine dq_sn (sem_store_a ty39 rfl rfl rfl rfl rfl rfl) rfl rfl rfl ?_
        refine dq_sn (sem_store_a ty39 rfl rfl rfl rfl rfl rfl) rfl rfl rfl ?_
        refine dq_end ?_
        refine dl_start4 ?_
        refine dl_end ?_
        refine dw_seq ?_
        -- region 8
        refine dw_draw 9 [] follows_mixed (by kernel_rfl) rfl rfl ?_
        refine dq_r (sem_field fd39_0 rfl rfl) ?_
        refine dq_r (sem_load (us := cR a) ty26 rfl rfl rfl rfl rfl) ?_
        refine dq_r (sem_load (us := cR p) ty26 rfl rfl rfl rfl rfl) ?_
        refine dq_r (sem_call rfl rfl (sAdd_ok (by first | assumption | exact Rz.mono ha (by decide)) (by first | assumption | exact Rz.mono hp (by decide))) rfl) ?_
        refine dq_r (sem_field fd39_0 rfl rfl) ?_
        refine dq_r (sem_load (us := cR d) ty26 rfl rfl rfl rfl rfl) ?_
        refine dq_r (sem_load (us := cR p) ty26 rfl rfl rfl rfl rfl) ?_
        refine dq_r (sem_call rfl rfl (sAdd_ok (by first | assumption | exact Rz.mono hd (by decide)) (by first | assumption | exact Rz.mono hp (by decide))) rfl) ?_
        refine dq_r (sem_field fd39_0 rfl rfl) ?_
        refine dq_end ?_
        refine dl_start0 ?_
        refine dl_st (sem_store (us := (cR (a + p) ++ cR b ++ cR c)) ty26 rfl rfl rfl rfl (Nat.le_of_ble_eq_true rfl) rfl rfl) ?_
        refine dl_r (sem_field fd39_0 rfl rfl) ?_
        refine dl_st (sem_store (us := (cR (d + p) ++ cR e ++ cR f)) ty26 rfl rfl rfl rfl (Nat.le_of_ble_eq_true rfl) rfl rfl) ?_
        refine dl_end ?_
        refine dw_seq ?_
        refine dw_seq ?_
        -- region 9
        refine dw_region (by kernel_rfl) ?_
        refine dl_r (sem_load (us := (cR (a + p) ++ cR b ++ cR c)) ty39 rfl rfl rfl rfl rfl) ?_
        refine dl_r (sem_load (us := (cR (d + p) ++ cR e ++ cR f)) ty39 rfl rfl rfl rfl rfl) ?_
        refine dl_r (sem_call rfl rfl (rcasti (xCmp_ok t1a wb8 wc8 t1d we8 wf8 s5) e5) rfl) ?_
        refine dl_r (sem_move rfl rfl) ?_
        refine dl_r (sem_castb (sem_cmp rfl rfl rfl rfl) (bne_self_eq_false n1)) ?_
        refine dl_end ?_
        refine dw_false rfl ?_
        refine dw_skip ?_
        refine dw_seq ?_
        refine dw_seq ?_
        -- region 11
        refine dw_region (by kernel_rfl) ?_
        refine dl_r (sem_load (us := cR p) ty26 rfl rfl rfl rfl rfl) ?_
        refine dl_r (sem_call rfl rfl (sSign_ok) rfl) ?_
        refine dl_r (sem_cmp rfl rfl rfl rfl) ?_
        refine dl_end ?_
        refine dw_cond rfl (fun hc5 => ?_) (fun hc5 => ?_)
        · refine dw_seq ?_
          -- region 12
          refine dw_region (by kernel_rfl) ?_
          refine dl_r (sem_assign rfl rfl) ?_
          refine dl_end ?_
          refine dw_ret ?_
          -- path ftfT
          exact ⟨.inr rfl, (resL_tmp rfl resL_nil)⟩
        · refine dw_skip ?_
          refine dw_seq ?_
          -- region 13
          refine dw_draw 24 [11, 12] follows_mixed (by kernel_rfl) rfl rfl ?_
          refine dq_r (sem_field fd39_0 rfl rfl) ?_
          refine dq_r (sem_load (us := cR a) ty26 rfl rfl rfl rfl rfl) ?_
          refine dq_r (sem_load (us := cR p) ty26 rfl rfl rfl rfl rfl) ?_
          refine dq_r (sem_call rfl rfl (sMul_ok (by first | assumption | exact Rz.mono ha (by decide)) (by first | assumption | exact Rz.mono hp (by decide))) rfl) ?_
          refine dq_r (sem_field fd39_1 rfl rfl) ?_
          refine dq_r (sem_load (us := cR b) ty26 rfl rfl rfl rfl rfl) ?_
          refine dq_r (sem_load (us := cR p) ty26 rfl rfl rfl rfl rfl) ?_
          refine dq_r (sem_call rfl rfl (sMul_ok (by first | assumption | exact Rz.mono hb (by decide)) (by first | assumption | exact Rz.mono hp (by decide))) rfl) ?_
          refine dq_r (sem_field fd39_2 rfl rfl) ?_
          refine dq_r (sem_load (us := cR c) ty26 rfl rfl rfl rfl rfl) ?_
          refine dq_r (sem_build (us := (cR (a * p) ++ cR (b * p) ++ cR c)) fs39 zc39 rfl rfl rfl) ?_
          refine dq_r (sem_field fd39_0 rfl rfl) ?_
          refine dq_r (sem_load (us := cR d) ty26 rfl rfl rfl rfl rfl) ?_
          refine dq_r (sem_load (us := cR p) ty26 rfl rfl rfl rfl rfl) ?_
          refine dq_r (sem_call rfl rfl (sMul_ok (by first | assumption | exact Rz.mono hd (by decide)) (by first | assumption | exact Rz.mono hp (by decide))) rfl) ?_
          refine dq_r (sem_field fd39_1 rfl rfl) ?_
          refine dq_r (sem_load (us := cR e) ty26 rfl rfl rfl rfl rfl) ?_
          refine dq_r (sem_load (us := cR p) ty26 rfl rfl rfl rfl rfl) ?_
          refine dq_r (sem_call rfl rfl (sMul_ok (by first | assumption | exact Rz.mono he (by decide)) (by first | assumption | exact Rz.mono hp (by decide))) rfl) ?_
          refine dq_r (sem_field fd39_2 rfl rfl) ?_
          refine dq_r (sem_load (us := cR f) ty26 rfl rfl rfl rfl rfl) ?_
          refine dq_r (sem_build (us := (cR (d * p) ++ cR (e * p) ++ cR f)) fs39 zc39 rfl rfl rfl) ?_
          refine dq_st (sem_store_a ty39 rfl rfl rfl rfl rfl rfl) rfl rfl rfl ?_
          refine dq_st (sem_store_a ty39 rfl rfl rfl rfl rfl rfl) rfl rfl rfl ?_
          refine dq_end ?_
          refine dl_start2 ?_
          refine dl_end ?_
          refine dw_seq ?_
          -- region 14
          refine dw_draw 9 [] follows_mixed (by kernel_rfl) rfl rfl ?_
          refine dq_r (sem_load (us := (cR (a * p) ++ cR (b * p) ++ cR c)) ty39 rfl rfl rfl rfl rfl) ?_
          refine dq_r (sem_load (us := (cR (d * p) ++ cR (e * p) ++ cR f)) ty39 rfl rfl rfl rfl rfl) ?_
          refine dq_r (sem_call rfl rfl (rcasti (xCmp_ok t2a t2b wc8 t2d t2e wf8 s6) e6) rfl) ?_
          refine dq_r (sem_move rfl rfl) ?_
          refine dq_r (sem_load (us := cR p) ty26 rfl rfl rfl rfl rfl) ?_
          refine dq_r (sem_call rfl rfl (sSign_ok) rfl) ?_
          refine dq_r (sem_ari (r := n1 * cmpR p 0) rfl rfl (ari_i64_mul (by omega) (by omega)) rfl) ?_
          refine dq_r (sem_castb (sem_cmp rfl rfl rfl rfl) (beq_self_eq_true (n1 * cmpR p 0))) ?_
          refine dq_r (sem_assign rfl rfl) ?_
          refine dq_end ?_
          refine dl_start0 ?_
          refine dl_end ?_
          refine dw_ret ?_
          -- path ftfF
          exact ⟨.inr rfl, (resL_tmp rfl resL_nil)⟩
      · refine dl_r (sem_move rfl rfl) ?_
        refine dl_r (sem_move rfl rfl) ?_
        refine dl_r (sem_move rfl rfl) ?_
        refine dl_r (sem_min rfl rfl rfl) ?_
        refine dl_r (sem_cmp rfl rfl rfl rfl) ?_
        refine dl_r (sem_pick rfl rfl rfl rfl) ?_
        refine dl_r (sem_pick rfl rfl rfl rfl) ?_
        refine dl_end ?_
        refine dw_cond rfl (fun hc6 => ?_) (fun hc6 => ?_)
        · exfalso
          have g1 := hb1
          have g2 := hb2
          have g3 := hb4
          have g4 := hc6
          simp only [decide_eq_true_eq, decide_eq_false_iff_not] at g1 g2 g3 g4
          clear oS1 oS2 oS3 e1 e2 e3 e4 e5 e6
          omega
        · refine dw_skip ?_
          refine dw_seq ?_
          -- region 6
          refine dw_region (by kernel_rfl) ?_
          refine dl_r (sem_field fd39_0 rfl rfl) ?_
          refine dl_r (sem_load (us := cR p) ty26 rfl rfl rfl rfl rfl) ?_
          refine dl_new (sem_alloc zc26 rfl) rfl ?_
          refine dl_st (sem_store_a ty26 rfl rfl rfl rfl rfl rfl) ?_
          refine dl_end ?_
          refine dw_seq ?_
          -- region 7
          refine dw_draw 6 [11, 12] follows_mixed (by kernel_rfl) rfl rfl ?_
          refine dq_r (sem_load (us := (cR a ++ cR b ++ cR c)) ty39 rfl rfl rfl rfl rfl) ?_
          refine dq_r (sem_load (us := (cR d ++ cR e ++ cR f)) ty39 rfl rfl rfl rfl rfl) ?_
          refine dq_new (sem_alloc zc39 rfl) rfl ?_
          refine dq_new (sem_alloc zc39 rfl) rfl ?_
          refine dq_sn (sem_store_a ty39 rfl rfl rfl rfl rfl rfl) rfl rfl rfl ?_
          refine dq_sn (sem_store_a ty39 rfl rfl rfl rfl rfl rfl) rfl rfl rfl ?_
          refine dq_end ?_
          refine dl_start4 ?_
          refine dl_end ?_
          refine dw_seq ?_
          -- region 8
          refine dw_draw 9 [] follows_mixed (by kernel_rfl) rfl rfl ?_
          refine dq_r (sem_field fd39_0 rfl rfl) ?_
          refine dq_r (sem_load (us := cR a) ty26 rfl rfl rfl rfl rfl) ?_
          refine dq_r (sem_load (us := cR p) ty26 rfl rfl rfl rfl rfl) ?_
          refine dq_r (sem_call rfl rfl (sAdd_ok (by first | assumption | exact Rz.mono ha (by decide)) (by first | assumption | exact Rz.mono hp (by decide))) rfl) ?_
          refine dq_r (sem_field fd39_0 rfl rfl) ?_
          refine dq_r (sem_load (us := cR d) ty26 rfl rfl rfl rfl rfl) ?_
          refine dq_r (sem_load (us := cR p) ty26 rfl rfl rfl rfl rfl) ?_
          refine dq_r (sem_call rfl rfl (sAdd_ok (by first | assumption | exact Rz.mono hd (by decide)) (by first | assumption | exact Rz.mono hp (by decide))) rfl) ?_
          refine dq_r (sem_field fd39_0 rfl rfl) ?_
          refine dq_end ?_
          refine dl_start0 ?_
          refine dl_st (sem_store (us := (cR (a + p) ++ cR b ++ cR c)) ty26 rfl rfl rfl rfl (Nat.le_of_ble_eq_true rfl) rfl rfl) ?_
          refine dl_r (sem_field fd39_0 rfl rfl) ?_
          refine dl_st (sem_store (us := (cR (d + p) ++ cR e ++ cR f)) ty26 rfl rfl rfl rfl (Nat.le_of_ble_eq_true rfl) rfl rfl) ?_
          refine dl_end ?_
          refine dw_seq ?_
          refine dw_seq ?_
          -- region 9
          refine dw_region (by kernel_rfl) ?_
          refine dl_r (sem_load (us := (cR (a + p) ++ cR b ++ cR c)) ty39 rfl rfl rfl rfl rfl) ?_
          refine dl_r (sem_load (us := (cR (d + p) ++ cR e ++ cR f)) ty39 rfl rfl rfl rfl rfl) ?_
          refine dl_r (sem_call rfl rfl (rcasti (xCmp_ok t1a wb8 wc8 t1d we8 wf8 s5) e5) rfl) ?_
          refine dl_r (sem_move rfl rfl) ?_
          refine dl_r (sem_castb (sem_cmp rfl rfl rfl rfl) (bne_self_eq_false n1)) ?_
          refine dl_end ?_
          refine dw_false rfl ?_
          refine dw_skip ?_
          refine dw_seq ?_
          refine dw_seq ?_
          -- region 11
          refine dw_region (by kernel_rfl) ?_
          refine dl_r (sem_load (us := cR p) ty26 rfl rfl rfl rfl rfl) ?_
          refine dl_r (sem_call rfl rfl (sSign_ok) rfl) ?_
          refine dl_r (sem_cmp rfl rfl rfl rfl) ?_
          refine dl_end ?_
          refine dw_cond rfl (fun hc7 => ?_) (fun hc7 => ?_)
          · refine dw_seq ?_
            -- region 12
            refine dw_region (by kernel_rfl) ?_
            refine dl_r (sem_assign rfl rfl) ?_
            refine dl_end ?_
            refine dw_ret ?_
            -- path fttFT
            exact ⟨.inr rfl, (resL_tmp rfl resL_nil)⟩
          · refine dw_skip ?_
            refine dw_seq ?_
            -- region 13
            refine dw_draw 24 [11, 12] follows_mixed (by kernel_rfl) rfl rfl ?_
            refine dq_r (sem_field fd39_0 rfl rfl) ?_
            refine dq_r (sem_load (us := cR a) ty26 rfl rfl rfl rfl rfl) ?_
            refine dq_r (sem_load (us := cR p) ty26 rfl rfl rfl rfl rfl) ?_
            refine dq_r (sem_call rfl rfl (sMul_ok (by first | assumption | exact Rz.mono ha (by decide)) (by first | assumption | exact Rz.mono hp (by decide))) rfl) ?_
            refine dq_r (sem_field fd39_1 rfl rfl) ?_
            refine dq_r (sem_load (us := cR b) ty26 rfl rfl rfl rfl rfl) ?_
            refine dq_r (sem_load (us := cR p) ty26 rfl rfl rfl rfl rfl) ?_
            refine dq_r (sem_call rfl rfl (sMul_ok (by first | assumption | exact Rz.mono hb (by decide)) (by first | assumption | exact Rz.mono hp (by decide))) rfl) ?_
            refine dq_r (sem_field fd39_2 rfl rfl) ?_
            refine dq_r (sem_load (us := cR c) ty26 rfl rfl rfl rfl rfl) ?_
            refine dq_r (sem_build (us := (cR (a * p) ++ cR (b * p) ++ cR c)) fs39 zc39 rfl rfl rfl) ?_
            refine dq_r (sem_field fd39_0 rfl rfl) ?_
            refine dq_r (sem_load (us := cR d) ty26 rfl rfl rfl rfl rfl) ?_
            refine dq_r (sem_load (us := cR p) ty26 rfl rfl rfl rfl rfl) ?_
            refine dq_r (sem_call rfl rfl (sMul_ok (by first | assumption | exact Rz.mono hd (by decide)) (by first | assumption | exact Rz.mono hp (by decide))) rfl) ?_
            refine dq_r (sem_field fd39_1 rfl rfl) ?_
            refine dq_r (sem_load (us := cR e) ty26 rfl rfl rfl rfl rfl) ?_
            refine dq_r (sem_load (us := cR p) ty26 rfl rfl rfl rfl rfl) ?_
            refine dq_r (sem_call rfl rfl (sMul_ok (by first | assumption | exact Rz.mono he (by decide)) (by first | assumption | exact Rz.mono hp (by decide))) rfl) ?_
            refine dq_r (sem_field fd39_2 rfl rfl) ?_
            refine dq_r (sem_load (us := cR f) ty26 rfl rfl rfl rfl rfl) ?_
            refine dq_r (sem_build (us := (cR (d * p) ++ cR (e * p) ++ cR f)) fs39 zc39 rfl rfl rfl) ?_
            refine dq_st (sem_store_a ty39 rfl rfl rfl rfl rfl rfl) rfl rfl rfl ?_
            refine dq_st (sem_store_a ty39 rfl rfl rfl rfl rfl rfl) rfl rfl rfl ?_
            refine dq_end ?_
            refine dl_start2 ?_
            refine dl_end ?_
            refine dw_seq ?_
            -- region 14
            refine dw_draw 9 [] follows_mixed (by kernel_rfl) rfl rfl ?_
            refine dq_r (sem_load (us := (cR (a * p) ++ cR (b * p) ++ cR c)) ty39 rfl rfl rfl rfl rfl) ?_
            refine dq_r (sem_load (us := (cR (d * p) ++ cR (e * p) ++ cR f)) ty39 rfl rfl rfl rfl rfl) ?_
            refine dq_r (sem_call rfl rfl (rcasti (xCmp_ok t2a t2b wc8 t2d t2e wf8 s6) e6) rfl) ?_
            refine dq_r (sem_move rfl rfl) ?_
            refine dq_r (sem_load (us := cR p) ty26 rfl rfl rfl rfl rfl) ?_
            refine dq_r (sem_call rfl rfl (sSign_ok) rfl) ?_
            refine dq_r (sem_ari (r := n1 * cmpR p 0) rfl rfl (ari_i64_mul (by omega) (by omega)) rfl) ?_
            refine dq_r (sem_castb (sem_cmp rfl rfl rfl rfl) (beq_self_eq_true (n1 * cmpR p 0))) ?_
            refine dq_r (sem_assign rfl rfl) ?_
            refine dq_end ?_
            refine dl_start0 ?_
            refine dl_end ?_
            refine dw_ret ?_
            -- path fttFF
            exact ⟨.inr rfl, (resL_tmp rfl resL_nil)⟩
  · refine dl_r (sem_move rfl rfl) ?_
    refine dl_r (sem_cmp rfl rfl rfl rfl) ?_
    refine dl_r (sem_pick rfl rfl rfl rfl) ?_
    refine dl_rb (sem_move rfl rfl) (fun c8 hb8 => ?_)
    cases c8
    · refine dl_skip (sem_skip rfl) ?_
      refine dl_skip (sem_skip rfl) ?_
      refine dl_skip (sem_skip rfl) ?_
      refine dl_skip (sem_skip rfl) ?_
      refine dl_skip (sem_skip rfl) ?_
      refine dl_r (sem_pick rfl rfl rfl rfl) ?_
      refine dl_r (sem_pick rfl rfl rfl rfl) ?_
      refine dl_r (sem_move rfl rfl) ?_
      refine dl_r (sem_move rfl rfl) ?_
      refine dl_r (sem_cmp rfl rfl rfl rfl) ?_
      refine dl_rb (sem_move rfl rfl) (fun c9 hb9 => ?_)
      cases c9
      · refine dl_skip (sem_skip rfl) ?_
        refine dl_skip (sem_skip rfl) ?_
        refine dl_r (sem_pick rfl rfl rfl rfl) ?_
        refine dl_r (sem_move rfl rfl) ?_
        refine dl_skip (sem_skip rfl) ?_
        refine dl_skip (sem_skip rfl) ?_
        refine dl_skip (sem_skip rfl) ?_
        refine dl_skip (sem_skip rfl) ?_
        refine dl_skip (sem_skip rfl) ?_
        refine dl_r (sem_pick rfl rfl rfl rfl) ?_
        refine dl_r (sem_pick rfl rfl rfl rfl) ?_
        refine dl_end ?_
        refine dw_false rfl ?_
        refine dw_skip ?_
        refine dw_seq ?_
        -- region 6
        refine dw_region (by kernel_rfl) ?_
        refine dl_r (sem_field fd39_0 rfl rfl) ?_
        refine dl_r (sem_load (us := cR p) ty26 rfl rfl rfl rfl rfl) ?_
        refine dl_new (sem_alloc zc26 rfl) rfl ?_
        refine dl_st (sem_store_a ty26 rfl rfl rfl rfl rfl rfl) ?_
        refine dl_end ?_
        refine dw_seq ?_
        -- region 7
        refine dw_draw 6 [11, 12] follows_mixed (by kernel_rfl) rfl rfl ?_
        refine dq_r (sem_load (us := (cR a ++ cR b ++ cR c)) ty39 rfl rfl rfl rfl rfl) ?_
        refine dq_r (sem_load (us := (cR d ++ cR e ++ cR f)) ty39 rfl rfl rfl rfl rfl) ?_
        refine dq_new (sem_alloc zc39 rfl) rfl ?_
        refine dq_new (sem_alloc zc39 rfl) rfl ?_
        refine dq_sn (sem_store_a ty39 rfl rfl rfl rfl rfl rfl) rfl rfl rfl ?_
        refine dq_sn (sem_store_a ty39 rfl rfl rfl rfl rfl rfl) rfl rfl rfl ?_
        refine dq_end ?_
        refine dl_start4 ?_
        refine dl_end ?_
        refine dw_seq ?_
        -- region 8
        refine dw_draw 9 [] follows_mixed (by kernel_rfl) rfl rfl ?_
        refine dq_r (sem_field fd39_0 rfl rfl) ?_
        refine dq_r (sem_load (us := cR a) ty26 rfl rfl rfl rfl rfl) ?_
        refine dq_r (sem_load (us := cR p) ty26 rfl rfl rfl rfl rfl) ?_
        refine dq_r (sem_call rfl rfl (sAdd_ok (by first | assumption | exact Rz.mono ha (by decide)) (by first | assumption | exact Rz.mono hp (by decide))) rfl) ?_
        refine dq_r (sem_field fd39_0 rfl rfl) ?_
        refine dq_r (sem_load (us := cR d) ty26 rfl rfl rfl rfl rfl) ?_
        refine dq_r (sem_load (us := cR p) ty26 rfl rfl rfl rfl rfl) ?_
        refine dq_r (sem_call rfl rfl (sAdd_ok (by first | assumption | exact Rz.mono hd (by decide)) (by first | assumption | exact Rz.mono hp (by decide))) rfl) ?_
        refine dq_r (sem_field fd39_0 rfl rfl) ?_
        refine dq_end ?_
        refine dl_start0 ?_
        refine dl_st (sem_store (us := (cR (a + p) ++ cR b ++ cR c)) ty26 rfl rfl rfl rfl (Nat.le_of_ble_eq_true rfl) rfl rfl) ?_
        refine dl_r (sem_field fd39_0 rfl rfl) ?_
        refine dl_st (sem_store (us := (cR (d + p) ++ cR e ++ cR f)) ty26 rfl rfl rfl rfl (Nat.le_of_ble_eq_true rfl) rfl rfl) ?_
        refine dl_end ?_
        refine dw_seq ?_
        refine dw_seq ?_
        -- region 9
        refine dw_region (by kernel_rfl) ?_
        refine dl_r (sem_load (us := (cR (a + p) ++ cR b ++ cR c)) ty39 rfl rfl rfl rfl rfl) ?_
        refine dl_r (sem_load (us := (cR (d + p) ++ cR e ++ cR f)) ty39 rfl rfl rfl rfl rfl) ?_
        refine dl_r (sem_call rfl rfl (rcasti (xCmp_ok t1a wb8 wc8 t1d we8 wf8 s5) e5) rfl) ?_
        refine dl_r (sem_move rfl rfl) ?_
        refine dl_r (sem_castb (sem_cmp rfl rfl rfl rfl) (bne_self_eq_false n1)) ?_
        refine dl_end ?_
        refine dw_false rfl ?_
        refine dw_skip ?_
        refine dw_seq ?_
        refine dw_seq ?_
        -- region 11
        refine dw_region (by kernel_rfl) ?_
        refine dl_r (sem_load (us := cR p) ty26 rfl rfl rfl rfl rfl) ?_
        refine dl_r (sem_call rfl rfl (sSign_ok) rfl) ?_
        refine dl_r (sem_cmp rfl rfl rfl rfl) ?_
        refine dl_end ?_
        refine dw_cond rfl (fun hc10 => ?_) (fun hc10 => ?_)
        · refine dw_seq ?_
          -- region 12
          refine dw_region (by kernel_rfl) ?_
          refine dl_r (sem_assign rfl rfl) ?_
          refine dl_end ?_
          refine dw_ret ?_
          -- path tffT
          exact ⟨.inr rfl, (resL_tmp rfl resL_nil)⟩
        · refine dw_skip ?_
          refine dw_seq ?_
          -- region 13
          refine dw_draw 24 [11, 12] follows_mixed (by kernel_rfl) rfl rfl ?_
          refine dq_r (sem_field fd39_0 rfl rfl) ?_
          refine dq_r (sem_load (us := cR a) ty26 rfl rfl rfl rfl rfl) ?_
          refine dq_r (sem_load (us := cR p) ty26 rfl rfl rfl rfl rfl) ?_
          refine dq_r (sem_call rfl rfl (sMul_ok (by first | assumption | exact Rz.mono ha (by decide)) (by first | assumption | exact Rz.mono hp (by decide))) rfl) ?_
          refine dq_r (sem_field fd39_1 rfl rfl) ?_
          refine dq_r (sem_load (us := cR b) ty26 rfl rfl rfl rfl rfl) ?_
          refine dq_r (sem_load (us := cR p) ty26 rfl rfl rfl rfl rfl) ?_
          refine dq_r (sem_call rfl rfl (sMul_ok (by first | assumption | exact Rz.mono hb (by decide)) (by first | assumption | exact Rz.mono hp (by decide))) rfl) ?_
          refine dq_r (sem_field fd39_2 rfl rfl) ?_
          refine dq_r (sem_load (us := cR c) ty26 rfl rfl rfl rfl rfl) ?_
          refine dq_r (sem_build (us := (cR (a * p) ++ cR (b * p) ++ cR c)) fs39 zc39 rfl rfl rfl) ?_
          refine dq_r (sem_field fd39_0 rfl rfl) ?_
          refine dq_r (sem_load (us := cR d) ty26 rfl rfl rfl rfl rfl) ?_
          refine dq_r (sem_load (us := cR p) ty26 rfl rfl rfl rfl rfl) ?_
          refine dq_r (sem_call rfl rfl (sMul_ok (by first | assumption | exact Rz.mono hd (by decide)) (by first | assumption | exact Rz.mono hp (by decide))) rfl) ?_
          refine dq_r (sem_field fd39_1 rfl rfl) ?_
          refine dq_r (sem_load (us := cR e) ty26 rfl rfl rfl rfl rfl) ?_
          refine dq_r (sem_load (us := cR p) ty26 rfl rfl rfl rfl rfl) ?_
          refine dq_r (sem_call rfl rfl (sMul_ok (by first | assumption | exact Rz.mono he (by decide)) (by first | assumption | exact Rz.mono hp (by decide))) rfl) ?_
          refine dq_r (sem_field fd39_2 rfl rfl) ?_
          refine dq_r (sem_load (us := cR f) ty26 rfl rfl rfl rfl rfl) ?_
          refine dq_r (sem_build (us := (cR (d * p) ++ cR (e * p) ++ cR f)) fs39 zc39 rfl rfl rfl) ?_
          refine dq_st (sem_store_a ty39 rfl rfl rfl rfl rfl rfl) rfl rfl rfl ?_
          refine dq_st (sem_store_a ty39 rfl rfl rfl rfl rfl rfl) rfl rfl rfl ?_
          refine dq_end ?_
          refine dl_start2 ?_
          refine dl_end ?_
          refine dw_seq ?_
          -- region 14
          refine dw_draw 9 [] follows_mixed (by kernel_rfl) rfl rfl ?_
          refine dq_r (sem_load (us := (cR (a * p) ++ cR (b * p) ++ cR c)) ty39 rfl rfl rfl rfl rfl) ?_
          refine dq_r (sem_load (us := (cR (d * p) ++ cR (e * p) ++ cR f)) ty39 rfl rfl rfl rfl rfl) ?_
          refine dq_r (sem_call rfl rfl (rcasti (xCmp_ok t2a t2b wc8 t2d t2e wf8 s6) e6) rfl) ?_
          refine dq_r (sem_move rfl rfl) ?_
          refine dq_r (sem_load (us := cR p) ty26 rfl rfl rfl rfl rfl) ?_
          refine dq_r (sem_call rfl rfl (sSign_ok) rfl) ?_
          refine dq_r (sem_ari (r := n1 * cmpR p 0) rfl rfl (ari_i64_mul (by omega) (by omega)) rfl) ?_
          refine dq_r (sem_castb (sem_cmp rfl rfl rfl rfl) (beq_self_eq_true (n1 * cmpR p 0))) ?_
          refine dq_r (sem_assign rfl rfl) ?_
          refine dq_end ?_
          refine dl_start0 ?_
          refine dl_end ?_
          refine dw_ret ?_
          -- path tffF
          exact ⟨.inr rfl, (resL_tmp rfl resL_nil)⟩
      · refine dl_r (sem_move rfl rfl) ?_
        refine dl_r (sem_cmp rfl rfl rfl rfl) ?_
        refine dl_r (sem_pick rfl rfl rfl rfl) ?_
        refine dl_rb (sem_move rfl rfl) (fun c11 hb11 => ?_)
        cases c11
        · refine dl_skip (sem_skip rfl) ?_
          refine dl_skip (sem_skip rfl) ?_
          refine dl_skip (sem_skip rfl) ?_
          refine dl_skip (sem_skip rfl) ?_
          refine dl_skip (sem_skip rfl) ?_
          refine dl_r (sem_pick rfl rfl rfl rfl) ?_
          refine dl_r (sem_pick rfl rfl rfl rfl) ?_
          refine dl_end ?_
          refine dw_false rfl ?_
          refine dw_skip ?_
          refine dw_seq ?_
          -- region 6
          refine dw_region (by kernel_rfl) ?_
          refine dl_r (sem_field fd39_0 rfl rfl) ?_
          refine dl_r (sem_load (us := cR p) ty26 rfl rfl rfl rfl rfl) ?_
          refine dl_new (sem_alloc zc26 rfl) rfl ?_
          refine dl_st (sem_store_a ty26 rfl rfl rfl rfl rfl rfl) ?_
          refine dl_end ?_
          refine dw_seq ?_
          -- region 7
          refine dw_draw 6 [11, 12] follows_mixed (by kernel_rfl) rfl rfl ?_
          refine dq_r (sem_load (us := (cR a ++ cR b ++ cR c)) ty39 rfl rfl rfl rfl rfl) ?_
          refine dq_r (sem_load (us := (cR d ++ cR e ++ cR f)) ty39 rfl rfl rfl rfl rfl) ?_
          refine dq_new (sem_alloc zc39 rfl) rfl ?_
          refine dq_new (sem_alloc zc39 rfl) rfl ?_
          refine dq_sn (sem_store_a ty39 rfl rfl rfl rfl rfl rfl) rfl rfl rfl ?_
          refine dq_sn (sem_store_a ty39 rfl rfl rfl rfl rfl rfl) rfl rfl rfl ?_
          refine dq_end ?_
          refine dl_start4 ?_
          refine dl_end ?_
          refine dw_seq ?_
          -- region 8
          refine dw_draw 9 [] follows_mixed (by kernel_rfl) rfl rfl ?_
          refine dq_r (sem_field fd39_0 rfl rfl) ?_
          refine dq_r (sem_load (us := cR a) ty26 rfl rfl rfl rfl rfl) ?_
          refine dq_r (sem_load (us := cR p) ty26 rfl rfl rfl rfl rfl) ?_
          refine dq_r (sem_call rfl rfl (sAdd_ok (by first | assumption | exact Rz.mono ha (by decide)) (by first | assumption | exact Rz.mono hp (by decide))) rfl) ?_
          refine dq_r (sem_field fd39_0 rfl rfl) ?_
          refine dq_r (sem_load (us := cR d) ty26 rfl rfl rfl rfl rfl) ?_
          refine dq_r (sem_load (us := cR p) ty26 rfl rfl rfl rfl rfl) ?_
          refine dq_r (sem_call rfl rfl (sAdd_ok (by first | assumption | exact Rz.mono hd (by decide)) (by first | assumption | exact Rz.mono hp (by decide))) rfl) ?_
          refine dq_r (sem_field fd39_0 rfl rfl) ?_
          refine dq_end ?_
          refine dl_start0 ?_
          refine dl_st (sem_store (us := (cR (a + p) ++ cR b ++ cR c)) ty26 rfl rfl rfl rfl (Nat.le_of_ble_eq_true rfl) rfl rfl) ?_
          refine dl_r (sem_field fd39_0 rfl rfl) ?_
          refine dl_st (sem_store (us := (cR (d + p) ++ cR e ++ cR f)) ty26 rfl rfl rfl rfl (Nat.le_of_ble_eq_true rfl) rfl rfl) ?_
          refine dl_end ?_
          refine dw_seq ?_
          refine dw_seq ?_
          -- region 9
          refine dw_region (by kernel_rfl) ?_
          refine dl_r (sem_load (us := (cR (a + p) ++ cR b ++ cR c)) ty39 rfl rfl rfl rfl rfl) ?_
          refine dl_r (sem_load (us := (cR (d + p) ++ cR e ++ cR f)) ty39 rfl rfl rfl rfl rfl) ?_
          refine dl_r (sem_call rfl rfl (rcasti (xCmp_ok t1a wb8 wc8 t1d we8 wf8 s5) e5) rfl) ?_
          refine dl_r (sem_move rfl rfl) ?_
          refine dl_r (sem_castb (sem_cmp rfl rfl rfl rfl) (bne_self_eq_false n1)) ?_
          refine dl_end ?_
          refine dw_false rfl ?_
          refine dw_skip ?_
          refine dw_seq ?_
          refine dw_seq ?_
          -- region 11
          refine dw_region (by kernel_rfl) ?_
          refine dl_r (sem_load (us := cR p) ty26 rfl rfl rfl rfl rfl) ?_
          refine dl_r (sem_call rfl rfl (sSign_ok) rfl) ?_
          refine dl_r (sem_cmp rfl rfl rfl rfl) ?_
          refine dl_end ?_
          refine dw_cond rfl (fun hc12 => ?_) (fun hc12 => ?_)
          · refine dw_seq ?_
            -- region 12
            refine dw_region (by kernel_rfl) ?_
            refine dl_r (sem_assign rfl rfl) ?_
            refine dl_end ?_
            refine dw_ret ?_
            -- path tftfT
            exact ⟨.inr rfl, (resL_tmp rfl resL_nil)⟩
          · refine dw_skip ?_
            refine dw_seq ?_
            -- region 13
            refine dw_draw 24 [11, 12] follows_mixed (by kernel_rfl) rfl rfl ?_
            refine dq_r (sem_field fd39_0 rfl rfl) ?_
            refine dq_r (sem_load (us := cR a) ty26 rfl rfl rfl rfl rfl) ?_
            refine dq_r (sem_load (us := cR p) ty26 rfl rfl rfl rfl rfl) ?_
            refine dq_r (sem_call rfl rfl (sMul_ok (by first | assumption | exact Rz.mono ha (by decide)) (by first | assumption | exact Rz.mono hp (by decide))) rfl) ?_
            refine dq_r (sem_field fd39_1 rfl rfl) ?_
            refine dq_r (sem_load (us := cR b) ty26 rfl rfl rfl rfl rfl) ?_
            refine dq_r (sem_load (us := cR p) ty26 rfl rfl rfl rfl rfl) ?_
            refine dq_r (sem_call rfl rfl (sMul_ok (by first | assumption | exact Rz.mono hb (by decide)) (by first | assumption | exact Rz.mono hp (by decide))) rfl) ?_
            refine dq_r (sem_field fd39_2 rfl rfl) ?_
            refine dq_r (sem_load (us := cR c) ty26 rfl rfl rfl rfl rfl) ?_
            refine dq_r (sem_build (us := (cR (a * p) ++ cR (b * p) ++ cR c)) fs39 zc39 rfl rfl rfl) ?_
            refine dq_r (sem_field fd39_0 rfl rfl) ?_
            refine dq_r (sem_load (us := cR d) ty26 rfl rfl rfl rfl rfl) ?_
            refine dq_r (sem_load (us := cR p) ty26 rfl rfl rfl rfl rfl) ?_
            refine dq_r (sem_call rfl rfl (sMul_ok (by first | assumption | exact Rz.mono hd (by decide)) (by first | assumption | exact Rz.mono hp (by decide))) rfl) ?_
            refine dq_r (sem_field fd39_1 rfl rfl) ?_
            refine dq_r (sem_load (us := cR e) ty26 rfl rfl rfl rfl rfl) ?_
            refine dq_r (sem_load (us := cR p) ty26 rfl rfl rfl rfl rfl) ?_
            refine dq_r (sem_call rfl rfl (sMul_ok (by first | assumption | exact Rz.mono he (by decide)) (by first | assumption | exact Rz.mono hp (by decide))) rfl) ?_
            refine dq_r (sem_field fd39_2 rfl rfl) ?_
            refine dq_r (sem_load (us := cR f) ty26 rfl rfl rfl rfl rfl) ?_
            refine dq_r (sem_build (us := (cR (d * p) ++ cR (e * p) ++ cR f)) fs39 zc39 rfl rfl rfl) ?_
            refine dq_st (sem_store_a ty39 rfl rfl rfl rfl rfl rfl) rfl rfl rfl ?_
            refine dq_st (sem_store_a ty39 rfl rfl rfl rfl rfl rfl) rfl rfl rfl ?_
            refine dq_end ?_
            refine dl_start2 ?_
            refine dl_end ?_
            refine dw_seq ?_
            -- region 14
            refine dw_draw 9 [] follows_mixed (by kernel_rfl) rfl rfl ?_
            refine dq_r (sem_load (us := (cR (a * p) ++ cR (b * p) ++ cR c)) ty39 rfl rfl rfl rfl rfl) ?_
            refine dq_r (sem_load (us := (cR (d * p) ++ cR (e * p) ++ cR f)) ty39 rfl rfl rfl rfl rfl) ?_
            refine dq_r (sem_call rfl rfl (rcasti (xCmp_ok t2a t2b wc8 t2d t2e wf8 s6) e6) rfl) ?_
            refine dq_r (sem_move rfl rfl) ?_
            refine dq_r (sem_load (us := cR p) ty26 rfl rfl rfl rfl rfl) ?_
            refine dq_r (sem_call rfl rfl (sSign_ok) rfl) ?_
            refine dq_r (sem_ari (r := n1 * cmpR p 0) rfl rfl (ari_i64_mul (by omega) (by omega)) rfl) ?_
            refine dq_r (sem_castb (sem_cmp rfl rfl rfl rfl) (beq_self_eq_true (n1 * cmpR p 0))) ?_
            refine dq_r (sem_assign rfl rfl) ?_
            refine dq_end ?_
            refine dl_start0 ?_
            refine dl_end ?_
            refine dw_ret ?_
            -- path tftfF
            exact ⟨.inr rfl, (resL_tmp rfl resL_nil)⟩
        · refine dl_r (sem_move rfl rfl) ?_
          refine dl_r (sem_move rfl rfl) ?_
          refine dl_r (sem_move rfl rfl) ?_
          refine dl_r (sem_min rfl rfl rfl) ?_
          refine dl_r (sem_cmp rfl rfl rfl rfl) ?_
          refine dl_r (sem_pick rfl rfl rfl rfl) ?_
          refine dl_r (sem_pick rfl rfl rfl rfl) ?_
          refine dl_end ?_
          refine dw_cond rfl (fun hc13 => ?_) (fun hc13 => ?_)
          · exfalso
            have g1 := hb1
            have g2 := hb8
            have g3 := hb9
            have g4 := hb11
            have g5 := hc13
            simp only [decide_eq_true_eq, decide_eq_false_iff_not] at g1 g2 g3 g4 g5
            clear oS1 oS2 oS3 e1 e2 e3 e4 e5 e6
            omega
          · refine dw_skip ?_
            refine dw_seq ?_
            -- region 6
            refine dw_region (by kernel_rfl) ?_
            refine dl_r (sem_field fd39_0 rfl rfl) ?_
            refine dl_r (sem_load (us := cR p) ty26 rfl rfl rfl rfl rfl) ?_
            refine dl_new (sem_alloc zc26 rfl) rfl ?_
            refine dl_st (sem_store_a ty26 rfl rfl rfl rfl rfl rfl) ?_
            refine dl_end ?_
            refine dw_seq ?_
            -- region 7
            refine dw_draw 6 [11, 12] follows_mixed (by kernel_rfl) rfl rfl ?_
            refine dq_r (sem_load (us := (cR a ++ cR b ++ cR c)) ty39 rfl rfl rfl rfl rfl) ?_
            refine dq_r (sem_load (us := (cR d ++ cR e ++ cR f)) ty39 rfl rfl rfl rfl rfl) ?_
            refine dq_new (sem_alloc zc39 rfl) rfl ?_
            refine dq_new (sem_alloc zc39 rfl) rfl ?_
            refine dq_sn (sem_store_a ty39 rfl rfl rfl rfl rfl rfl) rfl rfl rfl ?_
            refine dq_sn (sem_store_a ty39 rfl rfl rfl rfl rfl rfl) rfl rfl rfl ?_
            refine dq_end ?_
            refine dl_start4 ?_
            refine dl_end ?_
            refine dw_seq ?_
            -- region 8
            refine dw_draw 9 [] follows_mixed (by kernel_rfl) rfl rfl ?_
            refine dq_r (sem_field fd39_0 rfl rfl) ?_
            refine dq_r (sem_load (us := cR a) ty26 rfl rfl rfl rfl rfl) ?_
            refine dq_r (sem_load (us := cR p) ty26 rfl rfl rfl rfl rfl) ?_
            refine dq_r (sem_call rfl rfl (sAdd_ok (by first | assumption | exact Rz.mono ha (by decide)) (by first | assumption | exact Rz.mono hp (by decide))) rfl) ?_
            refine dq_r (sem_field fd39_0 rfl rfl) ?_
            refine dq_r (sem_load (us := cR d) ty26 rfl rfl rfl rfl rfl) ?_
            refine dq_r (sem_load (us := cR p) ty26 rfl rfl rfl rfl rfl) ?_
            refine dq_r (sem_call rfl rfl (sAdd_ok (by first | assumption | exact Rz.mono hd (by decide)) (by first | assumption | exact Rz.mono hp (by decide))) rfl) ?_
            refine dq_r (sem_field fd39_0 rfl rfl) ?_
            refine dq_end ?_
            refine dl_start0 ?_
            refine dl_st (sem_store (us := (cR (a + p) ++ cR b ++ cR c)) ty26 rfl rfl rfl rfl (Nat.le_of_ble_eq_true rfl) rfl rfl) ?_
            refine dl_r (sem_field fd39_0 rfl rfl) ?_
            refine dl_st (sem_store (us := (cR (d + p) ++ cR e ++ cR f)) ty26 rfl rfl rfl rfl (Nat.le_of_ble_eq_true rfl) rfl rfl) ?_
            refine dl_end ?_
            refine dw_seq ?_
            refine dw_seq ?_
            -- region 9
            refine dw_region (by kernel_rfl) ?_
            refine dl_r (sem_load (us := (cR (a + p) ++ cR b ++ cR c)) ty39 rfl rfl rfl rfl rfl) ?_
            refine dl_r (sem_load (us := (cR (d + p) ++ cR e ++ cR f)) ty39 rfl rfl rfl rfl rfl) ?_
            refine dl_r (sem_call rfl rfl (rcasti (xCmp_ok t1a wb8 wc8 t1d we8 wf8 s5) e5) rfl) ?_
            refine dl_r (sem_move rfl rfl) ?_
            refine dl_r (sem_castb (sem_cmp rfl rfl rfl rfl) (bne_self_eq_false n1)) ?_
            refine dl_end ?_
            refine dw_false rfl ?_
            refine dw_skip ?_
            refine dw_seq ?_
            refine dw_seq ?_
            -- region 11
            refine dw_region (by kernel_rfl) ?_
            refine dl_r (sem_load (us := cR p) ty26 rfl rfl rfl rfl rfl) ?_
            refine dl_r (sem_call rfl rfl (sSign_ok) rfl) ?_
            refine dl_r (sem_cmp rfl rfl rfl rfl) ?_
            refine dl_end ?_
            refine dw_cond rfl (fun hc14 => ?_) (fun hc14 => ?_)
            · refine dw_seq ?_
              -- region 12
              refine dw_region (by kernel_rfl) ?_
              refine dl_r (sem_assign rfl rfl) ?_
              refine dl_end ?_
              refine dw_ret ?_
              -- path tfttFT
              exact ⟨.inr rfl, (resL_tmp rfl resL_nil)⟩
            · refine dw_skip ?_
              refine dw_seq ?_
              -- region 13
              refine dw_draw 24 [11, 12] follows_mixed (by kernel_rfl) rfl rfl ?_
              refine dq_r (sem_field fd39_0 rfl rfl) ?_
              refine dq_r (sem_load (us := cR a) ty26 rfl rfl rfl rfl rfl) ?_
              refine dq_r (sem_load (us := cR p) ty26 rfl rfl rfl rfl rfl) ?_
              refine dq_r (sem_call rfl rfl (sMul_ok (by first | assumption | exact Rz.mono ha (by decide)) (by first | assumption | exact Rz.mono hp (by decide))) rfl) ?_
              refine dq_r (sem_field fd39_1 rfl rfl) ?_
              refine dq_r (sem_load (us := cR b) ty26 rfl rfl rfl rfl rfl) ?_
              refine dq_r (sem_load (us := cR p) ty26 rfl rfl rfl rfl rfl) ?_
              refine dq_r (sem_call rfl rfl (sMul_ok (by first | assumption | exact Rz.mono hb (by decide)) (by first | assumption | exact Rz.mono hp (by decide))) rfl) ?_
              refine dq_r (sem_field fd39_2 rfl rfl) ?_
              refine dq_r (sem_load (us := cR c) ty26 rfl rfl rfl rfl rfl) ?_
              refine dq_r (sem_build (us := (cR (a * p) ++ cR (b * p) ++ cR c)) fs39 zc39 rfl rfl rfl) ?_
              refine dq_r (sem_field fd39_0 rfl rfl) ?_
              refine dq_r (sem_load (us := cR d) ty26 rfl rfl rfl rfl rfl) ?_
              refine dq_r (sem_load (us := cR p) ty26 rfl rfl rfl rfl rfl) ?_
              refine dq_r (sem_call rfl rfl (sMul_ok (by first | assumption | exact Rz.mono hd (by decide)) (by first | assumption | exact Rz.mono hp (by decide))) rfl) ?_
              refine dq_r (sem_field fd39_1 rfl rfl) ?_
              refine dq_r (sem_load (us := cR e) ty26 rfl rfl rfl rfl rfl) ?_
              refine dq_r (sem_load (us := cR p) ty26 rfl rfl rfl rfl rfl) ?_
              refine dq_r (sem_call rfl rfl (sMul_ok (by first | assumption | exact Rz.mono he (by decide)) (by first | assumption | exact Rz.mono hp (by decide))) rfl) ?_
              refine dq_r (sem_field fd39_2 rfl rfl) ?_
              refine dq_r (sem_load (us := cR f) ty26 rfl rfl rfl rfl rfl) ?_
              refine dq_r (sem_build (us := (cR (d * p) ++ cR (e * p) ++ cR f)) fs39 zc39 rfl rfl rfl) ?_
              refine dq_st (sem_store_a ty39 rfl rfl rfl rfl rfl rfl) rfl rfl rfl ?_
              refine dq_st (sem_store_a ty39 rfl rfl rfl rfl rfl rfl) rfl rfl rfl ?_
              refine dq_end ?_
              refine dl_start2 ?_
              refine dl_end ?_
              refine dw_seq ?_
              -- region 14
              refine dw_draw 9 [] follows_mixed (by kernel_rfl) rfl rfl ?_
              refine dq_r (sem_load (us := (cR (a * p) ++ cR (b * p) ++ cR c)) ty39 rfl rfl rfl rfl rfl) ?_
              refine dq_r (sem_load (us := (cR (d * p) ++ cR (e * p) ++ cR f)) ty39 rfl rfl rfl rfl rfl) ?_
              refine dq_r (sem_call rfl rfl (rcasti (xCmp_ok t2a t2b wc8 t2d t2e wf8 s6) e6) rfl) ?_
              refine dq_r (sem_move rfl rfl) ?_
              refine dq_r (sem_load (us := cR p) ty26 rfl rfl rfl rfl rfl) ?_
              refine dq_r (sem_call rfl rfl (sSign_ok) rfl) ?_
              refine dq_r (sem_ari (r := n1 * cmpR p 0) rfl rfl (ari_i64_mul (by omega) (by omega)) rfl) ?_
              refine dq_r (sem_castb (sem_cmp rfl rfl rfl rfl) (beq_self_eq_true (n1 * cmpR p 0))) ?_
              refine dq_r (sem_assign rfl rfl) ?_
              refine dq_end ?_
              refine dl_start0 ?_
              refine dl_end ?_
              refine dw_ret ?_
              -- path tfttFF
              exact ⟨.inr rfl, (resL_tmp rfl resL_nil)⟩
    · refine dl_r (sem_move rfl rfl) ?_
      refine dl_r (sem_move rfl rfl) ?_
      refine dl_r (sem_move rfl rfl) ?_
      refine dl_r (sem_max rfl rfl rfl) ?_
      refine dl_r (sem_cmp rfl rfl rfl rfl) ?_
      refine dl_r (sem_pick rfl rfl rfl rfl) ?_
      refine dl_r (sem_pick rfl rfl rfl rfl) ?_
      refine dl_rb (sem_move rfl rfl) (fun c15 hb15 => ?_)
      cases c15
      · refine dl_r (sem_move rfl rfl) ?_
        refine dl_r (sem_cmp rfl rfl rfl rfl) ?_
        refine dl_rb (sem_move rfl rfl) (fun c16 hb16 => ?_)
        cases c16
        · refine dl_skip (sem_skip rfl) ?_
          refine dl_skip (sem_skip rfl) ?_
          refine dl_r (sem_pick rfl rfl rfl rfl) ?_
          refine dl_r (sem_move rfl rfl) ?_
          refine dl_skip (sem_skip rfl) ?_
          refine dl_skip (sem_skip rfl) ?_
          refine dl_skip (sem_skip rfl) ?_
          refine dl_skip (sem_skip rfl) ?_
          refine dl_skip (sem_skip rfl) ?_
          refine dl_r (sem_pick rfl rfl rfl rfl) ?_
          refine dl_r (sem_pick rfl rfl rfl rfl) ?_
          refine dl_end ?_
          refine dw_false rfl ?_
          refine dw_skip ?_
          refine dw_seq ?_
          -- region 6
          refine dw_region (by kernel_rfl) ?_
          refine dl_r (sem_field fd39_0 rfl rfl) ?_
          refine dl_r (sem_load (us := cR p) ty26 rfl rfl rfl rfl rfl) ?_
          refine dl_new (sem_alloc zc26 rfl) rfl ?_
          refine dl_st (sem_store_a ty26 rfl rfl rfl rfl rfl rfl) ?_
          refine dl_end ?_
          refine dw_seq ?_
          -- region 7
          refine dw_draw 6 [11, 12] follows_mixed (by kernel_rfl) rfl rfl ?_
          refine dq_r (sem_load (us := (cR a ++ cR b ++ cR c)) ty39 rfl rfl rfl rfl rfl) ?_
          refine dq_r (sem_load (us := (cR d ++ cR e ++ cR f)) ty39 rfl rfl rfl rfl rfl) ?_
          refine dq_new (sem_alloc zc39 rfl) rfl ?_
          refine dq_new (sem_alloc zc39 rfl) rfl ?_
          refine dq_sn (sem_store_a ty39 rfl rfl rfl rfl rfl rfl) rfl rfl rfl ?_
          refine dq_sn (sem_store_a ty39 rfl rfl rfl rfl rfl rfl) rfl rfl rfl ?_
          refine dq_end ?_
          refine dl_start4 ?_
          refine dl_end ?_
          refine dw_seq ?_
          -- region 8
          refine dw_draw 9 [] follows_mixed (by kernel_rfl) rfl rfl ?_
          refine dq_r (sem_field fd39_0 rfl rfl) ?_
          refine dq_r (sem_load (us := cR a) ty26 rfl rfl rfl rfl rfl) ?_
          refine dq_r (sem_load (us := cR p) ty26 rfl rfl rfl rfl rfl) ?_
          refine dq_r (sem_call rfl rfl (sAdd_ok (by first | assumption | exact Rz.mono ha (by decide)) (by first | assumption | exact Rz.mono hp (by decide))) rfl) ?_
          refine dq_r (sem_field fd39_0 rfl rfl) ?_
          refine dq_r (sem_load (us := cR d) ty26 rfl rfl rfl rfl rfl) ?_
          refine dq_r (sem_load (us := cR p) ty26 rfl rfl rfl rfl rfl) ?_
          refine dq_r (sem_call rfl rfl (sAdd_ok (by first | assumption | exact Rz.mono hd (by decide)) (by first | assumption | exact Rz.mono hp (by decide))) rfl) ?_
          refine dq_r (sem_field fd39_0 rfl rfl) ?_
          refine dq_end ?_
          refine dl_start0 ?_
          refine dl_st (sem_store (us := (cR (a + p) ++ cR b ++ cR c)) ty26 rfl rfl rfl rfl (Nat.le_of_ble_eq_true rfl) rfl rfl) ?_
          refine dl_r (sem_field fd39_0 rfl rfl) ?_
          refine dl_st (sem_store (us := (cR (d + p) ++ cR e ++ cR f)) ty26 rfl rfl rfl rfl (Nat.le_of_ble_eq_true rfl) rfl rfl) ?_
          refine dl_end ?_
          refine dw_seq ?_
          refine dw_seq ?_
          -- region 9
          refine dw_region (by kernel_rfl) ?_
          refine dl_r (sem_load (us := (cR (a + p) ++ cR b ++ cR c)) ty39 rfl rfl rfl rfl rfl) ?_
          refine dl_r (sem_load (us := (cR (d + p) ++ cR e ++ cR f)) ty39 rfl rfl rfl rfl rfl) ?_
          refine dl_r (sem_call rfl rfl (rcasti (xCmp_ok t1a wb8 wc8 t1d we8 wf8 s5) e5) rfl) ?_
          refine dl_r (sem_move rfl rfl) ?_
          refine dl_r (sem_castb (sem_cmp rfl rfl rfl rfl) (bne_self_eq_false n1)) ?_
          refine dl_end ?_
          refine dw_false rfl ?_
          refine dw_skip ?_
          refine dw_seq ?_
          refine dw_seq ?_
          -- region 11
          refine dw_region (by kernel_rfl) ?_
          refine dl_r (sem_load (us := cR p) ty26 rfl rfl rfl rfl rfl) ?_
          refine dl_r (sem_call rfl rfl (sSign_ok) rfl) ?_
          refine dl_r (sem_cmp rfl rfl rfl rfl) ?_
          refine dl_end ?_
          refine dw_cond rfl (fun hc17 => ?_) (fun hc17 => ?_)
          · refine dw_seq ?_
            -- region 12
            refine dw_region (by kernel_rfl) ?_
            refine dl_r (sem_assign rfl rfl) ?_
            refine dl_end ?_
            refine dw_ret ?_
            -- path ttffT
            exact ⟨.inr rfl, (resL_tmp rfl resL_nil)⟩
          · refine dw_skip ?_
            refine dw_seq ?_
            -- region 13
            refine dw_draw 24 [11, 12] follows_mixed (by kernel_rfl) rfl rfl ?_
            refine dq_r (sem_field fd39_0 rfl rfl) ?_
            refine dq_r (sem_load (us := cR a) ty26 rfl rfl rfl rfl rfl) ?_
            refine dq_r (sem_load (us := cR p) ty26 rfl rfl rfl rfl rfl) ?_
            refine dq_r (sem_call rfl rfl (sMul_ok (by first | assumption | exact Rz.mono ha (by decide)) (by first | assumption | exact Rz.mono hp (by decide))) rfl) ?_
            refine dq_r (sem_field fd39_1 rfl rfl) ?_
            refine dq_r (sem_load (us := cR b) ty26 rfl rfl rfl rfl rfl) ?_
            refine dq_r (sem_load (us := cR p) ty26 rfl rfl rfl rfl rfl) ?_
            refine dq_r (sem_call rfl rfl (sMul_ok (by first | assumption | exact Rz.mono hb (by decide)) (by first | assumption | exact Rz.mono hp (by decide))) rfl) ?_
            refine dq_r (sem_field fd39_2 rfl rfl) ?_
            refine dq_r (sem_load (us := cR c) ty26 rfl rfl rfl rfl rfl) ?_
            refine dq_r (sem_build (us := (cR (a * p) ++ cR (b * p) ++ cR c)) fs39 zc39 rfl rfl rfl) ?_
            refine dq_r (sem_field fd39_0 rfl rfl) ?_
            refine dq_r (sem_load (us := cR d) ty26 rfl rfl rfl rfl rfl) ?_
            refine dq_r (sem_load (us := cR p) ty26 rfl rfl rfl rfl rfl) ?_
            refine dq_r (sem_call rfl rfl (sMul_ok (by first | assumption | exact Rz.mono hd (by decide)) (by first | assumption | exact Rz.mono hp (by decide))) rfl) ?_
            refine dq_r (sem_field fd39_1 rfl rfl) ?_
            refine dq_r (sem_load (us := cR e) ty26 rfl rfl rfl rfl rfl) ?_
            refine dq_r (sem_load (us := cR p) ty26 rfl rfl rfl rfl rfl) ?_
            refine dq_r (sem_call rfl rfl (sMul_ok (by first | assumption | exact Rz.mono he (by decide)) (by first | assumption | exact Rz.mono hp (by decide))) rfl) ?_
            refine dq_r (sem_field fd39_2 rfl rfl) ?_
            refine dq_r (sem_load (us := cR f) ty26 rfl rfl rfl rfl rfl) ?_
            refine dq_r (sem_build (us := (cR (d * p) ++ cR (e * p) ++ cR f)) fs39 zc39 rfl rfl rfl) ?_
            refine dq_st (sem_store_a ty39 rfl rfl rfl rfl rfl rfl) rfl rfl rfl ?_
            refine dq_st (sem_store_a ty39 rfl rfl rfl rfl rfl rfl) rfl rfl rfl ?_
            refine dq_end ?_
            refine dl_start2 ?_
            refine dl_end ?_
            refine dw_seq ?_
            -- region 14
            refine dw_draw 9 [] follows_mixed (by kernel_rfl) rfl rfl ?_
            refine dq_r (sem_load (us := (cR (a * p) ++ cR (b * p) ++ cR c)) ty39 rfl rfl rfl rfl rfl) ?_
            refine dq_r (sem_load (us := (cR (d * p) ++ cR (e * p) ++ cR f)) ty39 rfl rfl rfl rfl rfl) ?_
            refine dq_r (sem_call rfl rfl (rcasti (xCmp_ok t2a t2b wc8 t2d t2e wf8 s6) e6) rfl) ?_
            refine dq_r (sem_move rfl rfl) ?_
            refine dq_r (sem_load (us := cR p) ty26 rfl rfl rfl rfl rfl) ?_
            refine dq_r (sem_call rfl rfl (sSign_ok) rfl) ?_
            refine dq_r (sem_ari (r := n1 * cmpR p 0) rfl rfl (ari_i64_mul (by omega) (by omega)) rfl) ?_
            refine dq_r (sem_castb (sem_cmp rfl rfl rfl rfl) (beq_self_eq_true (n1 * cmpR p 0))) ?_
            refine dq_r (sem_assign rfl rfl) ?_
            refine dq_end ?_
            refine dl_start0 ?_
            refine dl_end ?_
            refine dw_ret ?_
            -- path ttffF
            exact ⟨.inr rfl, (resL_tmp rfl resL_nil)⟩
        · refine dl_r (sem_move rfl rfl) ?_
          refine dl_r (sem_cmp rfl rfl rfl rfl) ?_
          refine dl_r (sem_pick rfl rfl rfl rfl) ?_
          refine dl_rb (sem_move rfl rfl) (fun c18 hb18 => ?_)
          cases c18
          · refine dl_skip (sem_skip rfl) ?_
            refine dl_skip (sem_skip rfl) ?_
            refine dl_skip (sem_skip rfl) ?_
            refine dl_skip (sem_skip rfl) ?_
            refine dl_skip (sem_skip rfl) ?_
            refine dl_r (sem_pick rfl rfl rfl rfl) ?_
            refine dl_r (sem_pick rfl rfl rfl rfl) ?_
            refine dl_end ?_
            refine dw_false rfl ?_
            refine dw_skip ?_
            refine dw_seq ?_
            -- region 6
            refine dw_region (by kernel_rfl) ?_
            refine dl_r (sem_field fd39_0 rfl rfl) ?_
            refine dl_r (sem_load (us := cR p) ty26 rfl rfl rfl rfl rfl) ?_
            refine dl_new (sem_alloc zc26 rfl) rfl ?_
            refine dl_st (sem_store_a ty26 rfl rfl rfl rfl rfl rfl) ?_
            refine dl_end ?_
            refine dw_seq ?_
            -- region 7
            refine dw_draw 6 [11, 12] follows_mixed (by kernel_rfl) rfl rfl ?_
            refine dq_r (sem_load (us := (cR a ++ cR b ++ cR c)) ty39 rfl rfl rfl rfl rfl) ?_
            refine dq_r (sem_load (us := (cR d ++ cR e ++ cR f)) ty39 rfl rfl rfl rfl rfl) ?_
            refine dq_new (sem_alloc zc39 rfl) rfl ?_
            refine dq_new (sem_alloc zc39 rfl) rfl ?_
            refine dq_sn (sem_store_a ty39 rfl rfl rfl rfl rfl rfl) rfl rfl rfl ?_
            refine dq_sn (sem_store_a ty39 rfl rfl rfl rfl rfl rfl) rfl rfl rfl ?_
            refine dq_end ?_
            refine dl_start4 ?_
            refine dl_end ?_
            refine dw_seq ?_
            -- region 8
            refine dw_draw 9 [] follows_mixed (by kernel_rfl) rfl rfl ?_
            refine dq_r (sem_field fd39_0 rfl rfl) ?_
            refine dq_r (sem_load (us := cR a) ty26 rfl rfl rfl rfl rfl) ?_
            refine dq_r (sem_load (us := cR p) ty26 rfl rfl rfl rfl rfl) ?_
            refine dq_r (sem_call rfl rfl (sAdd_ok (by first | assumption | exact Rz.mono ha (by decide)) (by first | assumption | exact Rz.mono hp (by decide))) rfl) ?_
            refine dq_r (sem_field fd39_0 rfl rfl) ?_
            refine dq_r (sem_load (us := cR d) ty26 rfl rfl rfl rfl rfl) ?_
            refine dq_r (sem_load (us := cR p) ty26 rfl rfl rfl rfl rfl) ?_
            refine dq_r (sem_call rfl rfl (sAdd_ok (by first | assumption | exact Rz.mono hd (by decide)) (by first | assumption | exact Rz.mono hp (by decide))) rfl) ?_
            refine dq_r (sem_field fd39_0 rfl rfl) ?_
            refine dq_end ?_
            refine dl_start0 ?_
            refine dl_st (sem_store (us := (cR (a + p) ++ cR b ++ cR c)) ty26 rfl rfl rfl rfl (Nat.le_of_ble_eq_true rfl) rfl rfl) ?_
            refine dl_r (sem_field fd39_0 rfl rfl) ?_
            refine dl_st (sem_store (us := (cR (d + p) ++ cR e ++ cR f)) ty26 rfl rfl rfl rfl (Nat.le_of_ble_eq_true rfl) rfl rfl) ?_
            refine dl_end ?_
            refine dw_seq ?_
            refine dw_seq ?_
            -- region 9
            refine dw_region (by kernel_rfl) ?_
            refine dl_r (sem_load (us := (cR (a + p) ++ cR b ++ cR c)) ty39 rfl rfl rfl rfl rfl) ?_
            refine dl_r (sem_load (us := (cR (d + p) ++ cR e ++ cR f)) ty39 rfl rfl rfl rfl rfl) ?_
            refine dl_r (sem_call rfl rfl (rcasti (xCmp_ok t1a wb8 wc8 t1d we8 wf8 s5) e5) rfl) ?_
            refine dl_r (sem_move rfl rfl) ?_
            refine dl_r (sem_castb (sem_cmp rfl rfl rfl rfl) (bne_self_eq_false n1)) ?_
            refine dl_end ?_
            refine dw_false rfl ?_
            refine dw_skip ?_
            refine dw_seq ?_
            refine dw_seq ?_
            -- region 11
            refine dw_region (by kernel_rfl) ?_
            refine dl_r (sem_load (us := cR p) ty26 rfl rfl rfl rfl rfl) ?_
            refine dl_r (sem_call rfl rfl (sSign_ok) rfl) ?_
            refine dl_r (sem_cmp rfl rfl rfl rfl) ?_
            refine dl_end ?_
            refine dw_cond rfl (fun hc19 => ?_) (fun hc19 => ?_)
            · refine dw_seq ?_
              -- region 12
              refine dw_region (by kernel_rfl) ?_
              refine dl_r (sem_assign rfl rfl) ?_
              refine dl_end ?_
              refine dw_ret ?_
              -- path ttftfT
              exact ⟨.inr rfl, (resL_tmp rfl resL_nil)⟩
            · refine dw_skip ?_
              refine dw_seq ?_
              -- region 13
              refine dw_draw 24 [11, 12] follows_mixed (by kernel_rfl) rfl rfl ?_
              refine dq_r (sem_field fd39_0 rfl rfl) ?_
              refine dq_r (sem_load (us := cR a) ty26 rfl rfl rfl rfl rfl) ?_
              refine dq_r (sem_load (us := cR p) ty26 rfl rfl rfl rfl rfl) ?_
              refine dq_r (sem_call rfl rfl (sMul_ok (by first | assumption | exact Rz.mono ha (by decide)) (by first | assumption | exact Rz.mono hp (by decide))) rfl) ?_
              refine dq_r (sem_field fd39_1 rfl rfl) ?_
              refine dq_r (sem_load (us := cR b) ty26 rfl rfl rfl rfl rfl) ?_
              refine dq_r (sem_load (us := cR p) ty26 rfl rfl rfl rfl rfl) ?_
              refine dq_r (sem_call rfl rfl (sMul_ok (by first | assumption | exact Rz.mono hb (by decide)) (by first | assumption | exact Rz.mono hp (by decide))) rfl) ?_
              refine dq_r (sem_field fd39_2 rfl rfl) ?_
              refine dq_r (sem_load (us := cR c) ty26 rfl rfl rfl rfl rfl) ?_
              refine dq_r (sem_build (us := (cR (a * p) ++ cR (b * p) ++ cR c)) fs39 zc39 rfl rfl rfl) ?_
              refine dq_r (sem_field fd39_0 rfl rfl) ?_
              refine dq_r (sem_load (us := cR d) ty26 rfl rfl rfl rfl rfl) ?_
              refine dq_r (sem_load (us := cR p) ty26 rfl rfl rfl rfl rfl) ?_
              refine dq_r (sem_call rfl rfl (sMul_ok (by first | assumption | exact Rz.mono hd (by decide)) (by first | assumption | exact Rz.mono hp (by decide))) rfl) ?_
              refine dq_r (sem_field fd39_1 rfl rfl) ?_
              refine dq_r (sem_load (us := cR e) ty26 rfl rfl rfl rfl rfl) ?_
              refine dq_r (sem_load (us := cR p) ty26 rfl rfl rfl rfl rfl) ?_
              refine dq_r (sem_call rfl rfl (sMul_ok (by first | assumption | exact Rz.mono he (by decide)) (by first | assumption | exact Rz.mono hp (by decide))) rfl) ?_
              refine dq_r (sem_field fd39_2 rfl rfl) ?_
              refine dq_r (sem_load (us := cR f) ty26 rfl rfl rfl rfl rfl) ?_
              refine dq_r (sem_build (us := (cR (d * p) ++ cR (e * p) ++ cR f)) fs39 zc39 rfl rfl rfl) ?_
              refine dq_st (sem_store_a ty39 rfl rfl rfl rfl rfl rfl) rfl rfl rfl ?_
              refine dq_st (sem_store_a ty39 rfl rfl rfl rfl rfl rfl) rfl rfl rfl ?_
              refine dq_end ?_
              refine dl_start2 ?_
              refine dl_end ?_
              refine dw_seq ?_
              -- region 14
              refine dw_draw 9 [] follows_mixed (by kernel_rfl) rfl rfl ?_
              refine dq_r (sem_load (us := (cR (a * p) ++ cR (b * p) ++ cR c)) ty39 rfl rfl rfl rfl rfl) ?_
              refine dq_r (sem_load (us := (cR (d * p) ++ cR (e * p) ++ cR f)) ty39 rfl rfl rfl rfl rfl) ?_
              refine dq_r (sem_call rfl rfl (rcasti (xCmp_ok t2a t2b wc8 t2d t2e wf8 s6) e6) rfl) ?_
              refine dq_r (sem_move rfl rfl) ?_
              refine dq_r (sem_load (us := cR p) ty26 rfl rfl rfl rfl rfl) ?_
              refine dq_r (sem_call rfl rfl (sSign_ok) rfl) ?_
              refine dq_r (sem_ari (r := n1 * cmpR p 0) rfl rfl (ari_i64_mul (by omega) (by omega)) rfl) ?_
              refine dq_r (sem_castb (sem_cmp rfl rfl rfl rfl) (beq_self_eq_true (n1 * cmpR p 0))) ?_
              refine dq_r (sem_assign rfl rfl) ?_
              refine dq_end ?_
              refine dl_start0 ?_
              refine dl_end ?_
              refine dw_ret ?_
              -- path ttftfF
              exact ⟨.inr rfl, (resL_tmp rfl resL_nil)⟩
          · refine dl_r (sem_move rfl rfl) ?_
            refine dl_r (sem_move rfl rfl) ?_
            refine dl_r (sem_move rfl rfl) ?_
            refine dl_r (sem_min rfl rfl rfl) ?_
            refine dl_r (sem_cmp rfl rfl rfl rfl) ?_
            refine dl_r (sem_pick rfl rfl rfl rfl) ?_
            refine dl_r (sem_pick rfl rfl rfl rfl) ?_
            refine dl_end ?_
            refine dw_cond rfl (fun hc20 => ?_) (fun hc20 => ?_)
            · exfalso
              have g1 := hb1
              have g2 := hb8
              have g3 := hb15
              have g4 := hb16
              have g5 := hb18
              have g6 := hc20
              simp only [decide_eq_true_eq, decide_eq_false_iff_not] at g1 g2 g3 g4 g5 g6
              clear oS1 oS2 oS3 e1 e2 e3 e4 e5 e6
              omega
            · refine dw_skip ?_
              refine dw_seq ?_
              -- region 6
              refine dw_region (by kernel_rfl) ?_
              refine dl_r (sem_field fd39_0 rfl rfl) ?_
              refine dl_r (sem_load (us := cR p) ty26 rfl rfl rfl rfl rfl) ?_
              refine dl_new (sem_alloc zc26 rfl) rfl ?_
              refine dl_st (sem_store_a ty26 rfl rfl rfl rfl rfl rfl) ?_
              refine dl_end ?_
              refine dw_seq ?_
              -- region 7
              refine dw_draw 6 [11, 12] follows_mixed (by kernel_rfl) rfl rfl ?_
              refine dq_r (sem_load (us := (cR a ++ cR b ++ cR c)) ty39 rfl rfl rfl rfl rfl) ?_
              refine dq_r (sem_load (us := (cR d ++ cR e ++ cR f)) ty39 rfl rfl rfl rfl rfl) ?_
              refine dq_new (sem_alloc zc39 rfl) rfl ?_
              refine dq_new (sem_alloc zc39 rfl) rfl ?_
              refine dq_sn (sem_store_a ty39 rfl rfl rfl rfl rfl rfl) rfl rfl rfl ?_
              refine dq_sn (sem_store_a ty39 rfl rfl rfl rfl rfl rfl) rfl rfl rfl ?_
              refine dq_end ?_
              refine dl_start4 ?_
              refine dl_end ?_
              refine dw_seq ?_
              -- region 8
              refine dw_draw 9 [] follows_mixed (by kernel_rfl) rfl rfl ?_
              refine dq_r (sem_field fd39_0 rfl rfl) ?_
              refine dq_r (sem_load (us := cR a) ty26 rfl rfl rfl rfl rfl) ?_
              refine dq_r (sem_load (us := cR p) ty26 rfl rfl rfl rfl rfl) ?_
              refine dq_r (sem_call rfl rfl (sAdd_ok (by first | assumption | exact Rz.mono ha (by decide)) (by first | assumption | exact Rz.mono hp (by decide))) rfl) ?_
              refine dq_r (sem_field fd39_0 rfl rfl) ?_
              refine dq_r (sem_load (us := cR d) ty26 rfl rfl rfl rfl rfl) ?_
              refine dq_r (sem_load (us := cR p) ty26 rfl rfl rfl rfl rfl) ?_
              refine dq_r (sem_call rfl rfl (sAdd_ok (by first | assumption | exact Rz.mono hd (by decide)) (by first | assumption | exact Rz.mono hp (by decide))) rfl) ?_
              refine dq_r (sem_field fd39_0 rfl rfl) ?_
              refine dq_end ?_
              refine dl_start0 ?_
              refine dl_st (sem_store (us := (cR (a + p) ++ cR b ++ cR c)) ty26 rfl rfl rfl rfl (Nat.le_of_ble_eq_true rfl) rfl rfl) ?_
              refine dl_r (sem_field fd39_0 rfl rfl) ?_
              refine dl_st (sem_store (us := (cR (d + p) ++ cR e ++ cR f)) ty26 rfl rfl rfl rfl (Nat.le_of_ble_eq_true rfl) rfl rfl) ?_
              refine dl_end ?_
              refine dw_seq ?_
              refine dw_seq ?_
              -- region 9
              refine dw_region (by kernel_rfl) ?_
              refine dl_r (sem_load (us := (cR (a + p) ++ cR b ++ cR c)) ty39 rfl rfl rfl rfl rfl) ?_
              refine dl_r (sem_load (us := (cR (d + p) ++ cR e ++ cR f)) ty39 rfl rfl rfl rfl rfl) ?_
              refine dl_r (sem_call rfl rfl (rcasti (xCmp_ok t1a wb8 wc8 t1d we8 wf8 s5) e5) rfl) ?_
              refine dl_r (sem_move rfl rfl) ?_
              refine dl_r (sem_castb (sem_cmp rfl rfl rfl rfl) (bne_self_eq_false n1)) ?_
              refine dl_end ?_
              refine dw_false rfl ?_
              refine dw_skip ?_
              refine dw_seq ?_
              refine dw_seq ?_
              -- region 11
              refine dw_region (by kernel_rfl) ?_
              refine dl_r (sem_load (us := cR p) ty26 rfl rfl rfl rfl rfl) ?_
              refine dl_r (sem_call rfl rfl (sSign_ok) rfl) ?_
              refine dl_r (sem_cmp rfl rfl rfl rfl) ?_
              refine dl_end ?_
              refine dw_cond rfl (fun hc21 => ?_) (fun hc21 => ?_)
              · refine dw_seq ?_
                -- region 12
                refine dw_region (by kernel_rfl) ?_
                refine dl_r (sem_assign rfl rfl) ?_
                refine dl_end ?_
                refine dw_ret ?_
                -- path ttfttFT
                exact ⟨.inr rfl, (resL_tmp rfl resL_nil)⟩
              · refine dw_skip ?_
                refine dw_seq ?_
                -- region 13
                refine dw_draw 24 [11, 12] follows_mixed (by kernel_rfl) rfl rfl ?_
                refine dq_r (sem_field fd39_0 rfl rfl) ?_
                refine dq_r (sem_load (us := cR a) ty26 rfl rfl rfl rfl rfl) ?_
                refine dq_r (sem_load (us := cR p) ty26 rfl rfl rfl rfl rfl) ?_
                refine dq_r (sem_call rfl rfl (sMul_ok (by first | assumption | exact Rz.mono ha (by decide)) (by first | assumption | exact Rz.mono hp (by decide))) rfl) ?_
                refine dq_r (sem_field fd39_1 rfl rfl) ?_
                refine dq_r (sem_load (us := cR b) ty26 rfl rfl rfl rfl rfl) ?_
                refine dq_r (sem_load (us := cR p) ty26 rfl rfl rfl rfl rfl) ?_
                refine dq_r (sem_call rfl rfl (sMul_ok (by first | assumption | exact Rz.mono hb (by decide)) (by first | assumption | exact Rz.mono hp (by decide))) rfl) ?_
                refine dq_r (sem_field fd39_2 rfl rfl) ?_
                refine dq_r (sem_load (us := cR c) ty26 rfl rfl rfl rfl rfl) ?_
                refine dq_r (sem_build (us := (cR (a * p) ++ cR (b * p) ++ cR c)) fs39 zc39 rfl rfl rfl) ?_
                refine dq_r (sem_field fd39_0 rfl rfl) ?_
                refine dq_r (sem_load (us := cR d) ty26 rfl rfl rfl rfl rfl) ?_
                refine dq_r (sem_load (us := cR p) ty26 rfl rfl rfl rfl rfl) ?_
                refine dq_r (sem_call rfl rfl (sMul_ok (by first | assumption | exact Rz.mono hd (by decide)) (by first | assumption | exact Rz.mono hp (by decide))) rfl) ?_
                refine dq_r (sem_field fd39_1 rfl rfl) ?_
                refine dq_r (sem_load (us := cR e) ty26 rfl rfl rfl rfl rfl) ?_
                refine dq_r (sem_load (us := cR p) ty26 rfl rfl rfl rfl rfl) ?_
                refine dq_r (sem_call rfl rfl (sMul_ok (by first | assumption | exact Rz.mono he (by decide)) (by first | assumption | exact Rz.mono hp (by decide))) rfl) ?_
                refine dq_r (sem_field fd39_2 rfl rfl) ?_
                refine dq_r (sem_load (us := cR f) ty26 rfl rfl rfl rfl rfl) ?_
                refine dq_r (sem_build (us := (cR (d * p) ++ cR (e * p) ++ cR f)) fs39 zc39 rfl rfl rfl) ?_
                refine dq_st (sem_store_a ty39 rfl rfl rfl rfl rfl rfl) rfl rfl rfl ?_
                refine dq_st (sem_store_a ty39 rfl rfl rfl rfl rfl rfl) rfl rfl rfl ?_
                refine dq_end ?_
                refine dl_start2 ?_
                refine dl_end ?_
                refine dw_seq ?_
                -- region 14
                refine dw_draw 9 [] follows_mixed (by kernel_rfl) rfl rfl ?_
                refine dq_r (sem_load (us := (cR (a * p) ++ cR (b * p) ++ cR c)) ty39 rfl rfl rfl rfl rfl) ?_
                refine dq_r (sem_load (us := (cR (d * p) ++ cR (e * p) ++ cR f)) ty39 rfl rfl rfl rfl rfl) ?_
                refine dq_r (sem_call rfl rfl (rcasti (xCmp_ok t2a t2b wc8 t2d t2e wf8 s6) e6) rfl) ?_
                refine dq_r (sem_move rfl rfl) ?_
                refine dq_r (sem_load (us := cR p) ty26 rfl rfl rfl rfl rfl) ?_
                refine dq_r (sem_call rfl rfl (sSign_ok) rfl) ?_
                refine dq_r (sem_ari (r := n1 * cmpR p 0) rfl rfl (ari_i64_mul (by omega) (by omega)) rfl) ?_
                refine dq_r (sem_castb (sem_cmp rfl rfl rfl rfl) (beq_self_eq_true (n1 * cmpR p 0))) ?_
                refine dq_r (sem_assign rfl rfl) ?_
                refine dq_end ?_
                refine dl_start0 ?_
                refine dl_end ?_
                refine dw_ret ?_
                -- path ttfttFF
                exact ⟨.inr rfl, (resL_tmp rfl resL_nil)⟩
      · exfalso
        have g1 := hb1
        have g2 := hb8
        have g3 := hb15
        simp only [decide_eq_true_eq, decide_eq_false_iff_not] at g1 g2 g3
        clear oS1 oS2 oS3 e1 e2 e3 e4 e5 e6
        omega
end Go.Proofs.YtcbjmiddangfoaaGreat
/- RadicalOrder: for every input the law returns true, and each argument reads behind the call as it read before. No condition. -/
namespace Go.Proofs.YtcbjmiddangfoaaGreat
open Go.ChangeShapes Go.WideShapes Go.ChangeAt Go.RowKit
theorem vRoot_nn {b c : Rat} (h : vRoot b c = true) : 0 ≤ c := by
  unfold vRoot at h
  split at h
  · rw [decide_eq_true_eq] at h; rw [h.2]; exact Rat.le_refl
  · rw [Bool.and_eq_true, decide_eq_true_eq] at h; exact Rat.le_of_lt h.1
theorem law_order5 {x1 x2 x3 y1 y2 y3 z1 z2 z3 : RN} (w1 : x1.Wf) (w2 : x2.Wf) (w3 : x3.Wf) (w4 : y1.Wf) (w5 : y2.Wf) (w6 : y3.Wf) (w7 : z1.Wf) (w8 : z2.Wf) (w9 : z3.Wf) :
    Ok Tryz.prog 5 [.a (cN x1 ++ cN x2 ++ cN x3), .a (cN y1 ++ cN y2 ++ cN y3), .a (cN z1 ++ cN z2 ++ cN z3)] [.c (.b true)] := by
  rcases small5_ex w1 w2 w3 with h | ⟨h1, a, b, c, ha, hb, hc, v1, q1⟩
  · exact lwO5_0 h
  rcases small5_ex w4 w5 w6 with h | ⟨h2, d, e, f, hd, he, hf, v2, q2⟩
  · exact lwO5_1 h1 h
  rcases small5_ex w7 w8 w9 with h | ⟨h3, p, q, r, hp, hq, hr, v3, q3⟩
  · exact lwO5_2 h1 h2 h
  rw [q1] at h1 ⊢
  rw [q2] at h2 ⊢
  rw [q3] at h3 ⊢
  have c0 := vRoot_nn v1
  have f0 := vRoot_nn v2
  have r0 := vRoot_nn v3
  have k1 := sgR_cases (val3 a b c - val3 d e f)
  exact lwO5_R ha hb hc hd he hf hp hq hr h1 h2 h3 (n1 := sgR (val3 a b c - val3 d e f)) (by omega) (by omega) (cmpP_eq c0 f0) (cmpP_eq f0 r0) (cmpP_eq c0 r0)
    ((cmpP_eq f0 c0).trans (sgR_sw _ _)) ((cmpP_eq c0 f0).trans rd_mv) ((cmpP_eq c0 f0).trans rd_sc)
    (fun g1 g2 => rd_tr _ _ _ g1 g2) (fun g1 g2 => rd_tr2 _ _ _ g1 g2)
set_option maxRecDepth 100000 in
theorem order5_lifted (os : Os) (started : os.Started) (H : Type) (enc : TypeId × Value → H) :
    ReturnsInHanded {} Tryz.checked os 5 .any (Rows.radicalOrderSpec.pre6 enc Tryz.prog Tryz.f5 Rows.radicalOrderRow.domain false) (Rows.radicalOrderSpec.post enc Tryz.prog Tryz.f5 false true false false) := by
  refine returnsInHanded_of_change (C := Tryz.checked) own started (by kernel_rfl) Tryz.func5
    (ChangeSpec.witness6 (enc := enc) (C := Tryz.checked) false ⟨#[], #[.agg (Array.replicate 6 #[Value.bool false, .slice none 0 0]).flatten, .agg (Array.replicate 6 #[Value.bool false, .slice none 0 0]).flatten, .agg (Array.replicate 6 #[Value.bool false, .slice none 0 0]).flatten], []⟩ 8 (by kernel_rfl) (by kernel_rfl) (by kernel_rfl) (by kernel_rfl)) ?_
  intro W base args ds gs before hval0 hW hcnd _
  have hval : ∀ (j : Nat) t v, Tryz.f5.params[j]? = some t → args[j]? = some v → Value.okWide Tryz.prog W .any base t v := hval0
  have hW' := hW
  obtain ⟨p, q, hA0, hV, rfl, hfz, hnd⟩ := hW
  have hA : DataW.TrodAll enc Tryz.prog W 0 (fun _ => true) true Tryz.f5.params.toList args.toList ds p := hA0
  rw [Tryz.params5] at hA hval
  obtain ⟨v0, vs0, d0, ds0, p0, q0, hargs, rfl, rfl, h0, r0⟩ := trodAll_cons hA
  obtain ⟨v1, vs1, d1, ds1, p1, q1, rfl, rfl, rfl, h1, r1⟩ := trodAll_cons r0
  obtain ⟨v2, vs2, d2, ds2, p2, q2, rfl, rfl, rfl, h2, r2⟩ := trodAll_cons r1
  obtain ⟨rfl, rfl, rfl⟩ := trodAll_nil r2
  obtain rfl : args = #[v0, v1, v2] := by cases args; simp_all
  obtain ⟨rfl, rfl⟩ := trodVars_none hV
  obtain ⟨a0, rfl, _⟩ := okWide_struct Tryz.underlying39 (hval 0 39 v0 rfl rfl)
  have k0 := h0
  have lt0 : ∀ x ∈ p0, x.block < W.heap.size := by obtain ⟨m, hm⟩ := k0; exact DataW.trod_lt m _ _ _ hm
  obtain ⟨a1, rfl, _⟩ := okWide_struct Tryz.underlying39 (hval 1 39 v1 rfl rfl)
  have k1 := h1
  have lt1 : ∀ x ∈ p1, x.block < W.heap.size := by obtain ⟨m, hm⟩ := k1; exact DataW.trod_lt m _ _ _ hm
  obtain ⟨a2, rfl, _⟩ := okWide_struct Tryz.underlying39 (hval 2 39 v2 rfl rfl)
  have k2 := h2
  have lt2 : ∀ x ∈ p2, x.block < W.heap.size := by obtain ⟨m, hm⟩ := k2; exact DataW.trod_lt m _ _ _ hm
  obtain ⟨e00, e01, e02, w00, w01, w02, hr0⟩ := root_of (show DataW.trod enc Tryz.prog W 0 _ _ h0.choose 39 a0.toList = some _ from h0.choose_spec)
  obtain ⟨e10, e11, e12, w10, w11, w12, hr1⟩ := root_of (show DataW.trod enc Tryz.prog W 0 _ _ h1.choose 39 a1.toList = some _ from h1.choose_spec)
  obtain ⟨e20, e21, e22, w20, w21, w22, hr2⟩ := root_of (show DataW.trod enc Tryz.prog W 0 _ _ h2.choose 39 a2.toList = some _ from h2.choose_spec)
  clear hA0 hval0
  refine (law_of (law_order5 w00 w01 w02 w10 w11 w12 w20 w21 w22) (RdL.cons ⟨a0, rfl, hr0⟩ (RdL.cons ⟨a1, rfl, hr1⟩ (RdL.cons ⟨a2, rfl, hr2⟩ RdL.nil)))).mono fun e W' ⟨he, bel⟩ => ?_
  subst he
  exact ⟨_, rfl, _, _, _, [], _, [], hW', trodAll_mk1 (shut_bool Tryz.underlying4 _), (trodAll_cons_mk (Below.trod laidOut (by kernel_rfl) (of_decide_eq_true (by kernel_rfl)) k0 bel lt0) (trodAll_cons_mk (Below.trod laidOut (by kernel_rfl) (of_decide_eq_true (by kernel_rfl)) k1 bel lt1) (trodAll_cons_mk (Below.trod laidOut (by kernel_rfl) (of_decide_eq_true (by kernel_rfl)) k2 bel lt2) trodAll_mk0))), rfl, bel.frame _, fun h => by cases h⟩
theorem order5_proved : Rows.RadicalOrderSaid :=
  OpenClaim.holds_of_wide 5 Tryz.f5 rfl rfl rfl rfl rfl rfl rfl ⟨rfl, rfl, rfl, rfl, rfl⟩ rfl rfl rfl rfl rfl (by kernel_rfl) Tryz.func5 (by kernel_rfl)
    (of_decide_eq_true (by kernel_rfl)) (by unfold Func.isWrapper; first | (rw [if_pos (by decide +kernel)]; kernel_rfl) | (rw [if_neg (by decide +kernel)]; exact ⟨rfl, rfl⟩))
    (fun os started H enc _ => order5_lifted os started H enc)
end Go.Proofs.YtcbjmiddangfoaaGreat
