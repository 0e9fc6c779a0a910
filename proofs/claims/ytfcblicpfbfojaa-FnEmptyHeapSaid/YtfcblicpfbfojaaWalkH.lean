/-
  Walks: the work of a copy.
  Conditions: those that each theorem states.
-/
import Derived.Test.YtfcblicpfbfojaaTy
import Derived.Test.YtfcblicpfbfojaaWalkG
import Derived.Test.YtfcblicpfbfojaaSteps
namespace Go.Proofs.Ytfcblicpfbfojaa
open Go Go.RowKit
attribute [local irreducible] wpList wpAnyH Code.wp dOp

set_option maxHeartbeats 400000 in
set_option maxRecDepth 20000 in
theorem spec_CopySteps_c (Pr : Nat → Prop) (A B : Option Addr) (h : LH) (c d : Nat) (w : World) (hA : RC Pr w A h.cells) (hB : R1 Pr w B (ints h.roots)) (hz : hsize h ≤ 1048576) :
    Calls Try.prog 45 #[.agg #[.slice A h.cells.length c, .slice B h.roots.length d]] w (Ret fun v w' => v = .tuple #[.int .i64 (stepsV h).1, .int .i64 (stepsV h).2] ∧ Grow w w') := by
  refine enter Try.func45 rfl Try.ntmps45 (L := (_ :: _ :: _ :: _ :: _ :: _ :: _ :: _ :: _ :: _ :: _ :: _ :: _ :: _ :: _ :: _ :: _ :: _ :: _ :: _ :: _ :: _ :: _ :: _ :: _ :: _ :: _ :: _ :: _ :: _ :: _ :: _ :: _ :: [])) rfl ?_
  have G := Mod.refl No w
  have hA0 := hA
  have hB0 := hB
  refine wp_seq_k fun K1 hK1 => ?_
  refine wp_region_lit ?_  -- region 0 l15_copying.go:44
  refine S_beg 33 rfl ?_
  refine S_box (cs := [_, _]) rfl rfl ?_
  intro b1 w1 fb1 g1 B1
  have lb1 := B1.lt
  replace hA := hA.grow g1
  replace hB := hB.grow g1
  replace G := G.grow g1
  have zg1 := g1.size
  refine S_val (Y_assign rfl) ?_
  refine S_val (Y_assign rfl) ?_
  refine S_nil (L' := (_ :: _ :: _ :: _ :: _ :: _ :: _ :: _ :: _ :: _ :: _ :: _ :: _ :: _ :: _ :: _ :: _ :: _ :: _ :: _ :: _ :: _ :: _ :: _ :: _ :: _ :: _ :: _ :: _ :: _ :: _ :: _ :: _ :: [])) rfl rfl ?_
  refine th_n ?_
  refine hK1 _ _ ?_
  clear hK1 K1
  refine wp_seq_k fun K2 hK2 => ?_
  refine wp_seq_k fun K3 hK3 => ?_
  refine wp_region_lit ?_  -- region 1 l15_copying.go:45
  refine S_beg 33 rfl ?_
  refine S_val (Y_loadS Try.underlying31 rfl sz31 rfl (by first | assumption | exact B1.row (by rfl))) ?_  -- l1
  refine S_call rfl en34 (spec_HeapValid_c _ _ _ _ _ _ _ (by assumption) (by assumption) (by omega)) ?_  -- k1 spec.HeapValid
  rintro v2 w2 ⟨rfl, g2⟩
  replace hA := hA.grow g2
  replace hB := hB.grow g2
  replace G := G.grow g2
  replace B1 := B1.grow g2
  have zg2 := g2.size
  refine S_val (Y_not rfl) ?_
  refine S_nil (L' := (_ :: _ :: _ :: _ :: _ :: _ :: _ :: _ :: _ :: _ :: _ :: _ :: _ :: _ :: _ :: _ :: _ :: _ :: _ :: _ :: _ :: _ :: _ :: _ :: _ :: _ :: _ :: _ :: _ :: _ :: _ :: _ :: _ :: [])) rfl rfl ?_
  refine th_n ?_
  refine hK3 _ _ ?_
  clear hK3 K3
  refine S_if rfl (fun hb1 => ?_) (fun hb1 => ?_)  -- c1
  · -- c1T
    first | with_reducible (replace hb1 := nb_nt hb1) | with_reducible (replace hb1 := nb_nf hb1) | with_reducible (replace hb1 := nb_tt hb1) | with_reducible (replace hb1 := nb_tf hb1) | with_reducible (replace hb1 := nb_bt hb1) | with_reducible (replace hb1 := nb_bf hb1) | skip
    refine wp_seq_k fun K4 hK4 => ?_
    refine wp_region_lit ?_  -- region 2 l15_copying.go:46
    refine S_beg 33 rfl ?_
    refine S_val (Y_assign rfl) ?_
    refine S_val (Y_assign rfl) ?_
    refine S_nil (L' := (_ :: _ :: _ :: _ :: _ :: _ :: _ :: _ :: _ :: _ :: _ :: _ :: _ :: _ :: _ :: _ :: _ :: _ :: _ :: _ :: _ :: _ :: _ :: _ :: _ :: _ :: _ :: _ :: _ :: _ :: _ :: _ :: _ :: [])) rfl rfl ?_
    refine th_n ?_
    refine hK4 _ _ ?_
    clear hK4 K4
    refine wp_ret ?_
    refine th_r ?_
    clear hK2 K2
    refine ret_r2 rfl rfl rfl ?_  -- r1
    exact ⟨by rw [stepsV_f hb1], G⟩
  · -- c1F
    first | with_reducible (replace hb1 := nb_nt hb1) | with_reducible (replace hb1 := nb_nf hb1) | with_reducible (replace hb1 := nb_tt hb1) | with_reducible (replace hb1 := nb_tf hb1) | with_reducible (replace hb1 := nb_bt hb1) | with_reducible (replace hb1 := nb_bf hb1) | skip
    have va := valid_iff.1 hb1
    have hl := va.leads
    have h40 := va.le
    have hr4 := va.roots4
    refine wp_skip ?_
    refine th_n ?_
    refine hK2 _ _ ?_
    clear hK2 K2
    refine wp_seq_k fun K5 hK5 => ?_
    refine wp_region_lit ?_  -- region 3 l15_copying.go:48
    refine S_beg 33 rfl ?_
    refine S_val (Y_loadS Try.underlying31 rfl sz31 rfl (by first | assumption | exact B1.row (by rfl))) ?_  -- l2
    refine S_call rfl en79 (spec_l9Order_c _ _ _ _ _ _ _ (by assumption) (by assumption) (by omega) (by assumption)) ?_  -- k2 spec.l9Order
    rintro v3 w3 ⟨A3, q3, cap3, rfl, hq3, O3, g3⟩
    replace hA := hA.grow g3
    replace hB := hB.grow g3
    replace G := G.grow g3
    replace B1 := B1.grow g3
    have zg3 := g3.size
    obtain ⟨s, hsE⟩ : ∃ s, orderL h.cells h.roots nn = s := ⟨_, rfl⟩
    rw [hsE] at hq3 O3
    have hbd : Bnd h.cells.length s := hsE ▸ orderL_bnd hl
    have hsl := hbd.len
    refine S_val (Y_assign rfl) ?_
    refine S_nil (L' := (_ :: _ :: _ :: _ :: _ :: _ :: _ :: _ :: _ :: _ :: _ :: _ :: _ :: _ :: _ :: _ :: _ :: _ :: _ :: _ :: _ :: _ :: _ :: _ :: _ :: _ :: _ :: _ :: _ :: _ :: _ :: _ :: _ :: [])) rfl rfl ?_
    refine th_n ?_
    refine hK5 _ _ ?_
    clear hK5 K5
    refine wp_seq_k fun K6 hK6 => ?_
    refine wp_region_lit ?_  -- region 4 l15_copying.go:49
    refine S_beg 33 rfl ?_
    refine S_val (Y_assign rfl) ?_
    refine S_nil (L' := (_ :: _ :: _ :: _ :: _ :: _ :: _ :: _ :: _ :: _ :: _ :: _ :: _ :: _ :: _ :: _ :: _ :: _ :: _ :: _ :: _ :: _ :: _ :: _ :: _ :: _ :: _ :: _ :: _ :: _ :: _ :: _ :: _ :: [])) rfl rfl ?_
    refine th_n ?_
    refine hK6 _ _ ?_
    clear hK6 K6
    refine wp_seq_k fun K7 hK7 => ?_
    refine wp_seq_k fun K8 hK8 => ?_
    refine wp_region_lit ?_  -- region 5 l15_copying.go:50
    refine S_beg 33 rfl ?_
    refine S_val (Y_assign rfl) ?_
    refine S_nil (L' := (_ :: _ :: _ :: _ :: _ :: _ :: _ :: _ :: _ :: _ :: _ :: _ :: _ :: _ :: _ :: _ :: _ :: _ :: _ :: _ :: _ :: _ :: _ :: _ :: _ :: _ :: _ :: _ :: _ :: _ :: _ :: _ :: _ :: [])) rfl rfl ?_
    refine th_n ?_
    refine hK8 _ _ ?_
    clear hK8 K8
    refine wp_block ?_
    go_loopw [5, 6] (fun u5 u6 wr => (∃ k : Nat, u6 = .int .i64 k ∧ u5 = .int .i64 ((4 + rsumO h.cells (s.take k) : Nat) : Int) ∧ k ≤ s.length ∧ rsumO h.cells (s.take k) ≤ 3 * k) ∧ Mod No w3 wr) (fun u5 u6 wr => s.length - (intOf u6).toNat)  -- L1
    case atStart =>
      refine ⟨?_, Mod.refl _ _⟩
      exact ⟨0, rfl, by first | rfl | (rw [hr4]; rfl), by omega, by simp [rsumO]⟩
    case round =>
      obtain ⟨w4, rfl⟩ : ∃ x : World, x = wr := ⟨_, rfl⟩
      obtain ⟨hrel, g4⟩ := hrel
      replace hA := hA.grow g4
      replace hB := hB.grow g4
      replace O3 := O3.grow g4
      replace G := G.grow g4
      replace B1 := B1.grow g4
      have zg4 := g4.size
      obtain ⟨k, rfl, rfl, hk, hr0⟩ := hrel
      have GL4 := g4
      refine wp_seq_k fun K9 hK9 => ?_
      refine wp_seq_k fun K10 hK10 => ?_
      refine wp_region_lit ?_  -- region 6 l15_copying.go:50
      refine S_beg 33 rfl ?_
      refine S_val (Y_move rfl) ?_
      refine S_val (Y_move rfl) ?_
      refine S_val (Y_len Try.underlying29 rfl) ?_
      refine S_val (Y_lss rfl rfl) ?_
      refine S_nil (L' := (_ :: _ :: _ :: _ :: _ :: _ :: _ :: _ :: _ :: _ :: _ :: _ :: _ :: _ :: _ :: _ :: _ :: _ :: _ :: _ :: _ :: _ :: _ :: _ :: _ :: _ :: _ :: _ :: _ :: _ :: _ :: _ :: _ :: [])) rfl rfl ?_
      refine th_n ?_
      refine hK10 _ _ ?_
      clear hK10 K10
      refine S_if rfl (fun hb2 => ?_) (fun hb2 => ?_)  -- c2
      · -- c2T
        first | with_reducible (replace hb2 := nb_nt hb2) | with_reducible (replace hb2 := nb_nf hb2) | with_reducible (replace hb2 := nb_tt hb2) | with_reducible (replace hb2 := nb_tf hb2) | with_reducible (replace hb2 := nb_bt hb2) | with_reducible (replace hb2 := nb_bf hb2) | skip
        refine wp_skip ?_
        refine th_n ?_
        refine hK9 _ _ ?_
        clear hK9 K9
        refine wp_seq_k fun K11 hK11 => ?_
        refine wp_block ?_
        refine D_start 13 33 (fun w => Mod (No) w) follows rfl rfl ?_  -- d1 region 8 l15_copying.go:51
        intro w5 g5
        replace hA := hA.grow g5
        replace hB := hB.grow g5
        replace O3 := O3.grow g5
        replace G := G.grow g5
        replace GL4 := GL4.grow g5
        replace B1 := B1.grow g5
        have zg5 := g5.size
        have GS5 := Mod.refl (No) w5
        have hk1 : k < s.length := by omega
        obtain ⟨n2, hn2, hnN2, hng2⟩ := bnd_at hbd hk1
        obtain ⟨g2, o2, rfl, hp2, hc2⟩ := O3.r1.int hk1
        rw [hn2] at hc2
        obtain ⟨g3, o3, E3, d3, rfl, hp3, cc30, hE30⟩ := hA0.cell hnN2
        have hz4 := va.refs3 hnN2
        have cc3 := cc30.grow G
        refine D_q (i := 0) rfl (by kernel_rfl) (fun _ _ _ h => h) GS5 (fun _ _ => Y_move rfl) ?_
        refine D_q (i := 1) rfl (by kernel_rfl) (fun _ _ _ h => h) GS5 (fun _ _ => Y_field Try.underlying31 rfl fz31_0 (by decide) rfl) ?_
        refine D_q (i := 2) rfl (by kernel_rfl) (fun _ _ _ h => h) GS5 (fun _ hs => Y_load Try.underlying28 rfl rfl (by first | exact hs.cell0 (by assumption) | exact hs.cell0 (B1.at (by rfl)) | exact hs.cell0 (cc3.at (by rfl)))) ?_
        refine D_q (i := 3) rfl (by kernel_rfl) (fun _ _ _ h => h) GS5 (fun _ _ => Y_move rfl) ?_
        refine D_q (i := 4) rfl (by kernel_rfl) (fun _ _ _ h => h) GS5 (fun _ _ => Y_move rfl) ?_
        refine D_q (i := 5) rfl (by kernel_rfl) (fun _ _ _ h => h) GS5 (fun _ _ => Y_index Try.underlying29 sz3 rfl rfl (by first | assumption | omega)) ?_
        refine D_q (i := 6) rfl (by kernel_rfl) (fun _ _ _ h => h) GS5 (fun _ hs => Y_load Try.underlying3 rfl rfl (by first | exact hs.cell0 (by assumption) | exact hs.cell0 (B1.at (by rfl)) | exact hs.cell0 (cc3.at (by rfl)))) ?_
        refine D_q (i := 7) rfl (by kernel_rfl) (fun _ _ _ h => h) GS5 (fun _ _ => Y_index Try.underlying28 sz90 rfl rfl (by first | assumption | omega)) ?_
        refine D_q (i := 8) rfl (by kernel_rfl) (fun _ _ _ h => h) GS5 (fun _ _ => Y_field Try.underlying90 rfl fz90_2 (by decide) rfl) ?_
        refine D_q (i := 9) rfl (by kernel_rfl) (fun _ _ _ h => h) GS5 (fun _ hs => Y_load Try.underlying29 rfl rfl (by first | exact hs.cell0 (by assumption) | exact hs.cell0 (B1.at (by rfl)) | exact hs.cell0 (cc3.at (by rfl)))) ?_
        refine D_q (i := 10) rfl (by kernel_rfl) (fun _ _ _ h => h) GS5 (fun _ _ => Y_len Try.underlying29 rfl) ?_
        refine D_q (i := 11) rfl (by kernel_rfl) (fun _ _ _ h => h) GS5 (fun _ _ => Y_add rfl rfl rfl (by omega) (by omega)) ?_
        refine D_q (i := 12) rfl (by kernel_rfl) (fun _ _ _ h => h) GS5 (fun _ _ => Y_assign rfl) ?_
        refine D_end (L' := (_ :: _ :: _ :: _ :: _ :: _ :: _ :: _ :: _ :: _ :: _ :: _ :: _ :: _ :: _ :: _ :: _ :: _ :: _ :: _ :: _ :: _ :: _ :: _ :: _ :: _ :: _ :: _ :: _ :: _ :: _ :: _ :: _ :: [])) (by kernel_rfl) rfl rfl ?_
        refine ib_n ?_
        refine th_n ?_
        refine hK11 _ _ ?_
        clear hK11 K11
        refine wp_region_lit ?_  -- region 7 l15_copying.go:50
        refine S_beg 33 rfl ?_
        refine S_val (Y_move rfl) ?_
        refine S_val (Y_inc rfl rfl (by omega)) ?_
        refine S_val (Y_assign rfl) ?_
        refine S_nil (L' := (_ :: _ :: _ :: _ :: _ :: _ :: _ :: _ :: _ :: _ :: _ :: _ :: _ :: _ :: _ :: _ :: _ :: _ :: _ :: _ :: _ :: _ :: _ :: _ :: _ :: _ :: _ :: _ :: _ :: _ :: _ :: _ :: _ :: [])) rfl rfl ?_
        refine th_n ?_
        go_roundw  -- e1 of L1
        case rel =>
          refine ⟨?_, GL4⟩
          have hrs := rsumO_succ hk1 hn2 hnN2
          exact ⟨k + 1, rfl, by rw [hrs]; exact congrArg (Value.int .i64) (by omega), by omega, by rw [hrs]; omega⟩
        case measure =>
          exact dec_nat (by omega)
      · -- c2F
        first | with_reducible (replace hb2 := nb_nt hb2) | with_reducible (replace hb2 := nb_nf hb2) | with_reducible (replace hb2 := nb_tt hb2) | with_reducible (replace hb2 := nb_tf hb2) | with_reducible (replace hb2 := nb_bt hb2) | with_reducible (replace hb2 := nb_bf hb2) | skip
        refine wp_exit ?_
        refine th_x ?_
        clear GL4
        refine th_x ?_
        refine ib_e ?_
        refine th_n ?_
        refine hK7 _ _ ?_
        clear hK9 K9 hK7 K7
        refine wp_seq_k fun K12 hK12 => ?_
        refine wp_region_lit ?_  -- region 9 l15_copying.go:53
        refine S_beg 33 rfl ?_
        refine S_val (Y_move rfl) ?_
        refine S_val (Y_len Try.underlying29 rfl) ?_
        refine S_val (Y_move rfl) ?_
        refine S_val (Y_assign rfl) ?_
        refine S_val (Y_assign rfl) ?_
        refine S_nil (L' := (_ :: _ :: _ :: _ :: _ :: _ :: _ :: _ :: _ :: _ :: _ :: _ :: _ :: _ :: _ :: _ :: _ :: _ :: _ :: _ :: _ :: _ :: _ :: _ :: _ :: _ :: _ :: _ :: _ :: _ :: _ :: _ :: _ :: [])) rfl rfl ?_
        refine th_n ?_
        refine hK12 _ _ ?_
        clear hK12 K12
        refine wp_ret ?_
        refine ret_r2 rfl rfl rfl ?_  -- r2
        rw [List.take_of_length_le (by omega)]
        exact ⟨by rw [stepsV_t hb1, hsE, hq3], G⟩

set_option maxHeartbeats 400000 in
set_option maxRecDepth 20000 in
theorem impl_CopySteps_c (Pr : Nat → Prop) (A B : Option Addr) (h : LH) (c d : Nat) (w : World) (hA : RC Pr w A h.cells) (hB : R1 Pr w B (ints h.roots)) (hz : hsize h ≤ 1048576) :
    Calls Try.prog 46 #[.agg #[.slice A h.cells.length c, .slice B h.roots.length d]] w (Ret fun v w' => v = .tuple #[.int .i64 (stepsV h).1, .int .i64 (stepsV h).2] ∧ Grow w w') := by
  refine enter Try.func46 rfl Try.ntmps46 (L := (_ :: _ :: _ :: _ :: _ :: _ :: _ :: _ :: _ :: _ :: _ :: _ :: _ :: _ :: _ :: _ :: _ :: _ :: _ :: _ :: _ :: _ :: _ :: _ :: _ :: _ :: _ :: _ :: _ :: _ :: _ :: _ :: _ :: _ :: _ :: [])) rfl ?_
  have G := Mod.refl No w
  have hA0 := hA
  have hB0 := hB
  refine wp_seq_k fun K1 hK1 => ?_
  refine wp_region_lit ?_  -- region 0 l15_copying.go:31
  refine S_beg 35 rfl ?_
  refine S_box (cs := [_, _]) rfl rfl ?_
  intro b1 w1 fb1 g1 B1
  have lb1 := B1.lt
  replace hA := hA.grow g1
  replace hB := hB.grow g1
  replace G := G.grow g1
  have zg1 := g1.size
  refine S_val (Y_assign rfl) ?_
  refine S_val (Y_assign rfl) ?_
  refine S_nil (L' := (_ :: _ :: _ :: _ :: _ :: _ :: _ :: _ :: _ :: _ :: _ :: _ :: _ :: _ :: _ :: _ :: _ :: _ :: _ :: _ :: _ :: _ :: _ :: _ :: _ :: _ :: _ :: _ :: _ :: _ :: _ :: _ :: _ :: _ :: _ :: [])) rfl rfl ?_
  refine th_n ?_
  refine hK1 _ _ ?_
  clear hK1 K1
  refine wp_seq_k fun K2 hK2 => ?_
  refine wp_seq_k fun K3 hK3 => ?_
  refine wp_region_lit ?_  -- region 1 l15_copying.go:32
  refine S_beg 35 rfl ?_
  refine S_val (Y_loadS Try.underlying31 rfl sz31 rfl (by first | assumption | exact B1.row (by rfl))) ?_  -- l1
  refine S_call rfl en32 (impl_HeapValid_c _ _ _ _ _ _ _ (by assumption) (by assumption) (by omega)) ?_  -- k1 impl.HeapValid
  rintro v2 w2 ⟨rfl, g2⟩
  replace hA := hA.grow g2
  replace hB := hB.grow g2
  replace G := G.grow g2
  replace B1 := B1.grow g2
  have zg2 := g2.size
  refine S_val (Y_not rfl) ?_
  refine S_nil (L' := (_ :: _ :: _ :: _ :: _ :: _ :: _ :: _ :: _ :: _ :: _ :: _ :: _ :: _ :: _ :: _ :: _ :: _ :: _ :: _ :: _ :: _ :: _ :: _ :: _ :: _ :: _ :: _ :: _ :: _ :: _ :: _ :: _ :: _ :: _ :: [])) rfl rfl ?_
  refine th_n ?_
  refine hK3 _ _ ?_
  clear hK3 K3
  refine S_if rfl (fun hb1 => ?_) (fun hb1 => ?_)  -- c1
  · -- c1T
    first | with_reducible (replace hb1 := nb_nt hb1) | with_reducible (replace hb1 := nb_nf hb1) | with_reducible (replace hb1 := nb_tt hb1) | with_reducible (replace hb1 := nb_tf hb1) | with_reducible (replace hb1 := nb_bt hb1) | with_reducible (replace hb1 := nb_bf hb1) | skip
    refine wp_seq_k fun K4 hK4 => ?_
    refine wp_region_lit ?_  -- region 2 l15_copying.go:33
    refine S_beg 35 rfl ?_
    refine S_val (Y_assign rfl) ?_
    refine S_val (Y_assign rfl) ?_
    refine S_nil (L' := (_ :: _ :: _ :: _ :: _ :: _ :: _ :: _ :: _ :: _ :: _ :: _ :: _ :: _ :: _ :: _ :: _ :: _ :: _ :: _ :: _ :: _ :: _ :: _ :: _ :: _ :: _ :: _ :: _ :: _ :: _ :: _ :: _ :: _ :: _ :: [])) rfl rfl ?_
    refine th_n ?_
    refine hK4 _ _ ?_
    clear hK4 K4
    refine wp_ret ?_
    refine th_r ?_
    clear hK2 K2
    refine ret_r2 rfl rfl rfl ?_  -- r1
    exact ⟨by rw [stepsV_f hb1], G⟩
  · -- c1F
    first | with_reducible (replace hb1 := nb_nt hb1) | with_reducible (replace hb1 := nb_nf hb1) | with_reducible (replace hb1 := nb_tt hb1) | with_reducible (replace hb1 := nb_tf hb1) | with_reducible (replace hb1 := nb_bt hb1) | with_reducible (replace hb1 := nb_bf hb1) | skip
    have va := valid_iff.1 hb1
    have hl := va.leads
    have h40 := va.le
    have hr4 := va.roots4
    refine wp_skip ?_
    refine th_n ?_
    refine hK2 _ _ ?_
    clear hK2 K2
    refine wp_seq_k fun K5 hK5 => ?_
    refine wp_region_lit ?_  -- region 3 l15_copying.go:35
    refine S_beg 35 rfl ?_
    refine S_val (Y_loadS Try.underlying31 rfl sz31 rfl (by first | assumption | exact B1.row (by rfl))) ?_  -- l2
    refine S_call rfl en76 (impl_metOrder_c _ _ _ _ _ _ _ (by assumption) (by assumption) (by omega) (by assumption) (by omega)) ?_  -- k2 impl.metOrder
    rintro v3 w3 ⟨A3, q3, cap3, rfl, hq3, O3, g3⟩
    replace hA := hA.grow g3
    replace hB := hB.grow g3
    replace G := G.grow g3
    replace B1 := B1.grow g3
    have zg3 := g3.size
    obtain ⟨s, hsE⟩ : ∃ s, orderL h.cells h.roots nn = s := ⟨_, rfl⟩
    rw [hsE] at hq3 O3
    have hbd : Bnd h.cells.length s := hsE ▸ orderL_bnd hl
    have hsl := hbd.len
    refine S_val (Y_assign rfl) ?_
    refine S_nil (L' := (_ :: _ :: _ :: _ :: _ :: _ :: _ :: _ :: _ :: _ :: _ :: _ :: _ :: _ :: _ :: _ :: _ :: _ :: _ :: _ :: _ :: _ :: _ :: _ :: _ :: _ :: _ :: _ :: _ :: _ :: _ :: _ :: _ :: _ :: _ :: [])) rfl rfl ?_
    refine th_n ?_
    refine hK5 _ _ ?_
    clear hK5 K5
    refine wp_seq_k fun K6 hK6 => ?_
    refine wp_region_lit ?_  -- region 4 l15_copying.go:36
    refine S_beg 35 rfl ?_
    refine S_val (Y_field Try.underlying31 rfl fz31_1 (by decide) rfl) ?_
    refine S_val (Y_load Try.underlying29 rfl rfl (by first | assumption | exact B1.at (by rfl))) ?_  -- l3
    refine S_val (Y_len Try.underlying29 rfl) ?_
    refine S_val (Y_assign rfl) ?_
    refine S_nil (L' := (_ :: _ :: _ :: _ :: _ :: _ :: _ :: _ :: _ :: _ :: _ :: _ :: _ :: _ :: _ :: _ :: _ :: _ :: _ :: _ :: _ :: _ :: _ :: _ :: _ :: _ :: _ :: _ :: _ :: _ :: _ :: _ :: _ :: _ :: _ :: [])) rfl rfl ?_
    refine th_n ?_
    refine hK6 _ _ ?_
    clear hK6 K6
    refine wp_seq_k fun K7 hK7 => ?_
    refine wp_seq_k fun K8 hK8 => ?_
    refine wp_region_lit ?_  -- region 5 l15_copying.go:37
    refine S_beg 35 rfl ?_
    refine S_val (Y_move rfl) ?_
    refine S_val (Y_len Try.underlying29 rfl) ?_
    refine S_val (Y_move rfl) ?_
    refine S_nil (L' := (_ :: _ :: _ :: _ :: _ :: _ :: _ :: _ :: _ :: _ :: _ :: _ :: _ :: _ :: _ :: _ :: _ :: _ :: _ :: _ :: _ :: _ :: _ :: _ :: _ :: _ :: _ :: _ :: _ :: _ :: _ :: _ :: _ :: _ :: _ :: [])) rfl rfl ?_
    refine th_n ?_
    refine hK8 _ _ ?_
    clear hK8 K8
    refine wp_block ?_
    go_loopw [5, 18] (fun u5 u18 wr => (∃ k : Nat, u18 = .int .i64 k ∧ u5 = .int .i64 ((4 + rsumO h.cells (s.take k) : Nat) : Int) ∧ k ≤ s.length ∧ rsumO h.cells (s.take k) ≤ 3 * k) ∧ Mod No w3 wr) (fun u5 u18 wr => s.length - (intOf u18).toNat)  -- L1
    case atStart =>
      refine ⟨?_, Mod.refl _ _⟩
      exact ⟨0, rfl, by first | rfl | (rw [hr4]; rfl), by omega, by simp [rsumO]⟩
    case round =>
      obtain ⟨w4, rfl⟩ : ∃ x : World, x = wr := ⟨_, rfl⟩
      obtain ⟨hrel, g4⟩ := hrel
      replace hA := hA.grow g4
      replace hB := hB.grow g4
      replace O3 := O3.grow g4
      replace G := G.grow g4
      replace B1 := B1.grow g4
      have zg4 := g4.size
      obtain ⟨k, rfl, rfl, hk, hr0⟩ := hrel
      have GL4 := g4
      refine wp_seq_k fun K9 hK9 => ?_
      refine wp_region_lit ?_  -- region 6 l15_copying.go:37
      refine S_beg 35 rfl ?_
      refine S_val (Y_lss rfl rfl) ?_
      refine S_nil (L' := (_ :: _ :: _ :: _ :: _ :: _ :: _ :: _ :: _ :: _ :: _ :: _ :: _ :: _ :: _ :: _ :: _ :: _ :: _ :: _ :: _ :: _ :: _ :: _ :: _ :: _ :: _ :: _ :: _ :: _ :: _ :: _ :: _ :: _ :: _ :: [])) rfl rfl ?_
      refine th_n ?_
      refine hK9 _ _ ?_
      clear hK9 K9
      refine wp_seq_k fun K10 hK10 => ?_
      refine S_if rfl (fun hb2 => ?_) (fun hb2 => ?_)  -- c2
      · -- c2T
        first | with_reducible (replace hb2 := nb_nt hb2) | with_reducible (replace hb2 := nb_nf hb2) | with_reducible (replace hb2 := nb_tt hb2) | with_reducible (replace hb2 := nb_tf hb2) | with_reducible (replace hb2 := nb_bt hb2) | with_reducible (replace hb2 := nb_bf hb2) | skip
        have hk1 : k < s.length := by omega
        obtain ⟨n2, hn2, hnN2, hng2⟩ := bnd_at hbd hk1
        obtain ⟨g2, o2, rfl, hp2, hc2⟩ := O3.r1.int hk1
        rw [hn2] at hc2
        obtain ⟨g3, o3, E3, d3, rfl, hp3, cc30, hE30⟩ := hA0.cell hnN2
        have hz4 := va.refs3 hnN2
        have cc3 := cc30.grow G
        refine wp_skip ?_
        refine th_n ?_
        refine hK10 _ _ ?_
        clear hK10 K10
        refine wp_seq_k fun K11 hK11 => ?_
        refine wp_block ?_
        refine wp_seq_k fun K12 hK12 => ?_
        refine wp_region_lit ?_  -- region 7 l15_copying.go:37
        refine S_beg 35 rfl ?_
        refine S_val (Y_index Try.underlying29 sz3 rfl rfl (by first | assumption | omega)) ?_
        refine S_val (Y_load Try.underlying3 rfl rfl (by first | assumption | exact B1.at (by rfl) | exact cc3.at (by rfl))) ?_  -- l4
        refine S_val (Y_assign rfl) ?_
        refine S_nil (L' := (_ :: _ :: _ :: _ :: _ :: _ :: _ :: _ :: _ :: _ :: _ :: _ :: _ :: _ :: _ :: _ :: _ :: _ :: _ :: _ :: _ :: _ :: _ :: _ :: _ :: _ :: _ :: _ :: _ :: _ :: _ :: _ :: _ :: _ :: _ :: [])) rfl rfl ?_
        refine th_n ?_
        refine hK12 _ _ ?_
        clear hK12 K12
        refine wp_region_lit ?_  -- region 8 l15_copying.go:38
        refine S_beg 35 rfl ?_
        refine S_val (Y_move rfl) ?_
        refine S_val (Y_field Try.underlying31 rfl fz31_0 (by decide) rfl) ?_
        refine S_val (Y_load Try.underlying28 rfl rfl (by first | assumption | exact B1.at (by rfl) | exact cc3.at (by rfl))) ?_  -- l5
        refine S_val (Y_move rfl) ?_
        refine S_val (Y_index Try.underlying28 sz90 rfl rfl (by first | assumption | omega)) ?_
        refine S_val (Y_field Try.underlying90 rfl fz90_2 (by decide) rfl) ?_
        refine S_val (Y_load Try.underlying29 rfl rfl (by first | assumption | exact B1.at (by rfl) | exact cc3.at (by rfl))) ?_  -- l6
        refine S_val (Y_len Try.underlying29 rfl) ?_
        refine S_val (Y_add rfl rfl rfl (by omega) (by omega)) ?_
        refine S_val (Y_assign rfl) ?_
        refine S_nil (L' := (_ :: _ :: _ :: _ :: _ :: _ :: _ :: _ :: _ :: _ :: _ :: _ :: _ :: _ :: _ :: _ :: _ :: _ :: _ :: _ :: _ :: _ :: _ :: _ :: _ :: _ :: _ :: _ :: _ :: _ :: _ :: _ :: _ :: _ :: _ :: [])) rfl rfl ?_
        refine ib_n ?_
        refine th_n ?_
        refine hK11 _ _ ?_
        clear hK11 K11
        refine wp_region_lit ?_  -- region 9 l15_copying.go:37
        refine S_beg 35 rfl ?_
        refine S_val (Y_inc rfl rfl (by omega)) ?_
        refine S_val (Y_move rfl) ?_
        refine S_nil (L' := (_ :: _ :: _ :: _ :: _ :: _ :: _ :: _ :: _ :: _ :: _ :: _ :: _ :: _ :: _ :: _ :: _ :: _ :: _ :: _ :: _ :: _ :: _ :: _ :: _ :: _ :: _ :: _ :: _ :: _ :: _ :: _ :: _ :: _ :: _ :: [])) rfl rfl ?_
        refine th_n ?_
        go_roundw  -- e1 of L1
        case rel =>
          refine ⟨?_, GL4⟩
          have hrs := rsumO_succ hk1 hn2 hnN2
          exact ⟨k + 1, rfl, by rw [hrs]; exact congrArg (Value.int .i64) (by omega), by omega, by rw [hrs]; omega⟩
        case measure =>
          exact dec_nat (by omega)
      · -- c2F
        first | with_reducible (replace hb2 := nb_nt hb2) | with_reducible (replace hb2 := nb_nf hb2) | with_reducible (replace hb2 := nb_tt hb2) | with_reducible (replace hb2 := nb_tf hb2) | with_reducible (replace hb2 := nb_bt hb2) | with_reducible (replace hb2 := nb_bf hb2) | skip
        refine wp_exit ?_
        refine th_x ?_
        clear GL4
        refine th_x ?_
        refine ib_e ?_
        refine th_n ?_
        refine hK7 _ _ ?_
        clear hK10 K10 hK7 K7
        refine wp_seq_k fun K13 hK13 => ?_
        refine wp_region_lit ?_  -- region 10 l15_copying.go:40
        refine S_beg 35 rfl ?_
        refine S_val (Y_move rfl) ?_
        refine S_val (Y_len Try.underlying29 rfl) ?_
        refine S_val (Y_move rfl) ?_
        refine S_val (Y_assign rfl) ?_
        refine S_val (Y_assign rfl) ?_
        refine S_nil (L' := (_ :: _ :: _ :: _ :: _ :: _ :: _ :: _ :: _ :: _ :: _ :: _ :: _ :: _ :: _ :: _ :: _ :: _ :: _ :: _ :: _ :: _ :: _ :: _ :: _ :: _ :: _ :: _ :: _ :: _ :: _ :: _ :: _ :: _ :: _ :: [])) rfl rfl ?_
        refine th_n ?_
        refine hK13 _ _ ?_
        clear hK13 K13
        refine wp_ret ?_
        refine ret_r2 rfl rfl rfl ?_  -- r2
        rw [List.take_of_length_le (by omega)]
        exact ⟨by rw [stepsV_t hb1, hsE, hq3], G⟩

end Go.Proofs.Ytfcblicpfbfojaa
