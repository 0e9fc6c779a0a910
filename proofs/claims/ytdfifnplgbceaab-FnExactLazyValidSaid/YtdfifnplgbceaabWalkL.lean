/-
  Walks: lazy heaps.
  Conditions: those that each theorem states.
-/
import Derived.Test.YtdfifnplgbceaabTy
import Derived.Test.YtdfifnplgbceaabWalkU
import Derived.Test.YtdfifnplgbceaabLazy
namespace Go.Proofs.Ytdfifnplgbceaab
open Go Go.RowKit
attribute [local irreducible] wpList wpAnyH Code.wp dOp

theorem reach_bits {h : LH} {m u : Nat} (va : Valid h) (hu : SetOf u (usedL h.cells)) (hr : ∀ n, m.testBit n = true ↔ Rch h.cells h.roots (hasB u) n) (i : Nat) : m.testBit i = (decide (i < h.cells.length) && rB h i) := by
  rw [Bool.eq_iff_iff, hr, rch_used va.leadsU hu]
  unfold rB
  rw [Bool.and_eq_true, decide_eq_true_eq, decide_eq_true_eq, orderL_mem va.leads]
  exact ⟨fun hh => ⟨hh.lt va.leads, hh⟩, fun hh => hh.2⟩


set_option maxHeartbeats 400000 in
set_option maxRecDepth 20000 in
theorem impl_reachable2_c (Pr : Nat → Prop) (A B : Option Addr) (h : LH) (c d : Nat) (w : World) (hA : RC Pr w A h.cells) (hB : R1 Pr w B (ints h.roots)) (hz : hsize h ≤ 1048576) (va : Valid h) :
    Calls Try.prog 66 #[.agg #[.slice A h.cells.length c, .slice B h.roots.length d]] w (Ret fun v w' => ∃ m : Nat, v = .int .u64 (m : Int) ∧ m < 2 ^ 64 ∧ (∀ i, m.testBit i = (decide (i < h.cells.length) && rB h i)) ∧ Grow w w') := by
  have h40 := va.le
  have hr4 := va.roots4
  refine enter Try.func66 rfl Try.ntmps66 (L := (_ :: _ :: _ :: _ :: _ :: _ :: _ :: _ :: _ :: [])) rfl ?_
  have G := Mod.refl No w
  have hA0 := hA
  have hB0 := hB
  refine wp_seq_k fun K1 hK1 => ?_
  refine wp_region_lit ?_  -- region 0 l7_heaps.go:138
  refine S_beg 9 rfl ?_
  refine S_box (cs := [_, _]) rfl rfl ?_
  intro b1 w1 fb1 g1 B1
  have lb1 := B1.lt
  replace hA := hA.grow g1
  replace hB := hB.grow g1
  replace G := G.grow g1
  have zg1 := g1.size
  refine S_val (Y_assign rfl) ?_
  refine S_nil (L' := (_ :: _ :: _ :: _ :: _ :: _ :: _ :: _ :: _ :: [])) rfl rfl ?_
  refine th_n ?_
  refine hK1 _ _ ?_
  clear hK1 K1
  refine wp_seq_k fun K2 hK2 => ?_
  refine D_start 7 9 (fun w => Mod (No) w) follows rfl rfl ?_  -- d1 region 1 l7_heaps.go:138
  intro w2 g2
  replace hA := hA.grow g2
  replace hB := hB.grow g2
  replace G := G.grow g2
  replace B1 := B1.grow g2
  have zg2 := g2.size
  have GS2 := Mod.refl (No) w2
  have B1d2 := B1
  refine D_q (i := 0) rfl (by kernel_rfl) (fun _ _ _ h => h) GS2 (fun _ hs => Y_loadS Try.underlying33 rfl sz33 rfl (by first | exact hs.cells0 (by assumption) | exact hs.cells0 (B1.row (by rfl)) | exact hs.cells0 (B1d2.row (by rfl)))) ?_
  refine D_q (i := 1) rfl (by kernel_rfl) (fun _ _ _ h => h) GS2 (fun _ _ => Y_field Try.underlying33 rfl fz33_1 (by decide) rfl) ?_
  refine D_q (i := 2) rfl (by kernel_rfl) (fun _ _ _ h => h) GS2 (fun _ hs => Y_load Try.underlying23 rfl rfl (by first | exact hs.cell0 (by assumption) | exact hs.cell0 (B1.at (by rfl)) | exact hs.cell0 (B1d2.at (by rfl)))) ?_
  refine D_q (i := 3) rfl (by kernel_rfl) (fun _ _ _ h => h) GS2 (fun _ hs => Y_loadS Try.underlying33 rfl sz33 rfl (by first | exact hs.cells0 (by assumption) | exact hs.cells0 (B1.row (by rfl)) | exact hs.cells0 (B1d2.row (by rfl)))) ?_
  refine D_1 (i := 4) (by kernel_rfl) ?_
  refine E_call rfl rfl en64 (impl_usedSet_c _ _ _ _ _ _ _ (by assumption) (by omega)) ?_  -- k1 impl.usedSet
  rintro v3 w3 ⟨s3, rfl, hs3, g3⟩
  replace hA := hA.grow g3
  replace hB := hB.grow g3
  replace G := G.grow g3
  replace GS2 := GS2.grow g3
  replace B1 := B1.grow g3
  have zg3 := g3.size
  refine ⟨GS2, ?_⟩
  refine D_1 (i := 5) (by kernel_rfl) ?_
  refine E_call rfl rfl en111 (impl_closure_c _ _ _ _ _ _ _ _ _ _ _ _ (by assumption) (by assumption) (by omega) (by omega) hs3.1 hs3.lt (by omega)) ?_  -- k2 impl.closure
  rintro v4 w4 ⟨s4, rfl, hs4, hr4, g4⟩
  replace hA := hA.grow g4
  replace hB := hB.grow g4
  replace G := G.grow g4
  replace GS2 := GS2.grow g4
  replace B1 := B1.grow g4
  have zg4 := g4.size
  refine ⟨GS2, ?_⟩
  refine D_q (i := 6) rfl (by kernel_rfl) (fun _ _ _ h => h) GS2 (fun _ _ => Y_assign rfl) ?_
  refine D_end (L' := (_ :: _ :: _ :: _ :: _ :: _ :: _ :: _ :: _ :: [])) (by kernel_rfl) rfl rfl ?_
  refine th_n ?_
  refine hK2 _ _ ?_
  clear hK2 K2
  refine wp_ret ?_
  refine ret_r1 rfl rfl ?_  -- r1
  exact ⟨_, rfl, hs4, reach_bits va hs3 hr4, G⟩

set_option maxHeartbeats 400000 in
set_option maxRecDepth 20000 in
theorem impl_LazyValid_c (Pr : Nat → Prop) (A B C : Option Addr) (h : LH) (ms : List Bool) (x : Int) (c d e : Nat) (w : World) (hA : RC Pr w A h.cells) (hB : R1 Pr w B (ints h.roots)) (hC : R1 Pr w C (bools ms)) (hz : hsize h ≤ 1048576) (hxz : ms.length ≤ 1048576) (hx : -9223372036854775808 ≤ x ∧ x ≤ 9223372036854775807) :
    Calls Try.prog 17 #[.agg #[.slice A h.cells.length c, .slice B h.roots.length d, .slice C ms.length e, .int .i64 x]] w (Ret fun v w' => v = .bool (lazB h ms x) ∧ Grow w w') := by
  have hz1 := hsize_cells h
  have hz2 := hsize_roots h
  refine enter Try.func17 rfl Try.ntmps17 (L := (_ :: _ :: _ :: _ :: _ :: _ :: _ :: _ :: _ :: _ :: _ :: _ :: _ :: _ :: _ :: _ :: _ :: _ :: _ :: _ :: _ :: _ :: _ :: _ :: _ :: _ :: _ :: _ :: _ :: _ :: _ :: _ :: _ :: _ :: _ :: _ :: _ :: _ :: _ :: _ :: _ :: _ :: _ :: _ :: _ :: _ :: _ :: _ :: _ :: _ :: _ :: _ :: _ :: _ :: _ :: _ :: _ :: _ :: _ :: _ :: _ :: _ :: _ :: [])) rfl ?_
  have G := Mod.refl No w
  have hA0 := hA
  have hB0 := hB
  have hC0 := hC
  refine wp_seq_k fun K1 hK1 => ?_
  refine wp_region_lit ?_  -- region 0 l14_lazy.go:22
  refine S_beg 63 rfl ?_
  refine S_box (cs := [_, _, _, _]) rfl rfl ?_
  intro b1 w1 fb1 g1 B1
  have lb1 := B1.lt
  replace hA := hA.grow g1
  replace hB := hB.grow g1
  replace hC := hC.grow g1
  replace G := G.grow g1
  have zg1 := g1.size
  refine S_val (Y_assign rfl) ?_
  refine S_nil (L' := (_ :: _ :: _ :: _ :: _ :: _ :: _ :: _ :: _ :: _ :: _ :: _ :: _ :: _ :: _ :: _ :: _ :: _ :: _ :: _ :: _ :: _ :: _ :: _ :: _ :: _ :: _ :: _ :: _ :: _ :: _ :: _ :: _ :: _ :: _ :: _ :: _ :: _ :: _ :: _ :: _ :: _ :: _ :: _ :: _ :: _ :: _ :: _ :: _ :: _ :: _ :: _ :: _ :: _ :: _ :: _ :: _ :: _ :: _ :: _ :: _ :: _ :: _ :: [])) rfl rfl ?_
  refine th_n ?_
  refine hK1 _ _ ?_
  clear hK1 K1
  refine wp_seq_k fun K2 hK2 => ?_
  refine wp_seq_k fun K3 hK3 => ?_
  refine wp_region_lit ?_  -- region 1 l14_lazy.go:23
  refine S_beg 63 rfl ?_
  refine S_val (Y_field Try.underlying35 rfl fz35_0 (by decide) rfl) ?_
  refine S_val (Y_loadS Try.underlying33 rfl sz33 rfl (CellsAt.of_blk (pre := []) (us := [_, _]) (post := [_, _]) B1 rfl)) ?_  -- l1
  refine S_call rfl en63 (impl_HeapValid_c _ _ _ _ _ _ _ (by assumption) (by assumption) (by omega)) ?_  -- k1 impl.HeapValid
  rintro v2 w2 ⟨rfl, g2⟩
  replace hA := hA.grow g2
  replace hB := hB.grow g2
  replace hC := hC.grow g2
  replace G := G.grow g2
  replace B1 := B1.grow g2
  have zg2 := g2.size
  refine S_val (Y_not rfl) ?_
  refine S_val (Y_move rfl) ?_
  refine S_g 10 rfl (fun hb1 => ?_) (fun hb1 => ?_)  -- g1
  · -- g1T
    first | with_reducible (replace hb1 := nb_nt hb1) | with_reducible (replace hb1 := nb_nf hb1) | with_reducible (replace hb1 := nb_tt hb1) | with_reducible (replace hb1 := nb_tf hb1) | with_reducible (replace hb1 := nb_bt hb1) | with_reducible (replace hb1 := nb_bf hb1) | skip
    refine S_off rfl rfl ?_
    refine S_off rfl rfl ?_
    refine S_off rfl rfl ?_
    refine S_off rfl rfl ?_
    refine S_off rfl rfl ?_
    refine S_off rfl rfl ?_
    refine S_off rfl rfl ?_
    refine S_off rfl rfl ?_
    refine S_val (Y_pickT rfl rfl) ?_
    refine S_val (Y_move rfl) ?_
    refine S_off rfl rfl ?_
    refine S_off rfl rfl ?_
    refine S_off rfl rfl ?_
    refine S_val (Y_pickT rfl rfl) ?_
    refine S_val (Y_move rfl) ?_
    refine S_off rfl rfl ?_
    refine S_off rfl rfl ?_
    refine S_off rfl rfl ?_
    refine S_off rfl rfl ?_
    refine S_off rfl rfl ?_
    refine S_off rfl rfl ?_
    refine S_val (Y_pickT rfl rfl) ?_
    refine S_nil (L' := (_ :: _ :: _ :: _ :: _ :: _ :: _ :: _ :: _ :: _ :: _ :: _ :: _ :: _ :: _ :: _ :: _ :: _ :: _ :: _ :: _ :: _ :: _ :: _ :: _ :: _ :: _ :: _ :: _ :: _ :: _ :: _ :: _ :: _ :: _ :: _ :: _ :: _ :: _ :: _ :: _ :: _ :: _ :: _ :: _ :: _ :: _ :: _ :: _ :: _ :: _ :: _ :: _ :: _ :: _ :: _ :: _ :: _ :: _ :: _ :: _ :: _ :: _ :: [])) rfl rfl ?_
    refine th_n ?_
    refine hK3 _ _ ?_
    clear hK3 K3
    refine S_ifT rfl ?_
    refine wp_seq_k fun K4 hK4 => ?_
    refine wp_region_lit ?_  -- region 2 l14_lazy.go:24
    refine S_beg 63 rfl ?_
    refine S_val (Y_assign rfl) ?_
    refine S_nil (L' := (_ :: _ :: _ :: _ :: _ :: _ :: _ :: _ :: _ :: _ :: _ :: _ :: _ :: _ :: _ :: _ :: _ :: _ :: _ :: _ :: _ :: _ :: _ :: _ :: _ :: _ :: _ :: _ :: _ :: _ :: _ :: _ :: _ :: _ :: _ :: _ :: _ :: _ :: _ :: _ :: _ :: _ :: _ :: _ :: _ :: _ :: _ :: _ :: _ :: _ :: _ :: _ :: _ :: _ :: _ :: _ :: _ :: _ :: _ :: _ :: _ :: _ :: _ :: [])) rfl rfl ?_
    refine th_n ?_
    refine hK4 _ _ ?_
    clear hK4 K4
    refine wp_ret ?_
    refine th_r ?_
    clear hK2 K2
    refine ret_r1 rfl rfl ?_  -- r1
    exact ⟨by rw [lazB_f1 hb1], G⟩
  · -- g1F
    first | with_reducible (replace hb1 := nb_nt hb1) | with_reducible (replace hb1 := nb_nf hb1) | with_reducible (replace hb1 := nb_tt hb1) | with_reducible (replace hb1 := nb_tf hb1) | with_reducible (replace hb1 := nb_bt hb1) | with_reducible (replace hb1 := nb_bf hb1) | skip
    have va := valid_iff.1 hb1
    have hl := va.leads
    have h40 := va.le
    have hr4 := va.roots4
    refine S_on rfl rfl ?_
    refine S_val (Y_field Try.underlying35 rfl fz35_1 (by decide) rfl) ?_
    refine S_on rfl rfl ?_
    refine S_val (Y_load Try.underlying26 rfl rfl (by first | assumption | exact B1.at (by rfl))) ?_  -- l2
    refine S_on rfl rfl ?_
    refine S_val (Y_len Try.underlying26 rfl) ?_
    refine S_on rfl rfl ?_
    refine S_val (Y_field Try.underlying35 rfl fz35_0 (by decide) rfl) ?_
    refine S_on rfl rfl ?_
    refine S_val (Y_field Try.underlying33 rfl fz33_0 (by decide) rfl) ?_
    refine S_on rfl rfl ?_
    refine S_val (Y_load Try.underlying31 rfl rfl (by first | assumption | exact B1.at (by rfl))) ?_  -- l3
    refine S_on rfl rfl ?_
    refine S_val (Y_len Try.underlying31 rfl) ?_
    refine S_on rfl rfl ?_
    refine S_val (Y_neq rfl rfl) ?_
    refine S_val (Y_pickF rfl rfl) ?_
    refine S_val (Y_move rfl) ?_
    refine S_g 20 rfl (fun hb2 => ?_) (fun hb2 => ?_)  -- g2
    · -- g2T
      first | with_reducible (replace hb2 := nb_nt hb2) | with_reducible (replace hb2 := nb_nf hb2) | with_reducible (replace hb2 := nb_tt hb2) | with_reducible (replace hb2 := nb_tf hb2) | with_reducible (replace hb2 := nb_bt hb2) | with_reducible (replace hb2 := nb_bf hb2) | skip
      refine S_off rfl rfl ?_
      refine S_off rfl rfl ?_
      refine S_off rfl rfl ?_
      refine S_val (Y_pickT rfl rfl) ?_
      refine S_val (Y_move rfl) ?_
      refine S_off rfl rfl ?_
      refine S_off rfl rfl ?_
      refine S_off rfl rfl ?_
      refine S_off rfl rfl ?_
      refine S_off rfl rfl ?_
      refine S_off rfl rfl ?_
      refine S_val (Y_pickT rfl rfl) ?_
      refine S_nil (L' := (_ :: _ :: _ :: _ :: _ :: _ :: _ :: _ :: _ :: _ :: _ :: _ :: _ :: _ :: _ :: _ :: _ :: _ :: _ :: _ :: _ :: _ :: _ :: _ :: _ :: _ :: _ :: _ :: _ :: _ :: _ :: _ :: _ :: _ :: _ :: _ :: _ :: _ :: _ :: _ :: _ :: _ :: _ :: _ :: _ :: _ :: _ :: _ :: _ :: _ :: _ :: _ :: _ :: _ :: _ :: _ :: _ :: _ :: _ :: _ :: _ :: _ :: _ :: [])) rfl rfl ?_
      refine th_n ?_
      refine hK3 _ _ ?_
      clear hK3 K3
      refine S_ifT rfl ?_
      refine wp_seq_k fun K5 hK5 => ?_
      refine wp_region_lit ?_  -- region 2 l14_lazy.go:24
      refine S_beg 63 rfl ?_
      refine S_val (Y_assign rfl) ?_
      refine S_nil (L' := (_ :: _ :: _ :: _ :: _ :: _ :: _ :: _ :: _ :: _ :: _ :: _ :: _ :: _ :: _ :: _ :: _ :: _ :: _ :: _ :: _ :: _ :: _ :: _ :: _ :: _ :: _ :: _ :: _ :: _ :: _ :: _ :: _ :: _ :: _ :: _ :: _ :: _ :: _ :: _ :: _ :: _ :: _ :: _ :: _ :: _ :: _ :: _ :: _ :: _ :: _ :: _ :: _ :: _ :: _ :: _ :: _ :: _ :: _ :: _ :: _ :: _ :: _ :: [])) rfl rfl ?_
      refine th_n ?_
      refine hK5 _ _ ?_
      clear hK5 K5
      refine wp_ret ?_
      refine th_r ?_
      clear hK2 K2
      refine ret_r1 rfl rfl ?_  -- r2
      exact ⟨by rw [lazB_f2 (by omega)], G⟩
    · -- g2F
      first | with_reducible (replace hb2 := nb_nt hb2) | with_reducible (replace hb2 := nb_nf hb2) | with_reducible (replace hb2 := nb_tt hb2) | with_reducible (replace hb2 := nb_tf hb2) | with_reducible (replace hb2 := nb_bt hb2) | with_reducible (replace hb2 := nb_bf hb2) | skip
      refine S_on rfl rfl ?_
      refine S_val (Y_field Try.underlying35 rfl fz35_2 (by decide) rfl) ?_
      refine S_on rfl rfl ?_
      refine S_val (Y_load Try.underlying3 rfl rfl (by first | assumption | exact B1.at (by rfl))) ?_  -- l4
      refine S_on rfl rfl ?_
      refine S_val (Y_lss rfl rfl) ?_
      refine S_val (Y_pickF rfl rfl) ?_
      refine S_val (Y_move rfl) ?_
      refine S_g 25 rfl (fun hb3 => ?_) (fun hb3 => ?_)  -- g3
      · -- g3T
        first | with_reducible (replace hb3 := nb_nt hb3) | with_reducible (replace hb3 := nb_nf hb3) | with_reducible (replace hb3 := nb_tt hb3) | with_reducible (replace hb3 := nb_tf hb3) | with_reducible (replace hb3 := nb_bt hb3) | with_reducible (replace hb3 := nb_bf hb3) | skip
        refine S_off rfl rfl ?_
        refine S_off rfl rfl ?_
        refine S_off rfl rfl ?_
        refine S_off rfl rfl ?_
        refine S_off rfl rfl ?_
        refine S_off rfl rfl ?_
        refine S_val (Y_pickT rfl rfl) ?_
        refine S_nil (L' := (_ :: _ :: _ :: _ :: _ :: _ :: _ :: _ :: _ :: _ :: _ :: _ :: _ :: _ :: _ :: _ :: _ :: _ :: _ :: _ :: _ :: _ :: _ :: _ :: _ :: _ :: _ :: _ :: _ :: _ :: _ :: _ :: _ :: _ :: _ :: _ :: _ :: _ :: _ :: _ :: _ :: _ :: _ :: _ :: _ :: _ :: _ :: _ :: _ :: _ :: _ :: _ :: _ :: _ :: _ :: _ :: _ :: _ :: _ :: _ :: _ :: _ :: _ :: [])) rfl rfl ?_
        refine th_n ?_
        refine hK3 _ _ ?_
        clear hK3 K3
        refine S_ifT rfl ?_
        refine wp_seq_k fun K6 hK6 => ?_
        refine wp_region_lit ?_  -- region 2 l14_lazy.go:24
        refine S_beg 63 rfl ?_
        refine S_val (Y_assign rfl) ?_
        refine S_nil (L' := (_ :: _ :: _ :: _ :: _ :: _ :: _ :: _ :: _ :: _ :: _ :: _ :: _ :: _ :: _ :: _ :: _ :: _ :: _ :: _ :: _ :: _ :: _ :: _ :: _ :: _ :: _ :: _ :: _ :: _ :: _ :: _ :: _ :: _ :: _ :: _ :: _ :: _ :: _ :: _ :: _ :: _ :: _ :: _ :: _ :: _ :: _ :: _ :: _ :: _ :: _ :: _ :: _ :: _ :: _ :: _ :: _ :: _ :: _ :: _ :: _ :: _ :: _ :: [])) rfl rfl ?_
        refine th_n ?_
        refine hK6 _ _ ?_
        clear hK6 K6
        refine wp_ret ?_
        refine th_r ?_
        clear hK2 K2
        refine ret_r1 rfl rfl ?_  -- r3
        exact ⟨by rw [lazB_f3 (by omega)], G⟩
      · -- g3F
        first | with_reducible (replace hb3 := nb_nt hb3) | with_reducible (replace hb3 := nb_nf hb3) | with_reducible (replace hb3 := nb_tt hb3) | with_reducible (replace hb3 := nb_tf hb3) | with_reducible (replace hb3 := nb_bt hb3) | with_reducible (replace hb3 := nb_bf hb3) | skip
        refine S_on rfl rfl ?_
        refine S_val (Y_field Try.underlying35 rfl fz35_2 (by decide) rfl) ?_
        refine S_on rfl rfl ?_
        refine S_val (Y_load Try.underlying3 rfl rfl (by first | assumption | exact B1.at (by rfl))) ?_  -- l5
        refine S_on rfl rfl ?_
        refine S_val (Y_field Try.underlying35 rfl fz35_1 (by decide) rfl) ?_
        refine S_on rfl rfl ?_
        refine S_val (Y_load Try.underlying26 rfl rfl (by first | assumption | exact B1.at (by rfl))) ?_  -- l6
        refine S_on rfl rfl ?_
        refine S_val (Y_len Try.underlying26 rfl) ?_
        refine S_on rfl rfl ?_
        refine S_val (Y_gtr rfl rfl) ?_
        refine S_val (Y_pickF rfl rfl) ?_
        refine S_nil (L' := (_ :: _ :: _ :: _ :: _ :: _ :: _ :: _ :: _ :: _ :: _ :: _ :: _ :: _ :: _ :: _ :: _ :: _ :: _ :: _ :: _ :: _ :: _ :: _ :: _ :: _ :: _ :: _ :: _ :: _ :: _ :: _ :: _ :: _ :: _ :: _ :: _ :: _ :: _ :: _ :: _ :: _ :: _ :: _ :: _ :: _ :: _ :: _ :: _ :: _ :: _ :: _ :: _ :: _ :: _ :: _ :: _ :: _ :: _ :: _ :: _ :: _ :: _ :: [])) rfl rfl ?_
        refine th_n ?_
        refine hK3 _ _ ?_
        clear hK3 K3
        refine S_if rfl (fun hb4 => ?_) (fun hb4 => ?_)  -- c1
        · -- c1T
          first | with_reducible (replace hb4 := nb_nt hb4) | with_reducible (replace hb4 := nb_nf hb4) | with_reducible (replace hb4 := nb_tt hb4) | with_reducible (replace hb4 := nb_tf hb4) | with_reducible (replace hb4 := nb_bt hb4) | with_reducible (replace hb4 := nb_bf hb4) | skip
          refine wp_seq_k fun K7 hK7 => ?_
          refine wp_region_lit ?_  -- region 2 l14_lazy.go:24
          refine S_beg 63 rfl ?_
          refine S_val (Y_assign rfl) ?_
          refine S_nil (L' := (_ :: _ :: _ :: _ :: _ :: _ :: _ :: _ :: _ :: _ :: _ :: _ :: _ :: _ :: _ :: _ :: _ :: _ :: _ :: _ :: _ :: _ :: _ :: _ :: _ :: _ :: _ :: _ :: _ :: _ :: _ :: _ :: _ :: _ :: _ :: _ :: _ :: _ :: _ :: _ :: _ :: _ :: _ :: _ :: _ :: _ :: _ :: _ :: _ :: _ :: _ :: _ :: _ :: _ :: _ :: _ :: _ :: _ :: _ :: _ :: _ :: _ :: _ :: [])) rfl rfl ?_
          refine th_n ?_
          refine hK7 _ _ ?_
          clear hK7 K7
          refine wp_ret ?_
          refine th_r ?_
          clear hK2 K2
          refine ret_r1 rfl rfl ?_  -- r4
          exact ⟨by rw [lazB_f3 (by omega)], G⟩
        · -- c1F
          first | with_reducible (replace hb4 := nb_nt hb4) | with_reducible (replace hb4 := nb_nf hb4) | with_reducible (replace hb4 := nb_tt hb4) | with_reducible (replace hb4 := nb_tf hb4) | with_reducible (replace hb4 := nb_bt hb4) | with_reducible (replace hb4 := nb_bf hb4) | skip
          have hlen : ms.length = h.cells.length := by omega
          obtain ⟨a, rfl⟩ := Int.eq_ofNat_of_zero_le (show 0 ≤ x by omega)
          have ha64 : a < 64 := by omega
          have hp64 : 1 * 2 ^ a < 2 ^ 64 := by rw [Nat.one_mul]; exact Nat.pow_lt_pow_right (by decide) ha64
          have hp1 : 1 ≤ 1 * 2 ^ a := by rw [Nat.one_mul]; exact Nat.one_le_two_pow
          have hbl : 1 * 2 ^ a - 1 < 2 ^ 64 := by omega
          refine wp_skip ?_
          refine th_n ?_
          refine hK2 _ _ ?_
          clear hK2 K2
          refine wp_seq_k fun K8 hK8 => ?_
          refine D_start 8 63 (fun w => Mod (No) w) follows rfl rfl ?_  -- d1 region 3 l14_lazy.go:26
          intro w3 g3
          replace hA := hA.grow g3
          replace hB := hB.grow g3
          replace hC := hC.grow g3
          replace G := G.grow g3
          replace B1 := B1.grow g3
          have zg3 := g3.size
          have GS3 := Mod.refl (No) w3
          have B1d3 := B1
          refine D_q (i := 0) rfl (by kernel_rfl) (fun _ _ _ h => h) GS3 (fun _ _ => Y_field Try.underlying35 rfl fz35_0 (by decide) rfl) ?_
          refine D_q (i := 1) rfl (by kernel_rfl) (fun _ _ _ h => h) GS3 (fun _ hs => Y_loadS Try.underlying33 rfl sz33 rfl (by first | exact hs.cells0 ((CellsAt.of_blk (pre := []) (us := [_, _]) (post := [_, _]) B1 rfl)) | exact hs.cells0 ((CellsAt.of_blk (pre := []) (us := [_, _]) (post := [_, _]) B1d3 rfl)))) ?_
          refine D_q (i := 3) rfl (by kernel_rfl) (fun _ _ _ h => h) GS3 (fun _ _ => Y_field Try.underlying35 rfl fz35_1 (by decide) rfl) ?_
          refine D_q (i := 4) rfl (by kernel_rfl) (fun _ _ _ h => h) GS3 (fun _ hs => Y_load Try.underlying26 rfl rfl (by first | exact hs.cell0 (by assumption) | exact hs.cell0 (B1.at (by rfl)) | exact hs.cell0 (B1d3.at (by rfl)))) ?_
          refine D_1 (i := 2) (by kernel_rfl) ?_
          refine E_call rfl rfl en64 (impl_usedSet_c _ _ _ _ _ _ _ (by assumption) (by omega)) ?_  -- k2 impl.usedSet
          rintro v4 w4 ⟨s4, rfl, hs4, g4⟩
          replace hA := hA.grow g4
          replace hB := hB.grow g4
          replace hC := hC.grow g4
          replace G := G.grow g4
          replace GS3 := GS3.grow g4
          replace B1 := B1.grow g4
          have zg4 := g4.size
          have hU := hs4
          refine ⟨GS3, ?_⟩
          refine D_1 (i := 5) (by kernel_rfl) ?_
          refine E_call rfl rfl en65 (impl_setOf_c _ _ _ _ _ (by assumption) (by omega)) ?_  -- k3 impl.setOf
          rintro v5 w5 ⟨s5, rfl, hs5, g5⟩
          replace hA := hA.grow g5
          replace hB := hB.grow g5
          replace hC := hC.grow g5
          replace G := G.grow g5
          replace GS3 := GS3.grow g5
          replace B1 := B1.grow g5
          have zg5 := g5.size
          have hM := hs5
          refine ⟨GS3, ?_⟩
          refine D_q (i := 6) rfl (by kernel_rfl) (fun _ _ _ h => h) GS3 (fun _ _ => Y_assign rfl) ?_
          refine D_q (i := 7) rfl (by kernel_rfl) (fun _ _ _ h => h) GS3 (fun _ _ => Y_assign rfl) ?_
          refine D_end (L' := (_ :: _ :: _ :: _ :: _ :: _ :: _ :: _ :: _ :: _ :: _ :: _ :: _ :: _ :: _ :: _ :: _ :: _ :: _ :: _ :: _ :: _ :: _ :: _ :: _ :: _ :: _ :: _ :: _ :: _ :: _ :: _ :: _ :: _ :: _ :: _ :: _ :: _ :: _ :: _ :: _ :: _ :: _ :: _ :: _ :: _ :: _ :: _ :: _ :: _ :: _ :: _ :: _ :: _ :: _ :: _ :: _ :: _ :: _ :: _ :: _ :: _ :: _ :: [])) (by kernel_rfl) rfl rfl ?_
          refine th_n ?_
          refine hK8 _ _ ?_
          clear hK8 K8
          refine wp_seq_k fun K9 hK9 => ?_
          refine wp_region_lit ?_  -- region 4 l14_lazy.go:27
          refine S_beg 63 rfl ?_
          refine S_val (Y_field Try.underlying35 rfl fz35_2 (by decide) rfl) ?_
          refine S_val (Y_load Try.underlying3 rfl rfl (by first | assumption | exact B1.at (by rfl))) ?_  -- l9
          refine S_val (Y_shl (a := 1) rfl rfl hp64 ha64) ?_
          refine S_val (Y_subU (b := 1) rfl rfl hp1 hp64) ?_
          refine S_val (Y_assign rfl) ?_
          refine S_nil (L' := (_ :: _ :: _ :: _ :: _ :: _ :: _ :: _ :: _ :: _ :: _ :: _ :: _ :: _ :: _ :: _ :: _ :: _ :: _ :: _ :: _ :: _ :: _ :: _ :: _ :: _ :: _ :: _ :: _ :: _ :: _ :: _ :: _ :: _ :: _ :: _ :: _ :: _ :: _ :: _ :: _ :: _ :: _ :: _ :: _ :: _ :: _ :: _ :: _ :: _ :: _ :: _ :: _ :: _ :: _ :: _ :: _ :: _ :: _ :: _ :: _ :: _ :: _ :: [])) rfl rfl ?_
          refine th_n ?_
          refine hK9 _ _ ?_
          clear hK9 K9
          refine wp_seq_k fun K10 hK10 => ?_
          refine wp_region_lit ?_  -- region 5 l14_lazy.go:28
          refine S_beg 63 rfl ?_
          refine S_val (Y_field Try.underlying35 rfl fz35_0 (by decide) rfl) ?_
          refine S_val (Y_loadS Try.underlying33 rfl sz33 rfl (CellsAt.of_blk (pre := []) (us := [_, _]) (post := [_, _]) B1 rfl)) ?_  -- l10
          refine S_call rfl en66 (impl_reachable2_c _ _ _ _ _ _ _ (by assumption) (by assumption) (by omega) (by assumption)) ?_  -- k4 impl.reachable
          rintro v6 w6 ⟨s6, rfl, hs6, hr6, g6⟩
          replace hA := hA.grow g6
          replace hB := hB.grow g6
          replace hC := hC.grow g6
          replace G := G.grow g6
          replace B1 := B1.grow g6
          have zg6 := g6.size
          have hR0 := hs6
          have hRb := hr6
          have hlz := lz_iff hR0 hRb hM hU hlen ha64
          rw [show 2 ^ a - 1 = 1 * 2 ^ a - 1 by rw [Nat.one_mul]] at hlz
          have hR2 := lessN_lt (b := 0) hR0
          refine S_val (Y_move rfl) ?_
          refine S_val (Y_andNot rfl rfl (by first | assumption | exact SetOf.wlt (by assumption)) (by first | assumption | exact SetOf.wlt (by assumption))) ?_
          refine S_val (Y_eql rfl rfl) ?_
          refine S_val (Y_move rfl) ?_
          refine S_g 49 rfl (fun hb5 => ?_) (fun hb5 => ?_)  -- g4
          · -- g4T
            first | with_reducible (replace hb5 := nb_nt hb5) | with_reducible (replace hb5 := nb_nf hb5) | with_reducible (replace hb5 := nb_tt hb5) | with_reducible (replace hb5 := nb_tf hb5) | with_reducible (replace hb5 := nb_bt hb5) | with_reducible (replace hb5 := nb_bf hb5) | skip
            refine S_on rfl rfl ?_
            refine S_val (Y_move rfl) ?_
            refine S_on rfl rfl ?_
            refine S_val (Y_move rfl) ?_
            refine S_on rfl rfl ?_
            refine S_val (Y_andNot rfl rfl (by first | assumption | exact SetOf.wlt (by assumption)) (by first | assumption | exact SetOf.wlt (by assumption))) ?_
            refine S_on rfl rfl ?_
            refine S_val (Y_eql rfl rfl) ?_
            refine S_val (Y_pickT rfl rfl) ?_
            refine S_val (Y_move rfl) ?_
            refine S_g 55 rfl (fun hb6 => ?_) (fun hb6 => ?_)  -- g5
            · -- g5T
              first | with_reducible (replace hb6 := nb_nt hb6) | with_reducible (replace hb6 := nb_nf hb6) | with_reducible (replace hb6 := nb_tt hb6) | with_reducible (replace hb6 := nb_tf hb6) | with_reducible (replace hb6 := nb_bt hb6) | with_reducible (replace hb6 := nb_bf hb6) | skip
              refine S_on rfl rfl ?_
              refine S_val (Y_move rfl) ?_
              refine S_on rfl rfl ?_
              refine S_val (Y_move rfl) ?_
              refine S_on rfl rfl ?_
              refine S_val (Y_and rfl rfl hU.1 hbl) ?_
              refine S_on rfl rfl ?_
              refine S_val (Y_move rfl) ?_
              refine S_on rfl rfl ?_
              refine S_val (Y_andNot rfl rfl (Nat.lt_of_le_of_lt Nat.and_le_left hU.1) hM.1) ?_
              refine S_on rfl rfl ?_
              refine S_val (Y_eql rfl rfl) ?_
              refine S_val (Y_pickT rfl rfl) ?_
              refine S_val (Y_assign rfl) ?_
              refine S_nil (L' := (_ :: _ :: _ :: _ :: _ :: _ :: _ :: _ :: _ :: _ :: _ :: _ :: _ :: _ :: _ :: _ :: _ :: _ :: _ :: _ :: _ :: _ :: _ :: _ :: _ :: _ :: _ :: _ :: _ :: _ :: _ :: _ :: _ :: _ :: _ :: _ :: _ :: _ :: _ :: _ :: _ :: _ :: _ :: _ :: _ :: _ :: _ :: _ :: _ :: _ :: _ :: _ :: _ :: _ :: _ :: _ :: _ :: _ :: _ :: _ :: _ :: _ :: _ :: [])) rfl rfl ?_
              refine th_n ?_
              refine hK10 _ _ ?_
              clear hK10 K10
              refine wp_ret ?_
              refine ret_r1 rfl rfl ?_  -- r5
              exact ⟨by rw [lazB_t hb1 hlen (by omega), hlz, decide_eq_true hb5, decide_eq_true hb6] <;> rfl, G⟩
            · -- g5F
              first | with_reducible (replace hb6 := nb_nt hb6) | with_reducible (replace hb6 := nb_nf hb6) | with_reducible (replace hb6 := nb_tt hb6) | with_reducible (replace hb6 := nb_tf hb6) | with_reducible (replace hb6 := nb_bt hb6) | with_reducible (replace hb6 := nb_bf hb6) | skip
              refine S_off rfl rfl ?_
              refine S_off rfl rfl ?_
              refine S_off rfl rfl ?_
              refine S_off rfl rfl ?_
              refine S_off rfl rfl ?_
              refine S_off rfl rfl ?_
              refine S_val (Y_pickF rfl rfl) ?_
              refine S_val (Y_assign rfl) ?_
              refine S_nil (L' := (_ :: _ :: _ :: _ :: _ :: _ :: _ :: _ :: _ :: _ :: _ :: _ :: _ :: _ :: _ :: _ :: _ :: _ :: _ :: _ :: _ :: _ :: _ :: _ :: _ :: _ :: _ :: _ :: _ :: _ :: _ :: _ :: _ :: _ :: _ :: _ :: _ :: _ :: _ :: _ :: _ :: _ :: _ :: _ :: _ :: _ :: _ :: _ :: _ :: _ :: _ :: _ :: _ :: _ :: _ :: _ :: _ :: _ :: _ :: _ :: _ :: _ :: _ :: [])) rfl rfl ?_
              refine th_n ?_
              refine hK10 _ _ ?_
              clear hK10 K10
              refine wp_ret ?_
              refine ret_r1 rfl rfl ?_  -- r6
              exact ⟨by rw [lazB_t hb1 hlen (by omega), hlz, decide_eq_true hb5, decide_eq_false hb6] <;> rfl, G⟩
          · -- g4F
            first | with_reducible (replace hb5 := nb_nt hb5) | with_reducible (replace hb5 := nb_nf hb5) | with_reducible (replace hb5 := nb_tt hb5) | with_reducible (replace hb5 := nb_tf hb5) | with_reducible (replace hb5 := nb_bt hb5) | with_reducible (replace hb5 := nb_bf hb5) | skip
            refine S_off rfl rfl ?_
            refine S_off rfl rfl ?_
            refine S_off rfl rfl ?_
            refine S_off rfl rfl ?_
            refine S_val (Y_pickF rfl rfl) ?_
            refine S_val (Y_move rfl) ?_
            refine S_off rfl rfl ?_
            refine S_off rfl rfl ?_
            refine S_off rfl rfl ?_
            refine S_off rfl rfl ?_
            refine S_off rfl rfl ?_
            refine S_off rfl rfl ?_
            refine S_val (Y_pickF rfl rfl) ?_
            refine S_val (Y_assign rfl) ?_
            refine S_nil (L' := (_ :: _ :: _ :: _ :: _ :: _ :: _ :: _ :: _ :: _ :: _ :: _ :: _ :: _ :: _ :: _ :: _ :: _ :: _ :: _ :: _ :: _ :: _ :: _ :: _ :: _ :: _ :: _ :: _ :: _ :: _ :: _ :: _ :: _ :: _ :: _ :: _ :: _ :: _ :: _ :: _ :: _ :: _ :: _ :: _ :: _ :: _ :: _ :: _ :: _ :: _ :: _ :: _ :: _ :: _ :: _ :: _ :: _ :: _ :: _ :: _ :: _ :: _ :: [])) rfl rfl ?_
            refine th_n ?_
            refine hK10 _ _ ?_
            clear hK10 K10
            refine wp_ret ?_
            refine ret_r1 rfl rfl ?_  -- r7
            exact ⟨by rw [lazB_t hb1 hlen (by omega), hlz, decide_eq_false hb5] <;> rfl, G⟩

set_option maxHeartbeats 8000000 in
set_option maxRecDepth 20000 in
theorem spec_LazyValid_c (Pr : Nat → Prop) (A B C : Option Addr) (h : LH) (ms : List Bool) (x : Int) (c d e : Nat) (w : World) (hA : RC Pr w A h.cells) (hB : R1 Pr w B (ints h.roots)) (hC : R1 Pr w C (bools ms)) (hz : hsize h ≤ 1048576) (hxz : ms.length ≤ 1048576) (hx : -9223372036854775808 ≤ x ∧ x ≤ 9223372036854775807) :
    Calls Try.prog 15 #[.agg #[.slice A h.cells.length c, .slice B h.roots.length d, .slice C ms.length e, .int .i64 x]] w (Ret fun v w' => v = .bool (lazB h ms x) ∧ Grow w w') := by
  have hz1 := hsize_cells h
  have hz2 := hsize_roots h
  refine enter Try.func15 rfl Try.ntmps15 (L := (_ :: _ :: _ :: _ :: _ :: _ :: _ :: _ :: _ :: _ :: _ :: _ :: _ :: _ :: _ :: _ :: _ :: _ :: _ :: _ :: _ :: _ :: _ :: _ :: _ :: _ :: _ :: _ :: _ :: _ :: _ :: _ :: _ :: _ :: _ :: _ :: _ :: _ :: _ :: _ :: _ :: _ :: _ :: _ :: _ :: _ :: _ :: _ :: _ :: _ :: _ :: _ :: _ :: _ :: _ :: _ :: _ :: _ :: _ :: _ :: _ :: _ :: _ :: _ :: _ :: _ :: _ :: _ :: _ :: _ :: _ :: _ :: _ :: _ :: _ :: _ :: _ :: _ :: _ :: _ :: _ :: _ :: _ :: _ :: _ :: _ :: _ :: _ :: _ :: _ :: _ :: _ :: _ :: [])) rfl ?_
  have G := Mod.refl No w
  have hA0 := hA
  have hB0 := hB
  have hC0 := hC
  refine wp_seq_k fun K1 hK1 => ?_
  refine wp_region_lit ?_  -- region 0 l14_lazy.go:14
  refine S_beg 93 rfl ?_
  refine S_box (cs := [_, _, _, _]) rfl rfl ?_
  intro b1 w1 fb1 g1 B1
  have lb1 := B1.lt
  replace hA := hA.grow g1
  replace hB := hB.grow g1
  replace hC := hC.grow g1
  replace G := G.grow g1
  have zg1 := g1.size
  refine S_val (Y_assign rfl) ?_
  refine S_nil (L' := (_ :: _ :: _ :: _ :: _ :: _ :: _ :: _ :: _ :: _ :: _ :: _ :: _ :: _ :: _ :: _ :: _ :: _ :: _ :: _ :: _ :: _ :: _ :: _ :: _ :: _ :: _ :: _ :: _ :: _ :: _ :: _ :: _ :: _ :: _ :: _ :: _ :: _ :: _ :: _ :: _ :: _ :: _ :: _ :: _ :: _ :: _ :: _ :: _ :: _ :: _ :: _ :: _ :: _ :: _ :: _ :: _ :: _ :: _ :: _ :: _ :: _ :: _ :: _ :: _ :: _ :: _ :: _ :: _ :: _ :: _ :: _ :: _ :: _ :: _ :: _ :: _ :: _ :: _ :: _ :: _ :: _ :: _ :: _ :: _ :: _ :: _ :: _ :: _ :: _ :: _ :: _ :: _ :: [])) rfl rfl ?_
  refine th_n ?_
  refine hK1 _ _ ?_
  clear hK1 K1
  refine wp_seq_k fun K2 hK2 => ?_
  refine wp_seq_k fun K3 hK3 => ?_
  refine wp_region_lit ?_  -- region 1 l14_lazy.go:15
  refine S_beg 93 rfl ?_
  refine S_val (Y_field Try.underlying35 rfl fz35_0 (by decide) rfl) ?_
  refine S_val (Y_loadS Try.underlying33 rfl sz33 rfl (CellsAt.of_blk (pre := []) (us := [_, _]) (post := [_, _]) B1 rfl)) ?_  -- l1
  refine S_call rfl en60 (spec_HeapValid_c _ _ _ _ _ _ _ (by assumption) (by assumption) (by omega)) ?_  -- k1 spec.HeapValid
  rintro v2 w2 ⟨rfl, g2⟩
  replace hA := hA.grow g2
  replace hB := hB.grow g2
  replace hC := hC.grow g2
  replace G := G.grow g2
  replace B1 := B1.grow g2
  have zg2 := g2.size
  refine S_val (Y_not rfl) ?_
  refine S_val (Y_move rfl) ?_
  refine S_g 9 rfl (fun hb1 => ?_) (fun hb1 => ?_)  -- g1
  · -- g1T
    first | with_reducible (replace hb1 := nb_nt hb1) | with_reducible (replace hb1 := nb_nf hb1) | with_reducible (replace hb1 := nb_tt hb1) | with_reducible (replace hb1 := nb_tf hb1) | with_reducible (replace hb1 := nb_bt hb1) | with_reducible (replace hb1 := nb_bf hb1) | skip
    refine S_off rfl rfl ?_
    refine S_off rfl rfl ?_
    refine S_off rfl rfl ?_
    refine S_off rfl rfl ?_
    refine S_off rfl rfl ?_
    refine S_off rfl rfl ?_
    refine S_off rfl rfl ?_
    refine S_off rfl rfl ?_
    refine S_val (Y_pickT rfl rfl) ?_
    refine S_val (Y_move rfl) ?_
    refine S_off rfl rfl ?_
    refine S_off rfl rfl ?_
    refine S_off rfl rfl ?_
    refine S_off rfl rfl ?_
    refine S_off rfl rfl ?_
    refine S_off rfl rfl ?_
    refine S_off rfl rfl ?_
    refine S_val (Y_pickT rfl rfl) ?_
    refine S_nil (L' := (_ :: _ :: _ :: _ :: _ :: _ :: _ :: _ :: _ :: _ :: _ :: _ :: _ :: _ :: _ :: _ :: _ :: _ :: _ :: _ :: _ :: _ :: _ :: _ :: _ :: _ :: _ :: _ :: _ :: _ :: _ :: _ :: _ :: _ :: _ :: _ :: _ :: _ :: _ :: _ :: _ :: _ :: _ :: _ :: _ :: _ :: _ :: _ :: _ :: _ :: _ :: _ :: _ :: _ :: _ :: _ :: _ :: _ :: _ :: _ :: _ :: _ :: _ :: _ :: _ :: _ :: _ :: _ :: _ :: _ :: _ :: _ :: _ :: _ :: _ :: _ :: _ :: _ :: _ :: _ :: _ :: _ :: _ :: _ :: _ :: _ :: _ :: _ :: _ :: _ :: _ :: _ :: _ :: [])) rfl rfl ?_
    refine th_n ?_
    refine hK3 _ _ ?_
    clear hK3 K3
    refine S_ifT rfl ?_
    refine wp_seq_k fun K4 hK4 => ?_
    refine wp_region_lit ?_  -- region 2 l14_lazy.go:16
    refine S_beg 93 rfl ?_
    refine S_val (Y_assign rfl) ?_
    refine S_nil (L' := (_ :: _ :: _ :: _ :: _ :: _ :: _ :: _ :: _ :: _ :: _ :: _ :: _ :: _ :: _ :: _ :: _ :: _ :: _ :: _ :: _ :: _ :: _ :: _ :: _ :: _ :: _ :: _ :: _ :: _ :: _ :: _ :: _ :: _ :: _ :: _ :: _ :: _ :: _ :: _ :: _ :: _ :: _ :: _ :: _ :: _ :: _ :: _ :: _ :: _ :: _ :: _ :: _ :: _ :: _ :: _ :: _ :: _ :: _ :: _ :: _ :: _ :: _ :: _ :: _ :: _ :: _ :: _ :: _ :: _ :: _ :: _ :: _ :: _ :: _ :: _ :: _ :: _ :: _ :: _ :: _ :: _ :: _ :: _ :: _ :: _ :: _ :: _ :: _ :: _ :: _ :: _ :: _ :: [])) rfl rfl ?_
    refine th_n ?_
    refine hK4 _ _ ?_
    clear hK4 K4
    refine wp_ret ?_
    refine th_r ?_
    clear hK2 K2
    refine ret_r1 rfl rfl ?_  -- r1
    exact ⟨by rw [lazB_f1 hb1], G⟩
  · -- g1F
    first | with_reducible (replace hb1 := nb_nt hb1) | with_reducible (replace hb1 := nb_nf hb1) | with_reducible (replace hb1 := nb_tt hb1) | with_reducible (replace hb1 := nb_tf hb1) | with_reducible (replace hb1 := nb_bt hb1) | with_reducible (replace hb1 := nb_bf hb1) | skip
    have va := valid_iff.1 hb1
    have hl := va.leads
    have h40 := va.le
    have hr4 := va.roots4
    refine S_on rfl rfl ?_
    refine S_val (Y_field Try.underlying35 rfl fz35_1 (by decide) rfl) ?_
    refine S_on rfl rfl ?_
    refine S_val (Y_load Try.underlying26 rfl rfl (by first | assumption | exact B1.at (by rfl))) ?_  -- l2
    refine S_on rfl rfl ?_
    refine S_val (Y_len Try.underlying26 rfl) ?_
    refine S_on rfl rfl ?_
    refine S_val (Y_field Try.underlying35 rfl fz35_0 (by decide) rfl) ?_
    refine S_on rfl rfl ?_
    refine S_val (Y_field Try.underlying33 rfl fz33_0 (by decide) rfl) ?_
    refine S_on rfl rfl ?_
    refine S_val (Y_load Try.underlying31 rfl rfl (by first | assumption | exact B1.at (by rfl))) ?_  -- l3
    refine S_on rfl rfl ?_
    refine S_val (Y_len Try.underlying31 rfl) ?_
    refine S_on rfl rfl ?_
    refine S_val (Y_neq rfl rfl) ?_
    refine S_val (Y_pickF rfl rfl) ?_
    refine S_val (Y_move rfl) ?_
    refine S_g 19 rfl (fun hb2 => ?_) (fun hb2 => ?_)  -- g2
    · -- g2T
      first | with_reducible (replace hb2 := nb_nt hb2) | with_reducible (replace hb2 := nb_nf hb2) | with_reducible (replace hb2 := nb_tt hb2) | with_reducible (replace hb2 := nb_tf hb2) | with_reducible (replace hb2 := nb_bt hb2) | with_reducible (replace hb2 := nb_bf hb2) | skip
      refine S_off rfl rfl ?_
      refine S_off rfl rfl ?_
      refine S_off rfl rfl ?_
      refine S_off rfl rfl ?_
      refine S_off rfl rfl ?_
      refine S_off rfl rfl ?_
      refine S_off rfl rfl ?_
      refine S_val (Y_pickT rfl rfl) ?_
      refine S_nil (L' := (_ :: _ :: _ :: _ :: _ :: _ :: _ :: _ :: _ :: _ :: _ :: _ :: _ :: _ :: _ :: _ :: _ :: _ :: _ :: _ :: _ :: _ :: _ :: _ :: _ :: _ :: _ :: _ :: _ :: _ :: _ :: _ :: _ :: _ :: _ :: _ :: _ :: _ :: _ :: _ :: _ :: _ :: _ :: _ :: _ :: _ :: _ :: _ :: _ :: _ :: _ :: _ :: _ :: _ :: _ :: _ :: _ :: _ :: _ :: _ :: _ :: _ :: _ :: _ :: _ :: _ :: _ :: _ :: _ :: _ :: _ :: _ :: _ :: _ :: _ :: _ :: _ :: _ :: _ :: _ :: _ :: _ :: _ :: _ :: _ :: _ :: _ :: _ :: _ :: _ :: _ :: _ :: _ :: [])) rfl rfl ?_
      refine th_n ?_
      refine hK3 _ _ ?_
      clear hK3 K3
      refine S_ifT rfl ?_
      refine wp_seq_k fun K5 hK5 => ?_
      refine wp_region_lit ?_  -- region 2 l14_lazy.go:16
      refine S_beg 93 rfl ?_
      refine S_val (Y_assign rfl) ?_
      refine S_nil (L' := (_ :: _ :: _ :: _ :: _ :: _ :: _ :: _ :: _ :: _ :: _ :: _ :: _ :: _ :: _ :: _ :: _ :: _ :: _ :: _ :: _ :: _ :: _ :: _ :: _ :: _ :: _ :: _ :: _ :: _ :: _ :: _ :: _ :: _ :: _ :: _ :: _ :: _ :: _ :: _ :: _ :: _ :: _ :: _ :: _ :: _ :: _ :: _ :: _ :: _ :: _ :: _ :: _ :: _ :: _ :: _ :: _ :: _ :: _ :: _ :: _ :: _ :: _ :: _ :: _ :: _ :: _ :: _ :: _ :: _ :: _ :: _ :: _ :: _ :: _ :: _ :: _ :: _ :: _ :: _ :: _ :: _ :: _ :: _ :: _ :: _ :: _ :: _ :: _ :: _ :: _ :: _ :: _ :: [])) rfl rfl ?_
      refine th_n ?_
      refine hK5 _ _ ?_
      clear hK5 K5
      refine wp_ret ?_
      refine th_r ?_
      clear hK2 K2
      refine ret_r1 rfl rfl ?_  -- r2
      exact ⟨by rw [lazB_f2 (by omega)], G⟩
    · -- g2F
      first | with_reducible (replace hb2 := nb_nt hb2) | with_reducible (replace hb2 := nb_nf hb2) | with_reducible (replace hb2 := nb_tt hb2) | with_reducible (replace hb2 := nb_tf hb2) | with_reducible (replace hb2 := nb_bt hb2) | with_reducible (replace hb2 := nb_bf hb2) | skip
      refine S_on rfl rfl ?_
      refine S_val (Y_field Try.underlying35 rfl fz35_2 (by decide) rfl) ?_
      refine S_on rfl rfl ?_
      refine S_val (Y_load Try.underlying3 rfl rfl (by first | assumption | exact B1.at (by rfl))) ?_  -- l4
      refine S_on rfl rfl ?_
      refine S_val (Y_field Try.underlying35 rfl fz35_1 (by decide) rfl) ?_
      refine S_on rfl rfl ?_
      refine S_val (Y_load Try.underlying26 rfl rfl (by first | assumption | exact B1.at (by rfl))) ?_  -- l5
      refine S_on rfl rfl ?_
      refine S_val (Y_len Try.underlying26 rfl) ?_
      refine S_on rfl rfl ?_
      refine S_call rfl en61 (spec_l1In_c _ _ _ _) ?_  -- k2 spec.l1In
      rintro v w' ⟨rfl, rfl⟩
      refine S_on rfl rfl ?_
      refine S_val (Y_not rfl) ?_
      refine S_val (Y_pickF rfl rfl) ?_
      refine S_nil (L' := (_ :: _ :: _ :: _ :: _ :: _ :: _ :: _ :: _ :: _ :: _ :: _ :: _ :: _ :: _ :: _ :: _ :: _ :: _ :: _ :: _ :: _ :: _ :: _ :: _ :: _ :: _ :: _ :: _ :: _ :: _ :: _ :: _ :: _ :: _ :: _ :: _ :: _ :: _ :: _ :: _ :: _ :: _ :: _ :: _ :: _ :: _ :: _ :: _ :: _ :: _ :: _ :: _ :: _ :: _ :: _ :: _ :: _ :: _ :: _ :: _ :: _ :: _ :: _ :: _ :: _ :: _ :: _ :: _ :: _ :: _ :: _ :: _ :: _ :: _ :: _ :: _ :: _ :: _ :: _ :: _ :: _ :: _ :: _ :: _ :: _ :: _ :: _ :: _ :: _ :: _ :: _ :: _ :: [])) rfl rfl ?_
      refine th_n ?_
      refine hK3 _ _ ?_
      clear hK3 K3
      refine S_if rfl (fun hb3 => ?_) (fun hb3 => ?_)  -- c1
      · -- c1T
        first | with_reducible (replace hb3 := nb_nt hb3) | with_reducible (replace hb3 := nb_nf hb3) | with_reducible (replace hb3 := nb_tt hb3) | with_reducible (replace hb3 := nb_tf hb3) | with_reducible (replace hb3 := nb_bt hb3) | with_reducible (replace hb3 := nb_bf hb3) | skip
        refine wp_seq_k fun K6 hK6 => ?_
        refine wp_region_lit ?_  -- region 2 l14_lazy.go:16
        refine S_beg 93 rfl ?_
        refine S_val (Y_assign rfl) ?_
        refine S_nil (L' := (_ :: _ :: _ :: _ :: _ :: _ :: _ :: _ :: _ :: _ :: _ :: _ :: _ :: _ :: _ :: _ :: _ :: _ :: _ :: _ :: _ :: _ :: _ :: _ :: _ :: _ :: _ :: _ :: _ :: _ :: _ :: _ :: _ :: _ :: _ :: _ :: _ :: _ :: _ :: _ :: _ :: _ :: _ :: _ :: _ :: _ :: _ :: _ :: _ :: _ :: _ :: _ :: _ :: _ :: _ :: _ :: _ :: _ :: _ :: _ :: _ :: _ :: _ :: _ :: _ :: _ :: _ :: _ :: _ :: _ :: _ :: _ :: _ :: _ :: _ :: _ :: _ :: _ :: _ :: _ :: _ :: _ :: _ :: _ :: _ :: _ :: _ :: _ :: _ :: _ :: _ :: _ :: _ :: [])) rfl rfl ?_
        refine th_n ?_
        refine hK6 _ _ ?_
        clear hK6 K6
        refine wp_ret ?_
        refine th_r ?_
        clear hK2 K2
        refine ret_r1 rfl rfl ?_  -- r3
        exact ⟨by rw [lazB_f3 (by omega)], G⟩
      · -- c1F
        first | with_reducible (replace hb3 := nb_nt hb3) | with_reducible (replace hb3 := nb_nf hb3) | with_reducible (replace hb3 := nb_tt hb3) | with_reducible (replace hb3 := nb_tf hb3) | with_reducible (replace hb3 := nb_bt hb3) | with_reducible (replace hb3 := nb_bf hb3) | skip
        have hlen : ms.length = h.cells.length := by omega
        obtain ⟨a, rfl⟩ := Int.eq_ofNat_of_zero_le (show 0 ≤ x by omega)
        refine wp_skip ?_
        refine th_n ?_
        refine hK2 _ _ ?_
        clear hK2 K2
        refine wp_seq_k fun K7 hK7 => ?_
        refine wp_region_lit ?_  -- region 3 l14_lazy.go:18
        refine S_beg 93 rfl ?_
        refine S_val (Y_field Try.underlying35 rfl fz35_0 (by decide) rfl) ?_
        refine S_val (Y_loadS Try.underlying33 rfl sz33 rfl (CellsAt.of_blk (pre := []) (us := [_, _]) (post := [_, _]) B1 rfl)) ?_  -- l6
        refine S_val (Y_field Try.underlying35 rfl fz35_0 (by decide) rfl) ?_
        refine S_val (Y_field Try.underlying33 rfl fz33_1 (by decide) rfl) ?_
        refine S_val (Y_load Try.underlying23 rfl rfl (by first | assumption | exact B1.at (by rfl))) ?_  -- l7
        refine S_call rfl en62 (spec_l7Reach_c _ _ _ _ _ _ _ _ _ _ _ (by assumption) (by assumption) (by omega) (by omega) (by assumption)) ?_  -- k3 spec.l7Reach
        rintro v4 w4 ⟨b4, rfl, fb4, B4, g4⟩
        replace hA := hA.grow g4
        replace hB := hB.grow g4
        replace hC := hC.grow g4
        replace G := G.grow g4
        replace B1 := B1.grow g4
        have zg4 := g4.size
        have lb4 := B4.lt
        have hRB := R1.of_blkE B4
        refine S_val (Y_assign rfl) ?_
        refine S_nil (L' := (_ :: _ :: _ :: _ :: _ :: _ :: _ :: _ :: _ :: _ :: _ :: _ :: _ :: _ :: _ :: _ :: _ :: _ :: _ :: _ :: _ :: _ :: _ :: _ :: _ :: _ :: _ :: _ :: _ :: _ :: _ :: _ :: _ :: _ :: _ :: _ :: _ :: _ :: _ :: _ :: _ :: _ :: _ :: _ :: _ :: _ :: _ :: _ :: _ :: _ :: _ :: _ :: _ :: _ :: _ :: _ :: _ :: _ :: _ :: _ :: _ :: _ :: _ :: _ :: _ :: _ :: _ :: _ :: _ :: _ :: _ :: _ :: _ :: _ :: _ :: _ :: _ :: _ :: _ :: _ :: _ :: _ :: _ :: _ :: _ :: _ :: _ :: _ :: _ :: _ :: _ :: _ :: _ :: [])) rfl rfl ?_
        refine th_n ?_
        refine hK7 _ _ ?_
        clear hK7 K7
        refine wp_seq_k fun K8 hK8 => ?_
        refine wp_seq_k fun K9 hK9 => ?_
        refine wp_region_lit ?_  -- region 4 l14_lazy.go:19
        refine S_beg 93 rfl ?_
        refine S_val (Y_assign rfl) ?_
        refine S_nil (L' := (_ :: _ :: _ :: _ :: _ :: _ :: _ :: _ :: _ :: _ :: _ :: _ :: _ :: _ :: _ :: _ :: _ :: _ :: _ :: _ :: _ :: _ :: _ :: _ :: _ :: _ :: _ :: _ :: _ :: _ :: _ :: _ :: _ :: _ :: _ :: _ :: _ :: _ :: _ :: _ :: _ :: _ :: _ :: _ :: _ :: _ :: _ :: _ :: _ :: _ :: _ :: _ :: _ :: _ :: _ :: _ :: _ :: _ :: _ :: _ :: _ :: _ :: _ :: _ :: _ :: _ :: _ :: _ :: _ :: _ :: _ :: _ :: _ :: _ :: _ :: _ :: _ :: _ :: _ :: _ :: _ :: _ :: _ :: _ :: _ :: _ :: _ :: _ :: _ :: _ :: _ :: _ :: _ :: [])) rfl rfl ?_
        refine th_n ?_
        refine hK9 _ _ ?_
        clear hK9 K9
        refine wp_block ?_
        go_loopw [4] (fun u4 wr => (∃ k : Nat, u4 = .int .i64 k ∧ k ≤ ms.length ∧ lzOk h ms a k = true) ∧ Mod No w4 wr) (fun u4 wr => ms.length - (intOf u4).toNat)  -- L1
        case atStart =>
          refine ⟨?_, Mod.refl _ _⟩
          exact ⟨0, rfl, by omega, rfl⟩
        case round =>
          obtain ⟨w5, rfl⟩ : ∃ x : World, x = wr := ⟨_, rfl⟩
          obtain ⟨hrel, g5⟩ := hrel
          replace hA := hA.grow g5
          replace hB := hB.grow g5
          replace hC := hC.grow g5
          replace hRB := hRB.grow g5
          replace G := G.grow g5
          replace B1 := B1.grow g5
          replace B4 := B4.grow g5
          have zg5 := g5.size
          obtain ⟨k, rfl, hk, hok⟩ := hrel
          have GL5 := g5
          refine wp_seq_k fun K10 hK10 => ?_
          refine wp_seq_k fun K11 hK11 => ?_
          refine wp_region_lit ?_  -- region 5 l14_lazy.go:19
          refine S_beg 93 rfl ?_
          refine S_val (Y_move rfl) ?_
          refine S_val (Y_field Try.underlying35 rfl fz35_1 (by decide) rfl) ?_
          refine S_val (Y_load Try.underlying26 rfl rfl (by first | assumption | exact B1.at (by rfl) | exact B4.at (by rfl))) ?_  -- l8
          refine S_val (Y_len Try.underlying26 rfl) ?_
          refine S_val (Y_lss rfl rfl) ?_
          refine S_nil (L' := (_ :: _ :: _ :: _ :: _ :: _ :: _ :: _ :: _ :: _ :: _ :: _ :: _ :: _ :: _ :: _ :: _ :: _ :: _ :: _ :: _ :: _ :: _ :: _ :: _ :: _ :: _ :: _ :: _ :: _ :: _ :: _ :: _ :: _ :: _ :: _ :: _ :: _ :: _ :: _ :: _ :: _ :: _ :: _ :: _ :: _ :: _ :: _ :: _ :: _ :: _ :: _ :: _ :: _ :: _ :: _ :: _ :: _ :: _ :: _ :: _ :: _ :: _ :: _ :: _ :: _ :: _ :: _ :: _ :: _ :: _ :: _ :: _ :: _ :: _ :: _ :: _ :: _ :: _ :: _ :: _ :: _ :: _ :: _ :: _ :: _ :: _ :: _ :: _ :: _ :: _ :: _ :: _ :: [])) rfl rfl ?_
          refine th_n ?_
          refine hK11 _ _ ?_
          clear hK11 K11
          refine S_if rfl (fun hb4 => ?_) (fun hb4 => ?_)  -- c2
          · -- c2T
            first | with_reducible (replace hb4 := nb_nt hb4) | with_reducible (replace hb4 := nb_nf hb4) | with_reducible (replace hb4 := nb_tt hb4) | with_reducible (replace hb4 := nb_tf hb4) | with_reducible (replace hb4 := nb_bt hb4) | with_reducible (replace hb4 := nb_bf hb4) | skip
            have hk1 : k < ms.length := by omega
            have hk2 : k < h.cells.length := by omega
            have hib := inB_at hk1
            have hue := usedAt_at hk2
            obtain ⟨g2, o2, E2, d2, rfl, hp2, cc20, _⟩ := hA0.cell hk2
            have cc2 := cc20.grow G
            have hk3 : k < (mB h.cells.length (orderL h.cells h.roots nn)).length := by rw [mB_len]; exact hk2
            obtain ⟨g4, o4, e4, hp4, hc4⟩ := hRB.bool hk3
            cases e4
            have hme : (mB h.cells.length (orderL h.cells h.roots nn))[k] = rB h k := by simp [mB, rB]
            rw [hme] at hc4
            obtain ⟨g5, o5, e5, hp5, hc5⟩ := hC.bool hk1
            cases e5
            refine wp_skip ?_
            refine th_n ?_
            refine hK10 _ _ ?_
            clear hK10 K10
            refine wp_seq_k fun K12 hK12 => ?_
            refine wp_block ?_
            refine wp_seq_k fun K13 hK13 => ?_
            refine wp_region_lit ?_  -- region 7 l14_lazy.go:20
            refine S_beg 93 rfl ?_
            refine S_val (Y_move rfl) ?_
            refine S_val (Y_move rfl) ?_
            refine S_val (Y_index Try.underlying26 sz4 rfl rfl (by first | assumption | omega)) ?_
            refine S_val (Y_load Try.underlying4 rfl rfl (by first | assumption | exact B1.at (by rfl) | exact B4.at (by rfl) | exact cc2.at (by rfl))) ?_  -- l9
            refine S_val (Y_move rfl) ?_
            refine S_g 45 rfl (fun hb5 => ?_) (fun hb5 => ?_)  -- g3
            · -- g3T
              first | with_reducible (replace hb5 := nb_nt hb5) | with_reducible (replace hb5 := nb_nf hb5) | with_reducible (replace hb5 := nb_tt hb5) | with_reducible (replace hb5 := nb_tf hb5) | with_reducible (replace hb5 := nb_bt hb5) | with_reducible (replace hb5 := nb_bf hb5) | skip
              refine S_on rfl rfl ?_
              refine S_val (Y_field Try.underlying35 rfl fz35_1 (by decide) rfl) ?_
              refine S_on rfl rfl ?_
              refine S_val (Y_load Try.underlying26 rfl rfl (by first | assumption | exact B1.at (by rfl) | exact B4.at (by rfl) | exact cc2.at (by rfl))) ?_  -- l10
              refine S_on rfl rfl ?_
              refine S_val (Y_move rfl) ?_
              refine S_on rfl rfl ?_
              refine S_val (Y_index Try.underlying26 sz4 rfl rfl (by first | assumption | omega)) ?_
              refine S_on rfl rfl ?_
              refine S_val (Y_load Try.underlying4 rfl rfl (by first | assumption | exact B1.at (by rfl) | exact B4.at (by rfl) | exact cc2.at (by rfl))) ?_  -- l11
              refine S_on rfl rfl ?_
              refine S_val (Y_not rfl) ?_
              refine S_val (Y_pickT rfl rfl) ?_
              refine S_val (Y_move rfl) ?_
              refine S_g 53 rfl (fun hb6 => ?_) (fun hb6 => ?_)  -- g4
              · -- g4T
                first | with_reducible (replace hb6 := nb_nt hb6) | with_reducible (replace hb6 := nb_nf hb6) | with_reducible (replace hb6 := nb_tt hb6) | with_reducible (replace hb6 := nb_tf hb6) | with_reducible (replace hb6 := nb_bt hb6) | with_reducible (replace hb6 := nb_bf hb6) | skip
                refine S_off rfl rfl ?_
                refine S_off rfl rfl ?_
                refine S_off rfl rfl ?_
                refine S_off rfl rfl ?_
                refine S_off rfl rfl ?_
                refine S_off rfl rfl ?_
                refine S_offU rfl rfl ?_
                refine S_offU rfl rfl ?_
                refine S_offU rfl rfl ?_
                refine S_offU rfl rfl ?_
                refine S_offU rfl rfl ?_
                refine S_offU rfl rfl ?_
                refine S_offU rfl rfl ?_
                refine S_offU rfl rfl ?_
                refine S_off rfl rfl ?_
                refine S_val (Y_pickT rfl rfl) ?_
                refine S_val (Y_move rfl) ?_
                refine S_off rfl rfl ?_
                refine S_off rfl rfl ?_
                refine S_off rfl rfl ?_
                refine S_off rfl rfl ?_
                refine S_off rfl rfl ?_
                refine S_offU rfl rfl ?_
                refine S_offU rfl rfl ?_
                refine S_offU rfl rfl ?_
                refine S_offU rfl rfl ?_
                refine S_offU rfl rfl ?_
                refine S_offU rfl rfl ?_
                refine S_off rfl rfl ?_
                refine S_off rfl rfl ?_
                refine S_offU rfl rfl ?_
                refine S_offU rfl rfl ?_
                refine S_offU rfl rfl ?_
                refine S_offU rfl rfl ?_
                refine S_offU rfl rfl ?_
                refine S_offU rfl rfl ?_
                refine S_offU rfl rfl ?_
                refine S_off rfl rfl ?_
                refine S_val (Y_pickT rfl rfl) ?_
                refine S_nil (L' := (_ :: _ :: _ :: _ :: _ :: _ :: _ :: _ :: _ :: _ :: _ :: _ :: _ :: _ :: _ :: _ :: _ :: _ :: _ :: _ :: _ :: _ :: _ :: _ :: _ :: _ :: _ :: _ :: _ :: _ :: _ :: _ :: _ :: _ :: _ :: _ :: _ :: _ :: _ :: _ :: _ :: _ :: _ :: _ :: _ :: _ :: _ :: _ :: _ :: _ :: _ :: _ :: _ :: _ :: _ :: _ :: _ :: _ :: _ :: _ :: _ :: _ :: _ :: _ :: _ :: _ :: _ :: _ :: _ :: _ :: _ :: _ :: _ :: _ :: _ :: _ :: _ :: _ :: _ :: _ :: _ :: _ :: _ :: _ :: _ :: _ :: _ :: _ :: _ :: _ :: _ :: _ :: _ :: [])) rfl rfl ?_
                refine th_n ?_
                refine hK13 _ _ ?_
                clear hK13 K13
                refine S_ifT rfl ?_
                refine wp_seq_k fun K14 hK14 => ?_
                refine wp_region_lit ?_  -- region 8 l14_lazy.go:21
                refine S_beg 93 rfl ?_
                refine S_val (Y_assign rfl) ?_
                refine S_nil (L' := (_ :: _ :: _ :: _ :: _ :: _ :: _ :: _ :: _ :: _ :: _ :: _ :: _ :: _ :: _ :: _ :: _ :: _ :: _ :: _ :: _ :: _ :: _ :: _ :: _ :: _ :: _ :: _ :: _ :: _ :: _ :: _ :: _ :: _ :: _ :: _ :: _ :: _ :: _ :: _ :: _ :: _ :: _ :: _ :: _ :: _ :: _ :: _ :: _ :: _ :: _ :: _ :: _ :: _ :: _ :: _ :: _ :: _ :: _ :: _ :: _ :: _ :: _ :: _ :: _ :: _ :: _ :: _ :: _ :: _ :: _ :: _ :: _ :: _ :: _ :: _ :: _ :: _ :: _ :: _ :: _ :: _ :: _ :: _ :: _ :: _ :: _ :: _ :: _ :: _ :: _ :: _ :: _ :: [])) rfl rfl ?_
                refine th_n ?_
                refine hK14 _ _ ?_
                clear hK14 K14
                refine wp_ret ?_
                refine ib_r ?_
                refine th_r ?_
                clear GL5
                refine th_r ?_
                refine ib_r ?_
                refine th_r ?_
                clear hK12 K12 hK8 K8
                refine ret_r1 rfl rfl ?_  -- r4
                have hbad : lzBad h ms a k = true := by
                  unfold lzBad
                  rw [hib, hue]
                  revert hb5 hb6
                  generalize ms[k] = ym
                  generalize h.cells[k].used = yu
                  by_cases hka : k < a <;> cases rB h k <;> cases ym <;> cases yu <;> simp [hka]
                exact ⟨by rw [lazB_t hb1 hlen (by omega), lzOk_bad hk2 hbad], G⟩
              · -- g4F
                first | with_reducible (replace hb6 := nb_nt hb6) | with_reducible (replace hb6 := nb_nf hb6) | with_reducible (replace hb6 := nb_tt hb6) | with_reducible (replace hb6 := nb_tf hb6) | with_reducible (replace hb6 := nb_bt hb6) | with_reducible (replace hb6 := nb_bf hb6) | skip
                refine S_on rfl rfl ?_
                refine S_val (Y_field Try.underlying35 rfl fz35_1 (by decide) rfl) ?_
                refine S_on rfl rfl ?_
                refine S_val (Y_load Try.underlying26 rfl rfl (by first | assumption | exact B1.at (by rfl) | exact B4.at (by rfl) | exact cc2.at (by rfl))) ?_  -- l12
                refine S_on rfl rfl ?_
                refine S_val (Y_move rfl) ?_
                refine S_on rfl rfl ?_
                refine S_val (Y_index Try.underlying26 sz4 rfl rfl (by first | assumption | omega)) ?_
                refine S_on rfl rfl ?_
                refine S_val (Y_load Try.underlying4 rfl rfl (by first | assumption | exact B1.at (by rfl) | exact B4.at (by rfl) | exact cc2.at (by rfl))) ?_  -- l13
                refine S_on rfl rfl ?_
                refine S_val (Y_move rfl) ?_
                refine S_g 59 rfl (fun hb7 => ?_) (fun hb7 => ?_)  -- g5
                · -- g5T
                  first | with_reducible (replace hb7 := nb_nt hb7) | with_reducible (replace hb7 := nb_nf hb7) | with_reducible (replace hb7 := nb_tt hb7) | with_reducible (replace hb7 := nb_tf hb7) | with_reducible (replace hb7 := nb_bt hb7) | with_reducible (replace hb7 := nb_bf hb7) | skip
                  refine S_on rfl rfl ?_
                  refine S_val (Y_field Try.underlying35 rfl fz35_0 (by decide) rfl) ?_
                  refine S_on rfl rfl ?_
                  refine S_val (Y_field Try.underlying33 rfl fz33_0 (by decide) rfl) ?_
                  refine S_on rfl rfl ?_
                  refine S_val (Y_load Try.underlying31 rfl rfl (by first | assumption | exact B1.at (by rfl) | exact B4.at (by rfl) | exact cc2.at (by rfl))) ?_  -- l14
                  refine S_on rfl rfl ?_
                  refine S_val (Y_move rfl) ?_
                  refine S_on rfl rfl ?_
                  refine S_val (Y_index Try.underlying31 sz80 rfl rfl (by first | assumption | omega)) ?_
                  refine S_on rfl rfl ?_
                  refine S_val (Y_field Try.underlying80 rfl fz80_0 (by decide) rfl) ?_
                  refine S_on rfl rfl ?_
                  refine S_val (Y_load Try.underlying4 rfl rfl (by first | assumption | exact B1.at (by rfl) | exact B4.at (by rfl) | exact cc2.at (by rfl))) ?_  -- l15
                  refine S_on rfl rfl ?_
                  refine S_val (Y_not rfl) ?_
                  refine S_on rfl rfl ?_
                  refine S_val (Y_pickT rfl rfl) ?_
                  refine S_val (Y_pickF rfl rfl) ?_
                  refine S_val (Y_move rfl) ?_
                  refine S_g 70 rfl (fun hb8 => ?_) (fun hb8 => ?_)  -- g6
                  · -- g6T
                    first | with_reducible (replace hb8 := nb_nt hb8) | with_reducible (replace hb8 := nb_nf hb8) | with_reducible (replace hb8 := nb_tt hb8) | with_reducible (replace hb8 := nb_tf hb8) | with_reducible (replace hb8 := nb_bt hb8) | with_reducible (replace hb8 := nb_bf hb8) | skip
                    refine S_off rfl rfl ?_
                    refine S_off rfl rfl ?_
                    refine S_off rfl rfl ?_
                    refine S_off rfl rfl ?_
                    refine S_off rfl rfl ?_
                    refine S_offU rfl rfl ?_
                    refine S_offU rfl rfl ?_
                    refine S_offU rfl rfl ?_
                    refine S_offU rfl rfl ?_
                    refine S_offU rfl rfl ?_
                    refine S_offU rfl rfl ?_
                    refine S_off rfl rfl ?_
                    refine S_off rfl rfl ?_
                    refine S_offU rfl rfl ?_
                    refine S_offU rfl rfl ?_
                    refine S_offU rfl rfl ?_
                    refine S_offU rfl rfl ?_
                    refine S_offU rfl rfl ?_
                    refine S_offU rfl rfl ?_
                    refine S_offU rfl rfl ?_
                    refine S_off rfl rfl ?_
                    refine S_val (Y_pickT rfl rfl) ?_
                    refine S_nil (L' := (_ :: _ :: _ :: _ :: _ :: _ :: _ :: _ :: _ :: _ :: _ :: _ :: _ :: _ :: _ :: _ :: _ :: _ :: _ :: _ :: _ :: _ :: _ :: _ :: _ :: _ :: _ :: _ :: _ :: _ :: _ :: _ :: _ :: _ :: _ :: _ :: _ :: _ :: _ :: _ :: _ :: _ :: _ :: _ :: _ :: _ :: _ :: _ :: _ :: _ :: _ :: _ :: _ :: _ :: _ :: _ :: _ :: _ :: _ :: _ :: _ :: _ :: _ :: _ :: _ :: _ :: _ :: _ :: _ :: _ :: _ :: _ :: _ :: _ :: _ :: _ :: _ :: _ :: _ :: _ :: _ :: _ :: _ :: _ :: _ :: _ :: _ :: _ :: _ :: _ :: _ :: _ :: _ :: [])) rfl rfl ?_
                    refine th_n ?_
                    refine hK13 _ _ ?_
                    clear hK13 K13
                    refine S_ifT rfl ?_
                    refine wp_seq_k fun K15 hK15 => ?_
                    refine wp_region_lit ?_  -- region 8 l14_lazy.go:21
                    refine S_beg 93 rfl ?_
                    refine S_val (Y_assign rfl) ?_
                    refine S_nil (L' := (_ :: _ :: _ :: _ :: _ :: _ :: _ :: _ :: _ :: _ :: _ :: _ :: _ :: _ :: _ :: _ :: _ :: _ :: _ :: _ :: _ :: _ :: _ :: _ :: _ :: _ :: _ :: _ :: _ :: _ :: _ :: _ :: _ :: _ :: _ :: _ :: _ :: _ :: _ :: _ :: _ :: _ :: _ :: _ :: _ :: _ :: _ :: _ :: _ :: _ :: _ :: _ :: _ :: _ :: _ :: _ :: _ :: _ :: _ :: _ :: _ :: _ :: _ :: _ :: _ :: _ :: _ :: _ :: _ :: _ :: _ :: _ :: _ :: _ :: _ :: _ :: _ :: _ :: _ :: _ :: _ :: _ :: _ :: _ :: _ :: _ :: _ :: _ :: _ :: _ :: _ :: _ :: _ :: [])) rfl rfl ?_
                    refine th_n ?_
                    refine hK15 _ _ ?_
                    clear hK15 K15
                    refine wp_ret ?_
                    refine ib_r ?_
                    refine th_r ?_
                    clear GL5
                    refine th_r ?_
                    refine ib_r ?_
                    refine th_r ?_
                    clear hK12 K12 hK8 K8
                    refine ret_r1 rfl rfl ?_  -- r5
                    have hbad : lzBad h ms a k = true := by
                      unfold lzBad
                      rw [hib, hue]
                      revert hb5 hb6 hb7 hb8
                      generalize ms[k] = ym
                      generalize h.cells[k].used = yu
                      by_cases hka : k < a <;> cases rB h k <;> cases ym <;> cases yu <;> simp [hka]
                    exact ⟨by rw [lazB_t hb1 hlen (by omega), lzOk_bad hk2 hbad], G⟩
                  · -- g6F
                    first | with_reducible (replace hb8 := nb_nt hb8) | with_reducible (replace hb8 := nb_nf hb8) | with_reducible (replace hb8 := nb_tt hb8) | with_reducible (replace hb8 := nb_tf hb8) | with_reducible (replace hb8 := nb_bt hb8) | with_reducible (replace hb8 := nb_bf hb8) | skip
                    refine S_on rfl rfl ?_
                    refine S_val (Y_move rfl) ?_
                    refine S_on rfl rfl ?_
                    refine S_val (Y_field Try.underlying35 rfl fz35_2 (by decide) rfl) ?_
                    refine S_on rfl rfl ?_
                    refine S_val (Y_load Try.underlying3 rfl rfl (by first | assumption | exact B1.at (by rfl) | exact B4.at (by rfl) | exact cc2.at (by rfl))) ?_  -- l16
                    refine S_on rfl rfl ?_
                    refine S_val (Y_lss rfl rfl) ?_
                    refine S_on rfl rfl ?_
                    refine S_val (Y_move rfl) ?_
                    refine S_g 75 rfl (fun hb9 => ?_) (fun hb9 => ?_)  -- g7
                    · -- g7T
                      first | with_reducible (replace hb9 := nb_nt hb9) | with_reducible (replace hb9 := nb_nf hb9) | with_reducible (replace hb9 := nb_tt hb9) | with_reducible (replace hb9 := nb_tf hb9) | with_reducible (replace hb9 := nb_bt hb9) | with_reducible (replace hb9 := nb_bf hb9) | skip
                      refine S_on rfl rfl ?_
                      refine S_val (Y_field Try.underlying35 rfl fz35_1 (by decide) rfl) ?_
                      refine S_on rfl rfl ?_
                      refine S_val (Y_load Try.underlying26 rfl rfl (by first | assumption | exact B1.at (by rfl) | exact B4.at (by rfl) | exact cc2.at (by rfl))) ?_  -- l17
                      refine S_on rfl rfl ?_
                      refine S_val (Y_move rfl) ?_
                      refine S_on rfl rfl ?_
                      refine S_val (Y_index Try.underlying26 sz4 rfl rfl (by first | assumption | omega)) ?_
                      refine S_on rfl rfl ?_
                      refine S_val (Y_load Try.underlying4 rfl rfl (by first | assumption | exact B1.at (by rfl) | exact B4.at (by rfl) | exact cc2.at (by rfl))) ?_  -- l18
                      refine S_on rfl rfl ?_
                      refine S_val (Y_not rfl) ?_
                      refine S_on rfl rfl ?_
                      refine S_val (Y_pickT rfl rfl) ?_
                      refine S_on rfl rfl ?_
                      refine S_val (Y_move rfl) ?_
                      refine S_g 83 rfl (fun hb10 => ?_) (fun hb10 => ?_)  -- g8
                      · -- g8T
                        first | with_reducible (replace hb10 := nb_nt hb10) | with_reducible (replace hb10 := nb_nf hb10) | with_reducible (replace hb10 := nb_tt hb10) | with_reducible (replace hb10 := nb_tf hb10) | with_reducible (replace hb10 := nb_bt hb10) | with_reducible (replace hb10 := nb_bf hb10) | skip
                        refine S_on rfl rfl ?_
                        refine S_val (Y_field Try.underlying35 rfl fz35_0 (by decide) rfl) ?_
                        refine S_on rfl rfl ?_
                        refine S_val (Y_field Try.underlying33 rfl fz33_0 (by decide) rfl) ?_
                        refine S_on rfl rfl ?_
                        refine S_val (Y_load Try.underlying31 rfl rfl (by first | assumption | exact B1.at (by rfl) | exact B4.at (by rfl) | exact cc2.at (by rfl))) ?_  -- l19
                        refine S_on rfl rfl ?_
                        refine S_val (Y_move rfl) ?_
                        refine S_on rfl rfl ?_
                        refine S_val (Y_index Try.underlying31 sz80 rfl rfl (by first | assumption | omega)) ?_
                        refine S_on rfl rfl ?_
                        refine S_val (Y_field Try.underlying80 rfl fz80_0 (by decide) rfl) ?_
                        refine S_on rfl rfl ?_
                        refine S_val (Y_load Try.underlying4 rfl rfl (by first | assumption | exact B1.at (by rfl) | exact B4.at (by rfl) | exact cc2.at (by rfl))) ?_  -- l20
                        refine S_on rfl rfl ?_
                        refine S_val (Y_pickT rfl rfl) ?_
                        refine S_val (Y_pickF rfl rfl) ?_
                        refine S_nil (L' := (_ :: _ :: _ :: _ :: _ :: _ :: _ :: _ :: _ :: _ :: _ :: _ :: _ :: _ :: _ :: _ :: _ :: _ :: _ :: _ :: _ :: _ :: _ :: _ :: _ :: _ :: _ :: _ :: _ :: _ :: _ :: _ :: _ :: _ :: _ :: _ :: _ :: _ :: _ :: _ :: _ :: _ :: _ :: _ :: _ :: _ :: _ :: _ :: _ :: _ :: _ :: _ :: _ :: _ :: _ :: _ :: _ :: _ :: _ :: _ :: _ :: _ :: _ :: _ :: _ :: _ :: _ :: _ :: _ :: _ :: _ :: _ :: _ :: _ :: _ :: _ :: _ :: _ :: _ :: _ :: _ :: _ :: _ :: _ :: _ :: _ :: _ :: _ :: _ :: _ :: _ :: _ :: _ :: [])) rfl rfl ?_
                        refine th_n ?_
                        refine hK13 _ _ ?_
                        clear hK13 K13
                        refine S_if rfl (fun hb11 => ?_) (fun hb11 => ?_)  -- c3
                        · -- c3T
                          first | with_reducible (replace hb11 := nb_nt hb11) | with_reducible (replace hb11 := nb_nf hb11) | with_reducible (replace hb11 := nb_tt hb11) | with_reducible (replace hb11 := nb_tf hb11) | with_reducible (replace hb11 := nb_bt hb11) | with_reducible (replace hb11 := nb_bf hb11) | skip
                          refine wp_seq_k fun K16 hK16 => ?_
                          refine wp_region_lit ?_  -- region 8 l14_lazy.go:21
                          refine S_beg 93 rfl ?_
                          refine S_val (Y_assign rfl) ?_
                          refine S_nil (L' := (_ :: _ :: _ :: _ :: _ :: _ :: _ :: _ :: _ :: _ :: _ :: _ :: _ :: _ :: _ :: _ :: _ :: _ :: _ :: _ :: _ :: _ :: _ :: _ :: _ :: _ :: _ :: _ :: _ :: _ :: _ :: _ :: _ :: _ :: _ :: _ :: _ :: _ :: _ :: _ :: _ :: _ :: _ :: _ :: _ :: _ :: _ :: _ :: _ :: _ :: _ :: _ :: _ :: _ :: _ :: _ :: _ :: _ :: _ :: _ :: _ :: _ :: _ :: _ :: _ :: _ :: _ :: _ :: _ :: _ :: _ :: _ :: _ :: _ :: _ :: _ :: _ :: _ :: _ :: _ :: _ :: _ :: _ :: _ :: _ :: _ :: _ :: _ :: _ :: _ :: _ :: _ :: _ :: [])) rfl rfl ?_
                          refine th_n ?_
                          refine hK16 _ _ ?_
                          clear hK16 K16
                          refine wp_ret ?_
                          refine ib_r ?_
                          refine th_r ?_
                          clear GL5
                          refine th_r ?_
                          refine ib_r ?_
                          refine th_r ?_
                          clear hK12 K12 hK8 K8
                          refine ret_r1 rfl rfl ?_  -- r6
                          have hbad : lzBad h ms a k = true := by
                            unfold lzBad
                            rw [hib, hue]
                            revert hb5 hb6 hb7 hb8 hb9 hb10 hb11
                            generalize ms[k] = ym
                            generalize h.cells[k].used = yu
                            by_cases hka : k < a <;> cases rB h k <;> cases ym <;> cases yu <;> simp [hka]
                          exact ⟨by rw [lazB_t hb1 hlen (by omega), lzOk_bad hk2 hbad], G⟩
                        · -- c3F
                          first | with_reducible (replace hb11 := nb_nt hb11) | with_reducible (replace hb11 := nb_nf hb11) | with_reducible (replace hb11 := nb_tt hb11) | with_reducible (replace hb11 := nb_tf hb11) | with_reducible (replace hb11 := nb_bt hb11) | with_reducible (replace hb11 := nb_bf hb11) | skip
                          refine wp_skip ?_
                          refine ib_n ?_
                          refine th_n ?_
                          refine hK12 _ _ ?_
                          clear hK12 K12
                          refine wp_region_lit ?_  -- region 6 l14_lazy.go:19
                          refine S_beg 93 rfl ?_
                          refine S_val (Y_move rfl) ?_
                          refine S_val (Y_inc rfl rfl (by omega)) ?_
                          refine S_val (Y_assign rfl) ?_
                          refine S_nil (L' := (_ :: _ :: _ :: _ :: _ :: _ :: _ :: _ :: _ :: _ :: _ :: _ :: _ :: _ :: _ :: _ :: _ :: _ :: _ :: _ :: _ :: _ :: _ :: _ :: _ :: _ :: _ :: _ :: _ :: _ :: _ :: _ :: _ :: _ :: _ :: _ :: _ :: _ :: _ :: _ :: _ :: _ :: _ :: _ :: _ :: _ :: _ :: _ :: _ :: _ :: _ :: _ :: _ :: _ :: _ :: _ :: _ :: _ :: _ :: _ :: _ :: _ :: _ :: _ :: _ :: _ :: _ :: _ :: _ :: _ :: _ :: _ :: _ :: _ :: _ :: _ :: _ :: _ :: _ :: _ :: _ :: _ :: _ :: _ :: _ :: _ :: _ :: _ :: _ :: _ :: _ :: _ :: _ :: [])) rfl rfl ?_
                          refine th_n ?_
                          go_roundw  -- e1 of L1
                          case rel =>
                            refine ⟨?_, GL5⟩
                            have hbad : lzBad h ms a k = false := by
                              unfold lzBad
                              rw [hib, hue]
                              revert hb5 hb6 hb7 hb8 hb9 hb10 hb11
                              generalize ms[k] = ym
                              generalize h.cells[k].used = yu
                              by_cases hka : k < a <;> cases rB h k <;> cases ym <;> cases yu <;> simp [hka]
                            exact ⟨k + 1, rfl, by omega, by rw [lzOk_succ, hok, hbad]; rfl⟩
                          case measure =>
                            exact dec_nat (by omega)
                      · -- g8F
                        first | with_reducible (replace hb10 := nb_nt hb10) | with_reducible (replace hb10 := nb_nf hb10) | with_reducible (replace hb10 := nb_tt hb10) | with_reducible (replace hb10 := nb_tf hb10) | with_reducible (replace hb10 := nb_bt hb10) | with_reducible (replace hb10 := nb_bf hb10) | skip
                        refine S_off rfl rfl ?_
                        refine S_off rfl rfl ?_
                        refine S_off rfl rfl ?_
                        refine S_off rfl rfl ?_
                        refine S_off rfl rfl ?_
                        refine S_off rfl rfl ?_
                        refine S_off rfl rfl ?_
                        refine S_on rfl rfl ?_
                        refine S_val (Y_pickF rfl rfl) ?_
                        refine S_val (Y_pickF rfl rfl) ?_
                        refine S_nil (L' := (_ :: _ :: _ :: _ :: _ :: _ :: _ :: _ :: _ :: _ :: _ :: _ :: _ :: _ :: _ :: _ :: _ :: _ :: _ :: _ :: _ :: _ :: _ :: _ :: _ :: _ :: _ :: _ :: _ :: _ :: _ :: _ :: _ :: _ :: _ :: _ :: _ :: _ :: _ :: _ :: _ :: _ :: _ :: _ :: _ :: _ :: _ :: _ :: _ :: _ :: _ :: _ :: _ :: _ :: _ :: _ :: _ :: _ :: _ :: _ :: _ :: _ :: _ :: _ :: _ :: _ :: _ :: _ :: _ :: _ :: _ :: _ :: _ :: _ :: _ :: _ :: _ :: _ :: _ :: _ :: _ :: _ :: _ :: _ :: _ :: _ :: _ :: _ :: _ :: _ :: _ :: _ :: _ :: [])) rfl rfl ?_
                        refine th_n ?_
                        refine hK13 _ _ ?_
                        clear hK13 K13
                        refine S_ifF rfl ?_
                        refine wp_skip ?_
                        refine ib_n ?_
                        refine th_n ?_
                        refine hK12 _ _ ?_
                        clear hK12 K12
                        refine wp_region_lit ?_  -- region 6 l14_lazy.go:19
                        refine S_beg 93 rfl ?_
                        refine S_val (Y_move rfl) ?_
                        refine S_val (Y_inc rfl rfl (by omega)) ?_
                        refine S_val (Y_assign rfl) ?_
                        refine S_nil (L' := (_ :: _ :: _ :: _ :: _ :: _ :: _ :: _ :: _ :: _ :: _ :: _ :: _ :: _ :: _ :: _ :: _ :: _ :: _ :: _ :: _ :: _ :: _ :: _ :: _ :: _ :: _ :: _ :: _ :: _ :: _ :: _ :: _ :: _ :: _ :: _ :: _ :: _ :: _ :: _ :: _ :: _ :: _ :: _ :: _ :: _ :: _ :: _ :: _ :: _ :: _ :: _ :: _ :: _ :: _ :: _ :: _ :: _ :: _ :: _ :: _ :: _ :: _ :: _ :: _ :: _ :: _ :: _ :: _ :: _ :: _ :: _ :: _ :: _ :: _ :: _ :: _ :: _ :: _ :: _ :: _ :: _ :: _ :: _ :: _ :: _ :: _ :: _ :: _ :: _ :: _ :: _ :: _ :: [])) rfl rfl ?_
                        refine th_n ?_
                        go_roundw  -- e2 of L1
                        case rel =>
                          refine ⟨?_, GL5⟩
                          have hbad : lzBad h ms a k = false := by
                            unfold lzBad
                            rw [hib, hue]
                            revert hb5 hb6 hb7 hb8 hb9 hb10
                            generalize ms[k] = ym
                            generalize h.cells[k].used = yu
                            by_cases hka : k < a <;> cases rB h k <;> cases ym <;> cases yu <;> simp [hka]
                          exact ⟨k + 1, rfl, by omega, by rw [lzOk_succ, hok, hbad]; rfl⟩
                        case measure =>
                          exact dec_nat (by omega)
                    · -- g7F
                      first | with_reducible (replace hb9 := nb_nt hb9) | with_reducible (replace hb9 := nb_nf hb9) | with_reducible (replace hb9 := nb_tt hb9) | with_reducible (replace hb9 := nb_tf hb9) | with_reducible (replace hb9 := nb_bt hb9) | with_reducible (replace hb9 := nb_bf hb9) | skip
                      refine S_off rfl rfl ?_
                      refine S_off rfl rfl ?_
                      refine S_off rfl rfl ?_
                      refine S_off rfl rfl ?_
                      refine S_off rfl rfl ?_
                      refine S_off rfl rfl ?_
                      refine S_on rfl rfl ?_
                      refine S_val (Y_pickF rfl rfl) ?_
                      refine S_on rfl rfl ?_
                      refine S_val (Y_move rfl) ?_
                      refine S_off rfl rfl ?_
                      refine S_off rfl rfl ?_
                      refine S_off rfl rfl ?_
                      refine S_off rfl rfl ?_
                      refine S_off rfl rfl ?_
                      refine S_off rfl rfl ?_
                      refine S_off rfl rfl ?_
                      refine S_on rfl rfl ?_
                      refine S_val (Y_pickF rfl rfl) ?_
                      refine S_val (Y_pickF rfl rfl) ?_
                      refine S_nil (L' := (_ :: _ :: _ :: _ :: _ :: _ :: _ :: _ :: _ :: _ :: _ :: _ :: _ :: _ :: _ :: _ :: _ :: _ :: _ :: _ :: _ :: _ :: _ :: _ :: _ :: _ :: _ :: _ :: _ :: _ :: _ :: _ :: _ :: _ :: _ :: _ :: _ :: _ :: _ :: _ :: _ :: _ :: _ :: _ :: _ :: _ :: _ :: _ :: _ :: _ :: _ :: _ :: _ :: _ :: _ :: _ :: _ :: _ :: _ :: _ :: _ :: _ :: _ :: _ :: _ :: _ :: _ :: _ :: _ :: _ :: _ :: _ :: _ :: _ :: _ :: _ :: _ :: _ :: _ :: _ :: _ :: _ :: _ :: _ :: _ :: _ :: _ :: _ :: _ :: _ :: _ :: _ :: _ :: [])) rfl rfl ?_
                      refine th_n ?_
                      refine hK13 _ _ ?_
                      clear hK13 K13
                      refine S_ifF rfl ?_
                      refine wp_skip ?_
                      refine ib_n ?_
                      refine th_n ?_
                      refine hK12 _ _ ?_
                      clear hK12 K12
                      refine wp_region_lit ?_  -- region 6 l14_lazy.go:19
                      refine S_beg 93 rfl ?_
                      refine S_val (Y_move rfl) ?_
                      refine S_val (Y_inc rfl rfl (by omega)) ?_
                      refine S_val (Y_assign rfl) ?_
                      refine S_nil (L' := (_ :: _ :: _ :: _ :: _ :: _ :: _ :: _ :: _ :: _ :: _ :: _ :: _ :: _ :: _ :: _ :: _ :: _ :: _ :: _ :: _ :: _ :: _ :: _ :: _ :: _ :: _ :: _ :: _ :: _ :: _ :: _ :: _ :: _ :: _ :: _ :: _ :: _ :: _ :: _ :: _ :: _ :: _ :: _ :: _ :: _ :: _ :: _ :: _ :: _ :: _ :: _ :: _ :: _ :: _ :: _ :: _ :: _ :: _ :: _ :: _ :: _ :: _ :: _ :: _ :: _ :: _ :: _ :: _ :: _ :: _ :: _ :: _ :: _ :: _ :: _ :: _ :: _ :: _ :: _ :: _ :: _ :: _ :: _ :: _ :: _ :: _ :: _ :: _ :: _ :: _ :: _ :: _ :: [])) rfl rfl ?_
                      refine th_n ?_
                      go_roundw  -- e3 of L1
                      case rel =>
                        refine ⟨?_, GL5⟩
                        have hbad : lzBad h ms a k = false := by
                          unfold lzBad
                          rw [hib, hue]
                          revert hb5 hb6 hb7 hb8 hb9
                          generalize ms[k] = ym
                          generalize h.cells[k].used = yu
                          by_cases hka : k < a <;> cases rB h k <;> cases ym <;> cases yu <;> simp [hka]
                        exact ⟨k + 1, rfl, by omega, by rw [lzOk_succ, hok, hbad]; rfl⟩
                      case measure =>
                        exact dec_nat (by omega)
                · -- g5F
                  first | with_reducible (replace hb7 := nb_nt hb7) | with_reducible (replace hb7 := nb_nf hb7) | with_reducible (replace hb7 := nb_tt hb7) | with_reducible (replace hb7 := nb_tf hb7) | with_reducible (replace hb7 := nb_bt hb7) | with_reducible (replace hb7 := nb_bf hb7) | skip
                  refine S_off rfl rfl ?_
                  refine S_off rfl rfl ?_
                  refine S_off rfl rfl ?_
                  refine S_off rfl rfl ?_
                  refine S_off rfl rfl ?_
                  refine S_off rfl rfl ?_
                  refine S_off rfl rfl ?_
                  refine S_off rfl rfl ?_
                  refine S_on rfl rfl ?_
                  refine S_val (Y_pickF rfl rfl) ?_
                  refine S_val (Y_pickF rfl rfl) ?_
                  refine S_val (Y_move rfl) ?_
                  refine S_on rfl rfl ?_
                  refine S_val (Y_move rfl) ?_
                  refine S_on rfl rfl ?_
                  refine S_val (Y_field Try.underlying35 rfl fz35_2 (by decide) rfl) ?_
                  refine S_on rfl rfl ?_
                  refine S_val (Y_load Try.underlying3 rfl rfl (by first | assumption | exact B1.at (by rfl) | exact B4.at (by rfl) | exact cc2.at (by rfl))) ?_  -- l21
                  refine S_on rfl rfl ?_
                  refine S_val (Y_lss rfl rfl) ?_
                  refine S_on rfl rfl ?_
                  refine S_val (Y_move rfl) ?_
                  refine S_g 75 rfl (fun hb8 => ?_) (fun hb8 => ?_)  -- g9
                  · -- g9T
                    first | with_reducible (replace hb8 := nb_nt hb8) | with_reducible (replace hb8 := nb_nf hb8) | with_reducible (replace hb8 := nb_tt hb8) | with_reducible (replace hb8 := nb_tf hb8) | with_reducible (replace hb8 := nb_bt hb8) | with_reducible (replace hb8 := nb_bf hb8) | skip
                    refine S_on rfl rfl ?_
                    refine S_val (Y_field Try.underlying35 rfl fz35_1 (by decide) rfl) ?_
                    refine S_on rfl rfl ?_
                    refine S_val (Y_load Try.underlying26 rfl rfl (by first | assumption | exact B1.at (by rfl) | exact B4.at (by rfl) | exact cc2.at (by rfl))) ?_  -- l22
                    refine S_on rfl rfl ?_
                    refine S_val (Y_move rfl) ?_
                    refine S_on rfl rfl ?_
                    refine S_val (Y_index Try.underlying26 sz4 rfl rfl (by first | assumption | omega)) ?_
                    refine S_on rfl rfl ?_
                    refine S_val (Y_load Try.underlying4 rfl rfl (by first | assumption | exact B1.at (by rfl) | exact B4.at (by rfl) | exact cc2.at (by rfl))) ?_  -- l23
                    refine S_on rfl rfl ?_
                    refine S_val (Y_not rfl) ?_
                    refine S_on rfl rfl ?_
                    refine S_val (Y_pickT rfl rfl) ?_
                    refine S_on rfl rfl ?_
                    refine S_val (Y_move rfl) ?_
                    refine S_g 83 rfl (fun hb9 => ?_) (fun hb9 => ?_)  -- g10
                    · -- g10T
                      first | with_reducible (replace hb9 := nb_nt hb9) | with_reducible (replace hb9 := nb_nf hb9) | with_reducible (replace hb9 := nb_tt hb9) | with_reducible (replace hb9 := nb_tf hb9) | with_reducible (replace hb9 := nb_bt hb9) | with_reducible (replace hb9 := nb_bf hb9) | skip
                      refine S_on rfl rfl ?_
                      refine S_val (Y_field Try.underlying35 rfl fz35_0 (by decide) rfl) ?_
                      refine S_on rfl rfl ?_
                      refine S_val (Y_field Try.underlying33 rfl fz33_0 (by decide) rfl) ?_
                      refine S_on rfl rfl ?_
                      refine S_val (Y_load Try.underlying31 rfl rfl (by first | assumption | exact B1.at (by rfl) | exact B4.at (by rfl) | exact cc2.at (by rfl))) ?_  -- l24
                      refine S_on rfl rfl ?_
                      refine S_val (Y_move rfl) ?_
                      refine S_on rfl rfl ?_
                      refine S_val (Y_index Try.underlying31 sz80 rfl rfl (by first | assumption | omega)) ?_
                      refine S_on rfl rfl ?_
                      refine S_val (Y_field Try.underlying80 rfl fz80_0 (by decide) rfl) ?_
                      refine S_on rfl rfl ?_
                      refine S_val (Y_load Try.underlying4 rfl rfl (by first | assumption | exact B1.at (by rfl) | exact B4.at (by rfl) | exact cc2.at (by rfl))) ?_  -- l25
                      refine S_on rfl rfl ?_
                      refine S_val (Y_pickT rfl rfl) ?_
                      refine S_val (Y_pickF rfl rfl) ?_
                      refine S_nil (L' := (_ :: _ :: _ :: _ :: _ :: _ :: _ :: _ :: _ :: _ :: _ :: _ :: _ :: _ :: _ :: _ :: _ :: _ :: _ :: _ :: _ :: _ :: _ :: _ :: _ :: _ :: _ :: _ :: _ :: _ :: _ :: _ :: _ :: _ :: _ :: _ :: _ :: _ :: _ :: _ :: _ :: _ :: _ :: _ :: _ :: _ :: _ :: _ :: _ :: _ :: _ :: _ :: _ :: _ :: _ :: _ :: _ :: _ :: _ :: _ :: _ :: _ :: _ :: _ :: _ :: _ :: _ :: _ :: _ :: _ :: _ :: _ :: _ :: _ :: _ :: _ :: _ :: _ :: _ :: _ :: _ :: _ :: _ :: _ :: _ :: _ :: _ :: _ :: _ :: _ :: _ :: _ :: _ :: [])) rfl rfl ?_
                      refine th_n ?_
                      refine hK13 _ _ ?_
                      clear hK13 K13
                      refine S_if rfl (fun hb10 => ?_) (fun hb10 => ?_)  -- c4
                      · -- c4T
                        first | with_reducible (replace hb10 := nb_nt hb10) | with_reducible (replace hb10 := nb_nf hb10) | with_reducible (replace hb10 := nb_tt hb10) | with_reducible (replace hb10 := nb_tf hb10) | with_reducible (replace hb10 := nb_bt hb10) | with_reducible (replace hb10 := nb_bf hb10) | skip
                        refine wp_seq_k fun K17 hK17 => ?_
                        refine wp_region_lit ?_  -- region 8 l14_lazy.go:21
                        refine S_beg 93 rfl ?_
                        refine S_val (Y_assign rfl) ?_
                        refine S_nil (L' := (_ :: _ :: _ :: _ :: _ :: _ :: _ :: _ :: _ :: _ :: _ :: _ :: _ :: _ :: _ :: _ :: _ :: _ :: _ :: _ :: _ :: _ :: _ :: _ :: _ :: _ :: _ :: _ :: _ :: _ :: _ :: _ :: _ :: _ :: _ :: _ :: _ :: _ :: _ :: _ :: _ :: _ :: _ :: _ :: _ :: _ :: _ :: _ :: _ :: _ :: _ :: _ :: _ :: _ :: _ :: _ :: _ :: _ :: _ :: _ :: _ :: _ :: _ :: _ :: _ :: _ :: _ :: _ :: _ :: _ :: _ :: _ :: _ :: _ :: _ :: _ :: _ :: _ :: _ :: _ :: _ :: _ :: _ :: _ :: _ :: _ :: _ :: _ :: _ :: _ :: _ :: _ :: _ :: [])) rfl rfl ?_
                        refine th_n ?_
                        refine hK17 _ _ ?_
                        clear hK17 K17
                        refine wp_ret ?_
                        refine ib_r ?_
                        refine th_r ?_
                        clear GL5
                        refine th_r ?_
                        refine ib_r ?_
                        refine th_r ?_
                        clear hK12 K12 hK8 K8
                        refine ret_r1 rfl rfl ?_  -- r7
                        have hbad : lzBad h ms a k = true := by
                          unfold lzBad
                          rw [hib, hue]
                          revert hb5 hb6 hb7 hb8 hb9 hb10
                          generalize ms[k] = ym
                          generalize h.cells[k].used = yu
                          by_cases hka : k < a <;> cases rB h k <;> cases ym <;> cases yu <;> simp [hka]
                        exact ⟨by rw [lazB_t hb1 hlen (by omega), lzOk_bad hk2 hbad], G⟩
                      · -- c4F
                        first | with_reducible (replace hb10 := nb_nt hb10) | with_reducible (replace hb10 := nb_nf hb10) | with_reducible (replace hb10 := nb_tt hb10) | with_reducible (replace hb10 := nb_tf hb10) | with_reducible (replace hb10 := nb_bt hb10) | with_reducible (replace hb10 := nb_bf hb10) | skip
                        refine wp_skip ?_
                        refine ib_n ?_
                        refine th_n ?_
                        refine hK12 _ _ ?_
                        clear hK12 K12
                        refine wp_region_lit ?_  -- region 6 l14_lazy.go:19
                        refine S_beg 93 rfl ?_
                        refine S_val (Y_move rfl) ?_
                        refine S_val (Y_inc rfl rfl (by omega)) ?_
                        refine S_val (Y_assign rfl) ?_
                        refine S_nil (L' := (_ :: _ :: _ :: _ :: _ :: _ :: _ :: _ :: _ :: _ :: _ :: _ :: _ :: _ :: _ :: _ :: _ :: _ :: _ :: _ :: _ :: _ :: _ :: _ :: _ :: _ :: _ :: _ :: _ :: _ :: _ :: _ :: _ :: _ :: _ :: _ :: _ :: _ :: _ :: _ :: _ :: _ :: _ :: _ :: _ :: _ :: _ :: _ :: _ :: _ :: _ :: _ :: _ :: _ :: _ :: _ :: _ :: _ :: _ :: _ :: _ :: _ :: _ :: _ :: _ :: _ :: _ :: _ :: _ :: _ :: _ :: _ :: _ :: _ :: _ :: _ :: _ :: _ :: _ :: _ :: _ :: _ :: _ :: _ :: _ :: _ :: _ :: _ :: _ :: _ :: _ :: _ :: _ :: [])) rfl rfl ?_
                        refine th_n ?_
                        go_roundw  -- e4 of L1
                        case rel =>
                          refine ⟨?_, GL5⟩
                          have hbad : lzBad h ms a k = false := by
                            unfold lzBad
                            rw [hib, hue]
                            revert hb5 hb6 hb7 hb8 hb9 hb10
                            generalize ms[k] = ym
                            generalize h.cells[k].used = yu
                            by_cases hka : k < a <;> cases rB h k <;> cases ym <;> cases yu <;> simp [hka]
                          exact ⟨k + 1, rfl, by omega, by rw [lzOk_succ, hok, hbad]; rfl⟩
                        case measure =>
                          exact dec_nat (by omega)
                    · -- g10F
                      first | with_reducible (replace hb9 := nb_nt hb9) | with_reducible (replace hb9 := nb_nf hb9) | with_reducible (replace hb9 := nb_tt hb9) | with_reducible (replace hb9 := nb_tf hb9) | with_reducible (replace hb9 := nb_bt hb9) | with_reducible (replace hb9 := nb_bf hb9) | skip
                      refine S_off rfl rfl ?_
                      refine S_off rfl rfl ?_
                      refine S_off rfl rfl ?_
                      refine S_off rfl rfl ?_
                      refine S_off rfl rfl ?_
                      refine S_off rfl rfl ?_
                      refine S_off rfl rfl ?_
                      refine S_on rfl rfl ?_
                      refine S_val (Y_pickF rfl rfl) ?_
                      refine S_val (Y_pickF rfl rfl) ?_
                      refine S_nil (L' := (_ :: _ :: _ :: _ :: _ :: _ :: _ :: _ :: _ :: _ :: _ :: _ :: _ :: _ :: _ :: _ :: _ :: _ :: _ :: _ :: _ :: _ :: _ :: _ :: _ :: _ :: _ :: _ :: _ :: _ :: _ :: _ :: _ :: _ :: _ :: _ :: _ :: _ :: _ :: _ :: _ :: _ :: _ :: _ :: _ :: _ :: _ :: _ :: _ :: _ :: _ :: _ :: _ :: _ :: _ :: _ :: _ :: _ :: _ :: _ :: _ :: _ :: _ :: _ :: _ :: _ :: _ :: _ :: _ :: _ :: _ :: _ :: _ :: _ :: _ :: _ :: _ :: _ :: _ :: _ :: _ :: _ :: _ :: _ :: _ :: _ :: _ :: _ :: _ :: _ :: _ :: _ :: _ :: [])) rfl rfl ?_
                      refine th_n ?_
                      refine hK13 _ _ ?_
                      clear hK13 K13
                      refine S_ifF rfl ?_
                      refine wp_skip ?_
                      refine ib_n ?_
                      refine th_n ?_
                      refine hK12 _ _ ?_
                      clear hK12 K12
                      refine wp_region_lit ?_  -- region 6 l14_lazy.go:19
                      refine S_beg 93 rfl ?_
                      refine S_val (Y_move rfl) ?_
                      refine S_val (Y_inc rfl rfl (by omega)) ?_
                      refine S_val (Y_assign rfl) ?_
                      refine S_nil (L' := (_ :: _ :: _ :: _ :: _ :: _ :: _ :: _ :: _ :: _ :: _ :: _ :: _ :: _ :: _ :: _ :: _ :: _ :: _ :: _ :: _ :: _ :: _ :: _ :: _ :: _ :: _ :: _ :: _ :: _ :: _ :: _ :: _ :: _ :: _ :: _ :: _ :: _ :: _ :: _ :: _ :: _ :: _ :: _ :: _ :: _ :: _ :: _ :: _ :: _ :: _ :: _ :: _ :: _ :: _ :: _ :: _ :: _ :: _ :: _ :: _ :: _ :: _ :: _ :: _ :: _ :: _ :: _ :: _ :: _ :: _ :: _ :: _ :: _ :: _ :: _ :: _ :: _ :: _ :: _ :: _ :: _ :: _ :: _ :: _ :: _ :: _ :: _ :: _ :: _ :: _ :: _ :: _ :: [])) rfl rfl ?_
                      refine th_n ?_
                      go_roundw  -- e5 of L1
                      case rel =>
                        refine ⟨?_, GL5⟩
                        have hbad : lzBad h ms a k = false := by
                          unfold lzBad
                          rw [hib, hue]
                          revert hb5 hb6 hb7 hb8 hb9
                          generalize ms[k] = ym
                          generalize h.cells[k].used = yu
                          by_cases hka : k < a <;> cases rB h k <;> cases ym <;> cases yu <;> simp [hka]
                        exact ⟨k + 1, rfl, by omega, by rw [lzOk_succ, hok, hbad]; rfl⟩
                      case measure =>
                        exact dec_nat (by omega)
                  · -- g9F
                    first | with_reducible (replace hb8 := nb_nt hb8) | with_reducible (replace hb8 := nb_nf hb8) | with_reducible (replace hb8 := nb_tt hb8) | with_reducible (replace hb8 := nb_tf hb8) | with_reducible (replace hb8 := nb_bt hb8) | with_reducible (replace hb8 := nb_bf hb8) | skip
                    refine S_off rfl rfl ?_
                    refine S_off rfl rfl ?_
                    refine S_off rfl rfl ?_
                    refine S_off rfl rfl ?_
                    refine S_off rfl rfl ?_
                    refine S_off rfl rfl ?_
                    refine S_on rfl rfl ?_
                    refine S_val (Y_pickF rfl rfl) ?_
                    refine S_on rfl rfl ?_
                    refine S_val (Y_move rfl) ?_
                    refine S_off rfl rfl ?_
                    refine S_off rfl rfl ?_
                    refine S_off rfl rfl ?_
                    refine S_off rfl rfl ?_
                    refine S_off rfl rfl ?_
                    refine S_off rfl rfl ?_
                    refine S_off rfl rfl ?_
                    refine S_on rfl rfl ?_
                    refine S_val (Y_pickF rfl rfl) ?_
                    refine S_val (Y_pickF rfl rfl) ?_
                    refine S_nil (L' := (_ :: _ :: _ :: _ :: _ :: _ :: _ :: _ :: _ :: _ :: _ :: _ :: _ :: _ :: _ :: _ :: _ :: _ :: _ :: _ :: _ :: _ :: _ :: _ :: _ :: _ :: _ :: _ :: _ :: _ :: _ :: _ :: _ :: _ :: _ :: _ :: _ :: _ :: _ :: _ :: _ :: _ :: _ :: _ :: _ :: _ :: _ :: _ :: _ :: _ :: _ :: _ :: _ :: _ :: _ :: _ :: _ :: _ :: _ :: _ :: _ :: _ :: _ :: _ :: _ :: _ :: _ :: _ :: _ :: _ :: _ :: _ :: _ :: _ :: _ :: _ :: _ :: _ :: _ :: _ :: _ :: _ :: _ :: _ :: _ :: _ :: _ :: _ :: _ :: _ :: _ :: _ :: _ :: [])) rfl rfl ?_
                    refine th_n ?_
                    refine hK13 _ _ ?_
                    clear hK13 K13
                    refine S_ifF rfl ?_
                    refine wp_skip ?_
                    refine ib_n ?_
                    refine th_n ?_
                    refine hK12 _ _ ?_
                    clear hK12 K12
                    refine wp_region_lit ?_  -- region 6 l14_lazy.go:19
                    refine S_beg 93 rfl ?_
                    refine S_val (Y_move rfl) ?_
                    refine S_val (Y_inc rfl rfl (by omega)) ?_
                    refine S_val (Y_assign rfl) ?_
                    refine S_nil (L' := (_ :: _ :: _ :: _ :: _ :: _ :: _ :: _ :: _ :: _ :: _ :: _ :: _ :: _ :: _ :: _ :: _ :: _ :: _ :: _ :: _ :: _ :: _ :: _ :: _ :: _ :: _ :: _ :: _ :: _ :: _ :: _ :: _ :: _ :: _ :: _ :: _ :: _ :: _ :: _ :: _ :: _ :: _ :: _ :: _ :: _ :: _ :: _ :: _ :: _ :: _ :: _ :: _ :: _ :: _ :: _ :: _ :: _ :: _ :: _ :: _ :: _ :: _ :: _ :: _ :: _ :: _ :: _ :: _ :: _ :: _ :: _ :: _ :: _ :: _ :: _ :: _ :: _ :: _ :: _ :: _ :: _ :: _ :: _ :: _ :: _ :: _ :: _ :: _ :: _ :: _ :: _ :: _ :: [])) rfl rfl ?_
                    refine th_n ?_
                    go_roundw  -- e6 of L1
                    case rel =>
                      refine ⟨?_, GL5⟩
                      have hbad : lzBad h ms a k = false := by
                        unfold lzBad
                        rw [hib, hue]
                        revert hb5 hb6 hb7 hb8
                        generalize ms[k] = ym
                        generalize h.cells[k].used = yu
                        by_cases hka : k < a <;> cases rB h k <;> cases ym <;> cases yu <;> simp [hka]
                      exact ⟨k + 1, rfl, by omega, by rw [lzOk_succ, hok, hbad]; rfl⟩
                    case measure =>
                      exact dec_nat (by omega)
            · -- g3F
              first | with_reducible (replace hb5 := nb_nt hb5) | with_reducible (replace hb5 := nb_nf hb5) | with_reducible (replace hb5 := nb_tt hb5) | with_reducible (replace hb5 := nb_tf hb5) | with_reducible (replace hb5 := nb_bt hb5) | with_reducible (replace hb5 := nb_bf hb5) | skip
              refine S_off rfl rfl ?_
              refine S_off rfl rfl ?_
              refine S_off rfl rfl ?_
              refine S_off rfl rfl ?_
              refine S_off rfl rfl ?_
              refine S_off rfl rfl ?_
              refine S_val (Y_pickF rfl rfl) ?_
              refine S_val (Y_move rfl) ?_
              refine S_on rfl rfl ?_
              refine S_val (Y_field Try.underlying35 rfl fz35_1 (by decide) rfl) ?_
              refine S_on rfl rfl ?_
              refine S_val (Y_load Try.underlying26 rfl rfl (by first | assumption | exact B1.at (by rfl) | exact B4.at (by rfl) | exact cc2.at (by rfl))) ?_  -- l26
              refine S_on rfl rfl ?_
              refine S_val (Y_move rfl) ?_
              refine S_on rfl rfl ?_
              refine S_val (Y_index Try.underlying26 sz4 rfl rfl (by first | assumption | omega)) ?_
              refine S_on rfl rfl ?_
              refine S_val (Y_load Try.underlying4 rfl rfl (by first | assumption | exact B1.at (by rfl) | exact B4.at (by rfl) | exact cc2.at (by rfl))) ?_  -- l27
              refine S_on rfl rfl ?_
              refine S_val (Y_move rfl) ?_
              refine S_g 59 rfl (fun hb6 => ?_) (fun hb6 => ?_)  -- g11
              · -- g11T
                first | with_reducible (replace hb6 := nb_nt hb6) | with_reducible (replace hb6 := nb_nf hb6) | with_reducible (replace hb6 := nb_tt hb6) | with_reducible (replace hb6 := nb_tf hb6) | with_reducible (replace hb6 := nb_bt hb6) | with_reducible (replace hb6 := nb_bf hb6) | skip
                refine S_on rfl rfl ?_
                refine S_val (Y_field Try.underlying35 rfl fz35_0 (by decide) rfl) ?_
                refine S_on rfl rfl ?_
                refine S_val (Y_field Try.underlying33 rfl fz33_0 (by decide) rfl) ?_
                refine S_on rfl rfl ?_
                refine S_val (Y_load Try.underlying31 rfl rfl (by first | assumption | exact B1.at (by rfl) | exact B4.at (by rfl) | exact cc2.at (by rfl))) ?_  -- l28
                refine S_on rfl rfl ?_
                refine S_val (Y_move rfl) ?_
                refine S_on rfl rfl ?_
                refine S_val (Y_index Try.underlying31 sz80 rfl rfl (by first | assumption | omega)) ?_
                refine S_on rfl rfl ?_
                refine S_val (Y_field Try.underlying80 rfl fz80_0 (by decide) rfl) ?_
                refine S_on rfl rfl ?_
                refine S_val (Y_load Try.underlying4 rfl rfl (by first | assumption | exact B1.at (by rfl) | exact B4.at (by rfl) | exact cc2.at (by rfl))) ?_  -- l29
                refine S_on rfl rfl ?_
                refine S_val (Y_not rfl) ?_
                refine S_on rfl rfl ?_
                refine S_val (Y_pickT rfl rfl) ?_
                refine S_val (Y_pickF rfl rfl) ?_
                refine S_val (Y_move rfl) ?_
                refine S_g 70 rfl (fun hb7 => ?_) (fun hb7 => ?_)  -- g12
                · -- g12T
                  first | with_reducible (replace hb7 := nb_nt hb7) | with_reducible (replace hb7 := nb_nf hb7) | with_reducible (replace hb7 := nb_tt hb7) | with_reducible (replace hb7 := nb_tf hb7) | with_reducible (replace hb7 := nb_bt hb7) | with_reducible (replace hb7 := nb_bf hb7) | skip
                  refine S_off rfl rfl ?_
                  refine S_off rfl rfl ?_
                  refine S_off rfl rfl ?_
                  refine S_off rfl rfl ?_
                  refine S_off rfl rfl ?_
                  refine S_offU rfl rfl ?_
                  refine S_offU rfl rfl ?_
                  refine S_offU rfl rfl ?_
                  refine S_offU rfl rfl ?_
                  refine S_offU rfl rfl ?_
                  refine S_offU rfl rfl ?_
                  refine S_off rfl rfl ?_
                  refine S_off rfl rfl ?_
                  refine S_offU rfl rfl ?_
                  refine S_offU rfl rfl ?_
                  refine S_offU rfl rfl ?_
                  refine S_offU rfl rfl ?_
                  refine S_offU rfl rfl ?_
                  refine S_offU rfl rfl ?_
                  refine S_offU rfl rfl ?_
                  refine S_off rfl rfl ?_
                  refine S_val (Y_pickT rfl rfl) ?_
                  refine S_nil (L' := (_ :: _ :: _ :: _ :: _ :: _ :: _ :: _ :: _ :: _ :: _ :: _ :: _ :: _ :: _ :: _ :: _ :: _ :: _ :: _ :: _ :: _ :: _ :: _ :: _ :: _ :: _ :: _ :: _ :: _ :: _ :: _ :: _ :: _ :: _ :: _ :: _ :: _ :: _ :: _ :: _ :: _ :: _ :: _ :: _ :: _ :: _ :: _ :: _ :: _ :: _ :: _ :: _ :: _ :: _ :: _ :: _ :: _ :: _ :: _ :: _ :: _ :: _ :: _ :: _ :: _ :: _ :: _ :: _ :: _ :: _ :: _ :: _ :: _ :: _ :: _ :: _ :: _ :: _ :: _ :: _ :: _ :: _ :: _ :: _ :: _ :: _ :: _ :: _ :: _ :: _ :: _ :: _ :: [])) rfl rfl ?_
                  refine th_n ?_
                  refine hK13 _ _ ?_
                  clear hK13 K13
                  refine S_ifT rfl ?_
                  refine wp_seq_k fun K18 hK18 => ?_
                  refine wp_region_lit ?_  -- region 8 l14_lazy.go:21
                  refine S_beg 93 rfl ?_
                  refine S_val (Y_assign rfl) ?_
                  refine S_nil (L' := (_ :: _ :: _ :: _ :: _ :: _ :: _ :: _ :: _ :: _ :: _ :: _ :: _ :: _ :: _ :: _ :: _ :: _ :: _ :: _ :: _ :: _ :: _ :: _ :: _ :: _ :: _ :: _ :: _ :: _ :: _ :: _ :: _ :: _ :: _ :: _ :: _ :: _ :: _ :: _ :: _ :: _ :: _ :: _ :: _ :: _ :: _ :: _ :: _ :: _ :: _ :: _ :: _ :: _ :: _ :: _ :: _ :: _ :: _ :: _ :: _ :: _ :: _ :: _ :: _ :: _ :: _ :: _ :: _ :: _ :: _ :: _ :: _ :: _ :: _ :: _ :: _ :: _ :: _ :: _ :: _ :: _ :: _ :: _ :: _ :: _ :: _ :: _ :: _ :: _ :: _ :: _ :: _ :: [])) rfl rfl ?_
                  refine th_n ?_
                  refine hK18 _ _ ?_
                  clear hK18 K18
                  refine wp_ret ?_
                  refine ib_r ?_
                  refine th_r ?_
                  clear GL5
                  refine th_r ?_
                  refine ib_r ?_
                  refine th_r ?_
                  clear hK12 K12 hK8 K8
                  refine ret_r1 rfl rfl ?_  -- r8
                  have hbad : lzBad h ms a k = true := by
                    unfold lzBad
                    rw [hib, hue]
                    revert hb5 hb6 hb7
                    generalize ms[k] = ym
                    generalize h.cells[k].used = yu
                    by_cases hka : k < a <;> cases rB h k <;> cases ym <;> cases yu <;> simp [hka]
                  exact ⟨by rw [lazB_t hb1 hlen (by omega), lzOk_bad hk2 hbad], G⟩
                · -- g12F
                  first | with_reducible (replace hb7 := nb_nt hb7) | with_reducible (replace hb7 := nb_nf hb7) | with_reducible (replace hb7 := nb_tt hb7) | with_reducible (replace hb7 := nb_tf hb7) | with_reducible (replace hb7 := nb_bt hb7) | with_reducible (replace hb7 := nb_bf hb7) | skip
                  refine S_on rfl rfl ?_
                  refine S_val (Y_move rfl) ?_
                  refine S_on rfl rfl ?_
                  refine S_val (Y_field Try.underlying35 rfl fz35_2 (by decide) rfl) ?_
                  refine S_on rfl rfl ?_
                  refine S_val (Y_load Try.underlying3 rfl rfl (by first | assumption | exact B1.at (by rfl) | exact B4.at (by rfl) | exact cc2.at (by rfl))) ?_  -- l30
                  refine S_on rfl rfl ?_
                  refine S_val (Y_lss rfl rfl) ?_
                  refine S_on rfl rfl ?_
                  refine S_val (Y_move rfl) ?_
                  refine S_g 75 rfl (fun hb8 => ?_) (fun hb8 => ?_)  -- g13
                  · -- g13T
                    first | with_reducible (replace hb8 := nb_nt hb8) | with_reducible (replace hb8 := nb_nf hb8) | with_reducible (replace hb8 := nb_tt hb8) | with_reducible (replace hb8 := nb_tf hb8) | with_reducible (replace hb8 := nb_bt hb8) | with_reducible (replace hb8 := nb_bf hb8) | skip
                    refine S_on rfl rfl ?_
                    refine S_val (Y_field Try.underlying35 rfl fz35_1 (by decide) rfl) ?_
                    refine S_on rfl rfl ?_
                    refine S_val (Y_load Try.underlying26 rfl rfl (by first | assumption | exact B1.at (by rfl) | exact B4.at (by rfl) | exact cc2.at (by rfl))) ?_  -- l31
                    refine S_on rfl rfl ?_
                    refine S_val (Y_move rfl) ?_
                    refine S_on rfl rfl ?_
                    refine S_val (Y_index Try.underlying26 sz4 rfl rfl (by first | assumption | omega)) ?_
                    refine S_on rfl rfl ?_
                    refine S_val (Y_load Try.underlying4 rfl rfl (by first | assumption | exact B1.at (by rfl) | exact B4.at (by rfl) | exact cc2.at (by rfl))) ?_  -- l32
                    refine S_on rfl rfl ?_
                    refine S_val (Y_not rfl) ?_
                    refine S_on rfl rfl ?_
                    refine S_val (Y_pickT rfl rfl) ?_
                    refine S_on rfl rfl ?_
                    refine S_val (Y_move rfl) ?_
                    refine S_g 83 rfl (fun hb9 => ?_) (fun hb9 => ?_)  -- g14
                    · -- g14T
                      first | with_reducible (replace hb9 := nb_nt hb9) | with_reducible (replace hb9 := nb_nf hb9) | with_reducible (replace hb9 := nb_tt hb9) | with_reducible (replace hb9 := nb_tf hb9) | with_reducible (replace hb9 := nb_bt hb9) | with_reducible (replace hb9 := nb_bf hb9) | skip
                      refine S_on rfl rfl ?_
                      refine S_val (Y_field Try.underlying35 rfl fz35_0 (by decide) rfl) ?_
                      refine S_on rfl rfl ?_
                      refine S_val (Y_field Try.underlying33 rfl fz33_0 (by decide) rfl) ?_
                      refine S_on rfl rfl ?_
                      refine S_val (Y_load Try.underlying31 rfl rfl (by first | assumption | exact B1.at (by rfl) | exact B4.at (by rfl) | exact cc2.at (by rfl))) ?_  -- l33
                      refine S_on rfl rfl ?_
                      refine S_val (Y_move rfl) ?_
                      refine S_on rfl rfl ?_
                      refine S_val (Y_index Try.underlying31 sz80 rfl rfl (by first | assumption | omega)) ?_
                      refine S_on rfl rfl ?_
                      refine S_val (Y_field Try.underlying80 rfl fz80_0 (by decide) rfl) ?_
                      refine S_on rfl rfl ?_
                      refine S_val (Y_load Try.underlying4 rfl rfl (by first | assumption | exact B1.at (by rfl) | exact B4.at (by rfl) | exact cc2.at (by rfl))) ?_  -- l34
                      refine S_on rfl rfl ?_
                      refine S_val (Y_pickT rfl rfl) ?_
                      refine S_val (Y_pickF rfl rfl) ?_
                      refine S_nil (L' := (_ :: _ :: _ :: _ :: _ :: _ :: _ :: _ :: _ :: _ :: _ :: _ :: _ :: _ :: _ :: _ :: _ :: _ :: _ :: _ :: _ :: _ :: _ :: _ :: _ :: _ :: _ :: _ :: _ :: _ :: _ :: _ :: _ :: _ :: _ :: _ :: _ :: _ :: _ :: _ :: _ :: _ :: _ :: _ :: _ :: _ :: _ :: _ :: _ :: _ :: _ :: _ :: _ :: _ :: _ :: _ :: _ :: _ :: _ :: _ :: _ :: _ :: _ :: _ :: _ :: _ :: _ :: _ :: _ :: _ :: _ :: _ :: _ :: _ :: _ :: _ :: _ :: _ :: _ :: _ :: _ :: _ :: _ :: _ :: _ :: _ :: _ :: _ :: _ :: _ :: _ :: _ :: _ :: [])) rfl rfl ?_
                      refine th_n ?_
                      refine hK13 _ _ ?_
                      clear hK13 K13
                      refine S_if rfl (fun hb10 => ?_) (fun hb10 => ?_)  -- c5
                      · -- c5T
                        first | with_reducible (replace hb10 := nb_nt hb10) | with_reducible (replace hb10 := nb_nf hb10) | with_reducible (replace hb10 := nb_tt hb10) | with_reducible (replace hb10 := nb_tf hb10) | with_reducible (replace hb10 := nb_bt hb10) | with_reducible (replace hb10 := nb_bf hb10) | skip
                        refine wp_seq_k fun K19 hK19 => ?_
                        refine wp_region_lit ?_  -- region 8 l14_lazy.go:21
                        refine S_beg 93 rfl ?_
                        refine S_val (Y_assign rfl) ?_
                        refine S_nil (L' := (_ :: _ :: _ :: _ :: _ :: _ :: _ :: _ :: _ :: _ :: _ :: _ :: _ :: _ :: _ :: _ :: _ :: _ :: _ :: _ :: _ :: _ :: _ :: _ :: _ :: _ :: _ :: _ :: _ :: _ :: _ :: _ :: _ :: _ :: _ :: _ :: _ :: _ :: _ :: _ :: _ :: _ :: _ :: _ :: _ :: _ :: _ :: _ :: _ :: _ :: _ :: _ :: _ :: _ :: _ :: _ :: _ :: _ :: _ :: _ :: _ :: _ :: _ :: _ :: _ :: _ :: _ :: _ :: _ :: _ :: _ :: _ :: _ :: _ :: _ :: _ :: _ :: _ :: _ :: _ :: _ :: _ :: _ :: _ :: _ :: _ :: _ :: _ :: _ :: _ :: _ :: _ :: _ :: [])) rfl rfl ?_
                        refine th_n ?_
                        refine hK19 _ _ ?_
                        clear hK19 K19
                        refine wp_ret ?_
                        refine ib_r ?_
                        refine th_r ?_
                        clear GL5
                        refine th_r ?_
                        refine ib_r ?_
                        refine th_r ?_
                        clear hK12 K12 hK8 K8
                        refine ret_r1 rfl rfl ?_  -- r9
                        have hbad : lzBad h ms a k = true := by
                          unfold lzBad
                          rw [hib, hue]
                          revert hb5 hb6 hb7 hb8 hb9 hb10
                          generalize ms[k] = ym
                          generalize h.cells[k].used = yu
                          by_cases hka : k < a <;> cases rB h k <;> cases ym <;> cases yu <;> simp [hka]
                        exact ⟨by rw [lazB_t hb1 hlen (by omega), lzOk_bad hk2 hbad], G⟩
                      · -- c5F
                        first | with_reducible (replace hb10 := nb_nt hb10) | with_reducible (replace hb10 := nb_nf hb10) | with_reducible (replace hb10 := nb_tt hb10) | with_reducible (replace hb10 := nb_tf hb10) | with_reducible (replace hb10 := nb_bt hb10) | with_reducible (replace hb10 := nb_bf hb10) | skip
                        refine wp_skip ?_
                        refine ib_n ?_
                        refine th_n ?_
                        refine hK12 _ _ ?_
                        clear hK12 K12
                        refine wp_region_lit ?_  -- region 6 l14_lazy.go:19
                        refine S_beg 93 rfl ?_
                        refine S_val (Y_move rfl) ?_
                        refine S_val (Y_inc rfl rfl (by omega)) ?_
                        refine S_val (Y_assign rfl) ?_
                        refine S_nil (L' := (_ :: _ :: _ :: _ :: _ :: _ :: _ :: _ :: _ :: _ :: _ :: _ :: _ :: _ :: _ :: _ :: _ :: _ :: _ :: _ :: _ :: _ :: _ :: _ :: _ :: _ :: _ :: _ :: _ :: _ :: _ :: _ :: _ :: _ :: _ :: _ :: _ :: _ :: _ :: _ :: _ :: _ :: _ :: _ :: _ :: _ :: _ :: _ :: _ :: _ :: _ :: _ :: _ :: _ :: _ :: _ :: _ :: _ :: _ :: _ :: _ :: _ :: _ :: _ :: _ :: _ :: _ :: _ :: _ :: _ :: _ :: _ :: _ :: _ :: _ :: _ :: _ :: _ :: _ :: _ :: _ :: _ :: _ :: _ :: _ :: _ :: _ :: _ :: _ :: _ :: _ :: _ :: _ :: [])) rfl rfl ?_
                        refine th_n ?_
                        go_roundw  -- e7 of L1
                        case rel =>
                          refine ⟨?_, GL5⟩
                          have hbad : lzBad h ms a k = false := by
                            unfold lzBad
                            rw [hib, hue]
                            revert hb5 hb6 hb7 hb8 hb9 hb10
                            generalize ms[k] = ym
                            generalize h.cells[k].used = yu
                            by_cases hka : k < a <;> cases rB h k <;> cases ym <;> cases yu <;> simp [hka]
                          exact ⟨k + 1, rfl, by omega, by rw [lzOk_succ, hok, hbad]; rfl⟩
                        case measure =>
                          exact dec_nat (by omega)
                    · -- g14F
                      first | with_reducible (replace hb9 := nb_nt hb9) | with_reducible (replace hb9 := nb_nf hb9) | with_reducible (replace hb9 := nb_tt hb9) | with_reducible (replace hb9 := nb_tf hb9) | with_reducible (replace hb9 := nb_bt hb9) | with_reducible (replace hb9 := nb_bf hb9) | skip
                      refine S_off rfl rfl ?_
                      refine S_off rfl rfl ?_
                      refine S_off rfl rfl ?_
                      refine S_off rfl rfl ?_
                      refine S_off rfl rfl ?_
                      refine S_off rfl rfl ?_
                      refine S_off rfl rfl ?_
                      refine S_on rfl rfl ?_
                      refine S_val (Y_pickF rfl rfl) ?_
                      refine S_val (Y_pickF rfl rfl) ?_
                      refine S_nil (L' := (_ :: _ :: _ :: _ :: _ :: _ :: _ :: _ :: _ :: _ :: _ :: _ :: _ :: _ :: _ :: _ :: _ :: _ :: _ :: _ :: _ :: _ :: _ :: _ :: _ :: _ :: _ :: _ :: _ :: _ :: _ :: _ :: _ :: _ :: _ :: _ :: _ :: _ :: _ :: _ :: _ :: _ :: _ :: _ :: _ :: _ :: _ :: _ :: _ :: _ :: _ :: _ :: _ :: _ :: _ :: _ :: _ :: _ :: _ :: _ :: _ :: _ :: _ :: _ :: _ :: _ :: _ :: _ :: _ :: _ :: _ :: _ :: _ :: _ :: _ :: _ :: _ :: _ :: _ :: _ :: _ :: _ :: _ :: _ :: _ :: _ :: _ :: _ :: _ :: _ :: _ :: _ :: _ :: [])) rfl rfl ?_
                      refine th_n ?_
                      refine hK13 _ _ ?_
                      clear hK13 K13
                      refine S_ifF rfl ?_
                      refine wp_skip ?_
                      refine ib_n ?_
                      refine th_n ?_
                      refine hK12 _ _ ?_
                      clear hK12 K12
                      refine wp_region_lit ?_  -- region 6 l14_lazy.go:19
                      refine S_beg 93 rfl ?_
                      refine S_val (Y_move rfl) ?_
                      refine S_val (Y_inc rfl rfl (by omega)) ?_
                      refine S_val (Y_assign rfl) ?_
                      refine S_nil (L' := (_ :: _ :: _ :: _ :: _ :: _ :: _ :: _ :: _ :: _ :: _ :: _ :: _ :: _ :: _ :: _ :: _ :: _ :: _ :: _ :: _ :: _ :: _ :: _ :: _ :: _ :: _ :: _ :: _ :: _ :: _ :: _ :: _ :: _ :: _ :: _ :: _ :: _ :: _ :: _ :: _ :: _ :: _ :: _ :: _ :: _ :: _ :: _ :: _ :: _ :: _ :: _ :: _ :: _ :: _ :: _ :: _ :: _ :: _ :: _ :: _ :: _ :: _ :: _ :: _ :: _ :: _ :: _ :: _ :: _ :: _ :: _ :: _ :: _ :: _ :: _ :: _ :: _ :: _ :: _ :: _ :: _ :: _ :: _ :: _ :: _ :: _ :: _ :: _ :: _ :: _ :: _ :: _ :: [])) rfl rfl ?_
                      refine th_n ?_
                      go_roundw  -- e8 of L1
                      case rel =>
                        refine ⟨?_, GL5⟩
                        have hbad : lzBad h ms a k = false := by
                          unfold lzBad
                          rw [hib, hue]
                          revert hb5 hb6 hb7 hb8 hb9
                          generalize ms[k] = ym
                          generalize h.cells[k].used = yu
                          by_cases hka : k < a <;> cases rB h k <;> cases ym <;> cases yu <;> simp [hka]
                        exact ⟨k + 1, rfl, by omega, by rw [lzOk_succ, hok, hbad]; rfl⟩
                      case measure =>
                        exact dec_nat (by omega)
                  · -- g13F
                    first | with_reducible (replace hb8 := nb_nt hb8) | with_reducible (replace hb8 := nb_nf hb8) | with_reducible (replace hb8 := nb_tt hb8) | with_reducible (replace hb8 := nb_tf hb8) | with_reducible (replace hb8 := nb_bt hb8) | with_reducible (replace hb8 := nb_bf hb8) | skip
                    refine S_off rfl rfl ?_
                    refine S_off rfl rfl ?_
                    refine S_off rfl rfl ?_
                    refine S_off rfl rfl ?_
                    refine S_off rfl rfl ?_
                    refine S_off rfl rfl ?_
                    refine S_on rfl rfl ?_
                    refine S_val (Y_pickF rfl rfl) ?_
                    refine S_on rfl rfl ?_
                    refine S_val (Y_move rfl) ?_
                    refine S_off rfl rfl ?_
                    refine S_off rfl rfl ?_
                    refine S_off rfl rfl ?_
                    refine S_off rfl rfl ?_
                    refine S_off rfl rfl ?_
                    refine S_off rfl rfl ?_
                    refine S_off rfl rfl ?_
                    refine S_on rfl rfl ?_
                    refine S_val (Y_pickF rfl rfl) ?_
                    refine S_val (Y_pickF rfl rfl) ?_
                    refine S_nil (L' := (_ :: _ :: _ :: _ :: _ :: _ :: _ :: _ :: _ :: _ :: _ :: _ :: _ :: _ :: _ :: _ :: _ :: _ :: _ :: _ :: _ :: _ :: _ :: _ :: _ :: _ :: _ :: _ :: _ :: _ :: _ :: _ :: _ :: _ :: _ :: _ :: _ :: _ :: _ :: _ :: _ :: _ :: _ :: _ :: _ :: _ :: _ :: _ :: _ :: _ :: _ :: _ :: _ :: _ :: _ :: _ :: _ :: _ :: _ :: _ :: _ :: _ :: _ :: _ :: _ :: _ :: _ :: _ :: _ :: _ :: _ :: _ :: _ :: _ :: _ :: _ :: _ :: _ :: _ :: _ :: _ :: _ :: _ :: _ :: _ :: _ :: _ :: _ :: _ :: _ :: _ :: _ :: _ :: [])) rfl rfl ?_
                    refine th_n ?_
                    refine hK13 _ _ ?_
                    clear hK13 K13
                    refine S_ifF rfl ?_
                    refine wp_skip ?_
                    refine ib_n ?_
                    refine th_n ?_
                    refine hK12 _ _ ?_
                    clear hK12 K12
                    refine wp_region_lit ?_  -- region 6 l14_lazy.go:19
                    refine S_beg 93 rfl ?_
                    refine S_val (Y_move rfl) ?_
                    refine S_val (Y_inc rfl rfl (by omega)) ?_
                    refine S_val (Y_assign rfl) ?_
                    refine S_nil (L' := (_ :: _ :: _ :: _ :: _ :: _ :: _ :: _ :: _ :: _ :: _ :: _ :: _ :: _ :: _ :: _ :: _ :: _ :: _ :: _ :: _ :: _ :: _ :: _ :: _ :: _ :: _ :: _ :: _ :: _ :: _ :: _ :: _ :: _ :: _ :: _ :: _ :: _ :: _ :: _ :: _ :: _ :: _ :: _ :: _ :: _ :: _ :: _ :: _ :: _ :: _ :: _ :: _ :: _ :: _ :: _ :: _ :: _ :: _ :: _ :: _ :: _ :: _ :: _ :: _ :: _ :: _ :: _ :: _ :: _ :: _ :: _ :: _ :: _ :: _ :: _ :: _ :: _ :: _ :: _ :: _ :: _ :: _ :: _ :: _ :: _ :: _ :: _ :: _ :: _ :: _ :: _ :: _ :: [])) rfl rfl ?_
                    refine th_n ?_
                    go_roundw  -- e9 of L1
                    case rel =>
                      refine ⟨?_, GL5⟩
                      have hbad : lzBad h ms a k = false := by
                        unfold lzBad
                        rw [hib, hue]
                        revert hb5 hb6 hb7 hb8
                        generalize ms[k] = ym
                        generalize h.cells[k].used = yu
                        by_cases hka : k < a <;> cases rB h k <;> cases ym <;> cases yu <;> simp [hka]
                      exact ⟨k + 1, rfl, by omega, by rw [lzOk_succ, hok, hbad]; rfl⟩
                    case measure =>
                      exact dec_nat (by omega)
              · -- g11F
                first | with_reducible (replace hb6 := nb_nt hb6) | with_reducible (replace hb6 := nb_nf hb6) | with_reducible (replace hb6 := nb_tt hb6) | with_reducible (replace hb6 := nb_tf hb6) | with_reducible (replace hb6 := nb_bt hb6) | with_reducible (replace hb6 := nb_bf hb6) | skip
                refine S_off rfl rfl ?_
                refine S_off rfl rfl ?_
                refine S_off rfl rfl ?_
                refine S_off rfl rfl ?_
                refine S_off rfl rfl ?_
                refine S_off rfl rfl ?_
                refine S_off rfl rfl ?_
                refine S_off rfl rfl ?_
                refine S_on rfl rfl ?_
                refine S_val (Y_pickF rfl rfl) ?_
                refine S_val (Y_pickF rfl rfl) ?_
                refine S_val (Y_move rfl) ?_
                refine S_on rfl rfl ?_
                refine S_val (Y_move rfl) ?_
                refine S_on rfl rfl ?_
                refine S_val (Y_field Try.underlying35 rfl fz35_2 (by decide) rfl) ?_
                refine S_on rfl rfl ?_
                refine S_val (Y_load Try.underlying3 rfl rfl (by first | assumption | exact B1.at (by rfl) | exact B4.at (by rfl) | exact cc2.at (by rfl))) ?_  -- l35
                refine S_on rfl rfl ?_
                refine S_val (Y_lss rfl rfl) ?_
                refine S_on rfl rfl ?_
                refine S_val (Y_move rfl) ?_
                refine S_g 75 rfl (fun hb7 => ?_) (fun hb7 => ?_)  -- g15
                · -- g15T
                  first | with_reducible (replace hb7 := nb_nt hb7) | with_reducible (replace hb7 := nb_nf hb7) | with_reducible (replace hb7 := nb_tt hb7) | with_reducible (replace hb7 := nb_tf hb7) | with_reducible (replace hb7 := nb_bt hb7) | with_reducible (replace hb7 := nb_bf hb7) | skip
                  refine S_on rfl rfl ?_
                  refine S_val (Y_field Try.underlying35 rfl fz35_1 (by decide) rfl) ?_
                  refine S_on rfl rfl ?_
                  refine S_val (Y_load Try.underlying26 rfl rfl (by first | assumption | exact B1.at (by rfl) | exact B4.at (by rfl) | exact cc2.at (by rfl))) ?_  -- l36
                  refine S_on rfl rfl ?_
                  refine S_val (Y_move rfl) ?_
                  refine S_on rfl rfl ?_
                  refine S_val (Y_index Try.underlying26 sz4 rfl rfl (by first | assumption | omega)) ?_
                  refine S_on rfl rfl ?_
                  refine S_val (Y_load Try.underlying4 rfl rfl (by first | assumption | exact B1.at (by rfl) | exact B4.at (by rfl) | exact cc2.at (by rfl))) ?_  -- l37
                  refine S_on rfl rfl ?_
                  refine S_val (Y_not rfl) ?_
                  refine S_on rfl rfl ?_
                  refine S_val (Y_pickT rfl rfl) ?_
                  refine S_on rfl rfl ?_
                  refine S_val (Y_move rfl) ?_
                  refine S_g 83 rfl (fun hb8 => ?_) (fun hb8 => ?_)  -- g16
                  · -- g16T
                    first | with_reducible (replace hb8 := nb_nt hb8) | with_reducible (replace hb8 := nb_nf hb8) | with_reducible (replace hb8 := nb_tt hb8) | with_reducible (replace hb8 := nb_tf hb8) | with_reducible (replace hb8 := nb_bt hb8) | with_reducible (replace hb8 := nb_bf hb8) | skip
                    refine S_on rfl rfl ?_
                    refine S_val (Y_field Try.underlying35 rfl fz35_0 (by decide) rfl) ?_
                    refine S_on rfl rfl ?_
                    refine S_val (Y_field Try.underlying33 rfl fz33_0 (by decide) rfl) ?_
                    refine S_on rfl rfl ?_
                    refine S_val (Y_load Try.underlying31 rfl rfl (by first | assumption | exact B1.at (by rfl) | exact B4.at (by rfl) | exact cc2.at (by rfl))) ?_  -- l38
                    refine S_on rfl rfl ?_
                    refine S_val (Y_move rfl) ?_
                    refine S_on rfl rfl ?_
                    refine S_val (Y_index Try.underlying31 sz80 rfl rfl (by first | assumption | omega)) ?_
                    refine S_on rfl rfl ?_
                    refine S_val (Y_field Try.underlying80 rfl fz80_0 (by decide) rfl) ?_
                    refine S_on rfl rfl ?_
                    refine S_val (Y_load Try.underlying4 rfl rfl (by first | assumption | exact B1.at (by rfl) | exact B4.at (by rfl) | exact cc2.at (by rfl))) ?_  -- l39
                    refine S_on rfl rfl ?_
                    refine S_val (Y_pickT rfl rfl) ?_
                    refine S_val (Y_pickF rfl rfl) ?_
                    refine S_nil (L' := (_ :: _ :: _ :: _ :: _ :: _ :: _ :: _ :: _ :: _ :: _ :: _ :: _ :: _ :: _ :: _ :: _ :: _ :: _ :: _ :: _ :: _ :: _ :: _ :: _ :: _ :: _ :: _ :: _ :: _ :: _ :: _ :: _ :: _ :: _ :: _ :: _ :: _ :: _ :: _ :: _ :: _ :: _ :: _ :: _ :: _ :: _ :: _ :: _ :: _ :: _ :: _ :: _ :: _ :: _ :: _ :: _ :: _ :: _ :: _ :: _ :: _ :: _ :: _ :: _ :: _ :: _ :: _ :: _ :: _ :: _ :: _ :: _ :: _ :: _ :: _ :: _ :: _ :: _ :: _ :: _ :: _ :: _ :: _ :: _ :: _ :: _ :: _ :: _ :: _ :: _ :: _ :: _ :: [])) rfl rfl ?_
                    refine th_n ?_
                    refine hK13 _ _ ?_
                    clear hK13 K13
                    refine S_if rfl (fun hb9 => ?_) (fun hb9 => ?_)  -- c6
                    · -- c6T
                      first | with_reducible (replace hb9 := nb_nt hb9) | with_reducible (replace hb9 := nb_nf hb9) | with_reducible (replace hb9 := nb_tt hb9) | with_reducible (replace hb9 := nb_tf hb9) | with_reducible (replace hb9 := nb_bt hb9) | with_reducible (replace hb9 := nb_bf hb9) | skip
                      refine wp_seq_k fun K20 hK20 => ?_
                      refine wp_region_lit ?_  -- region 8 l14_lazy.go:21
                      refine S_beg 93 rfl ?_
                      refine S_val (Y_assign rfl) ?_
                      refine S_nil (L' := (_ :: _ :: _ :: _ :: _ :: _ :: _ :: _ :: _ :: _ :: _ :: _ :: _ :: _ :: _ :: _ :: _ :: _ :: _ :: _ :: _ :: _ :: _ :: _ :: _ :: _ :: _ :: _ :: _ :: _ :: _ :: _ :: _ :: _ :: _ :: _ :: _ :: _ :: _ :: _ :: _ :: _ :: _ :: _ :: _ :: _ :: _ :: _ :: _ :: _ :: _ :: _ :: _ :: _ :: _ :: _ :: _ :: _ :: _ :: _ :: _ :: _ :: _ :: _ :: _ :: _ :: _ :: _ :: _ :: _ :: _ :: _ :: _ :: _ :: _ :: _ :: _ :: _ :: _ :: _ :: _ :: _ :: _ :: _ :: _ :: _ :: _ :: _ :: _ :: _ :: _ :: _ :: _ :: [])) rfl rfl ?_
                      refine th_n ?_
                      refine hK20 _ _ ?_
                      clear hK20 K20
                      refine wp_ret ?_
                      refine ib_r ?_
                      refine th_r ?_
                      clear GL5
                      refine th_r ?_
                      refine ib_r ?_
                      refine th_r ?_
                      clear hK12 K12 hK8 K8
                      refine ret_r1 rfl rfl ?_  -- r10
                      have hbad : lzBad h ms a k = true := by
                        unfold lzBad
                        rw [hib, hue]
                        revert hb5 hb6 hb7 hb8 hb9
                        generalize ms[k] = ym
                        generalize h.cells[k].used = yu
                        by_cases hka : k < a <;> cases rB h k <;> cases ym <;> cases yu <;> simp [hka]
                      exact ⟨by rw [lazB_t hb1 hlen (by omega), lzOk_bad hk2 hbad], G⟩
                    · -- c6F
                      first | with_reducible (replace hb9 := nb_nt hb9) | with_reducible (replace hb9 := nb_nf hb9) | with_reducible (replace hb9 := nb_tt hb9) | with_reducible (replace hb9 := nb_tf hb9) | with_reducible (replace hb9 := nb_bt hb9) | with_reducible (replace hb9 := nb_bf hb9) | skip
                      refine wp_skip ?_
                      refine ib_n ?_
                      refine th_n ?_
                      refine hK12 _ _ ?_
                      clear hK12 K12
                      refine wp_region_lit ?_  -- region 6 l14_lazy.go:19
                      refine S_beg 93 rfl ?_
                      refine S_val (Y_move rfl) ?_
                      refine S_val (Y_inc rfl rfl (by omega)) ?_
                      refine S_val (Y_assign rfl) ?_
                      refine S_nil (L' := (_ :: _ :: _ :: _ :: _ :: _ :: _ :: _ :: _ :: _ :: _ :: _ :: _ :: _ :: _ :: _ :: _ :: _ :: _ :: _ :: _ :: _ :: _ :: _ :: _ :: _ :: _ :: _ :: _ :: _ :: _ :: _ :: _ :: _ :: _ :: _ :: _ :: _ :: _ :: _ :: _ :: _ :: _ :: _ :: _ :: _ :: _ :: _ :: _ :: _ :: _ :: _ :: _ :: _ :: _ :: _ :: _ :: _ :: _ :: _ :: _ :: _ :: _ :: _ :: _ :: _ :: _ :: _ :: _ :: _ :: _ :: _ :: _ :: _ :: _ :: _ :: _ :: _ :: _ :: _ :: _ :: _ :: _ :: _ :: _ :: _ :: _ :: _ :: _ :: _ :: _ :: _ :: _ :: [])) rfl rfl ?_
                      refine th_n ?_
                      go_roundw  -- e10 of L1
                      case rel =>
                        refine ⟨?_, GL5⟩
                        have hbad : lzBad h ms a k = false := by
                          unfold lzBad
                          rw [hib, hue]
                          revert hb5 hb6 hb7 hb8 hb9
                          generalize ms[k] = ym
                          generalize h.cells[k].used = yu
                          by_cases hka : k < a <;> cases rB h k <;> cases ym <;> cases yu <;> simp [hka]
                        exact ⟨k + 1, rfl, by omega, by rw [lzOk_succ, hok, hbad]; rfl⟩
                      case measure =>
                        exact dec_nat (by omega)
                  · -- g16F
                    first | with_reducible (replace hb8 := nb_nt hb8) | with_reducible (replace hb8 := nb_nf hb8) | with_reducible (replace hb8 := nb_tt hb8) | with_reducible (replace hb8 := nb_tf hb8) | with_reducible (replace hb8 := nb_bt hb8) | with_reducible (replace hb8 := nb_bf hb8) | skip
                    refine S_off rfl rfl ?_
                    refine S_off rfl rfl ?_
                    refine S_off rfl rfl ?_
                    refine S_off rfl rfl ?_
                    refine S_off rfl rfl ?_
                    refine S_off rfl rfl ?_
                    refine S_off rfl rfl ?_
                    refine S_on rfl rfl ?_
                    refine S_val (Y_pickF rfl rfl) ?_
                    refine S_val (Y_pickF rfl rfl) ?_
                    refine S_nil (L' := (_ :: _ :: _ :: _ :: _ :: _ :: _ :: _ :: _ :: _ :: _ :: _ :: _ :: _ :: _ :: _ :: _ :: _ :: _ :: _ :: _ :: _ :: _ :: _ :: _ :: _ :: _ :: _ :: _ :: _ :: _ :: _ :: _ :: _ :: _ :: _ :: _ :: _ :: _ :: _ :: _ :: _ :: _ :: _ :: _ :: _ :: _ :: _ :: _ :: _ :: _ :: _ :: _ :: _ :: _ :: _ :: _ :: _ :: _ :: _ :: _ :: _ :: _ :: _ :: _ :: _ :: _ :: _ :: _ :: _ :: _ :: _ :: _ :: _ :: _ :: _ :: _ :: _ :: _ :: _ :: _ :: _ :: _ :: _ :: _ :: _ :: _ :: _ :: _ :: _ :: _ :: _ :: _ :: [])) rfl rfl ?_
                    refine th_n ?_
                    refine hK13 _ _ ?_
                    clear hK13 K13
                    refine S_ifF rfl ?_
                    refine wp_skip ?_
                    refine ib_n ?_
                    refine th_n ?_
                    refine hK12 _ _ ?_
                    clear hK12 K12
                    refine wp_region_lit ?_  -- region 6 l14_lazy.go:19
                    refine S_beg 93 rfl ?_
                    refine S_val (Y_move rfl) ?_
                    refine S_val (Y_inc rfl rfl (by omega)) ?_
                    refine S_val (Y_assign rfl) ?_
                    refine S_nil (L' := (_ :: _ :: _ :: _ :: _ :: _ :: _ :: _ :: _ :: _ :: _ :: _ :: _ :: _ :: _ :: _ :: _ :: _ :: _ :: _ :: _ :: _ :: _ :: _ :: _ :: _ :: _ :: _ :: _ :: _ :: _ :: _ :: _ :: _ :: _ :: _ :: _ :: _ :: _ :: _ :: _ :: _ :: _ :: _ :: _ :: _ :: _ :: _ :: _ :: _ :: _ :: _ :: _ :: _ :: _ :: _ :: _ :: _ :: _ :: _ :: _ :: _ :: _ :: _ :: _ :: _ :: _ :: _ :: _ :: _ :: _ :: _ :: _ :: _ :: _ :: _ :: _ :: _ :: _ :: _ :: _ :: _ :: _ :: _ :: _ :: _ :: _ :: _ :: _ :: _ :: _ :: _ :: _ :: [])) rfl rfl ?_
                    refine th_n ?_
                    go_roundw  -- e11 of L1
                    case rel =>
                      refine ⟨?_, GL5⟩
                      have hbad : lzBad h ms a k = false := by
                        unfold lzBad
                        rw [hib, hue]
                        revert hb5 hb6 hb7 hb8
                        generalize ms[k] = ym
                        generalize h.cells[k].used = yu
                        by_cases hka : k < a <;> cases rB h k <;> cases ym <;> cases yu <;> simp [hka]
                      exact ⟨k + 1, rfl, by omega, by rw [lzOk_succ, hok, hbad]; rfl⟩
                    case measure =>
                      exact dec_nat (by omega)
                · -- g15F
                  first | with_reducible (replace hb7 := nb_nt hb7) | with_reducible (replace hb7 := nb_nf hb7) | with_reducible (replace hb7 := nb_tt hb7) | with_reducible (replace hb7 := nb_tf hb7) | with_reducible (replace hb7 := nb_bt hb7) | with_reducible (replace hb7 := nb_bf hb7) | skip
                  refine S_off rfl rfl ?_
                  refine S_off rfl rfl ?_
                  refine S_off rfl rfl ?_
                  refine S_off rfl rfl ?_
                  refine S_off rfl rfl ?_
                  refine S_off rfl rfl ?_
                  refine S_on rfl rfl ?_
                  refine S_val (Y_pickF rfl rfl) ?_
                  refine S_on rfl rfl ?_
                  refine S_val (Y_move rfl) ?_
                  refine S_off rfl rfl ?_
                  refine S_off rfl rfl ?_
                  refine S_off rfl rfl ?_
                  refine S_off rfl rfl ?_
                  refine S_off rfl rfl ?_
                  refine S_off rfl rfl ?_
                  refine S_off rfl rfl ?_
                  refine S_on rfl rfl ?_
                  refine S_val (Y_pickF rfl rfl) ?_
                  refine S_val (Y_pickF rfl rfl) ?_
                  refine S_nil (L' := (_ :: _ :: _ :: _ :: _ :: _ :: _ :: _ :: _ :: _ :: _ :: _ :: _ :: _ :: _ :: _ :: _ :: _ :: _ :: _ :: _ :: _ :: _ :: _ :: _ :: _ :: _ :: _ :: _ :: _ :: _ :: _ :: _ :: _ :: _ :: _ :: _ :: _ :: _ :: _ :: _ :: _ :: _ :: _ :: _ :: _ :: _ :: _ :: _ :: _ :: _ :: _ :: _ :: _ :: _ :: _ :: _ :: _ :: _ :: _ :: _ :: _ :: _ :: _ :: _ :: _ :: _ :: _ :: _ :: _ :: _ :: _ :: _ :: _ :: _ :: _ :: _ :: _ :: _ :: _ :: _ :: _ :: _ :: _ :: _ :: _ :: _ :: _ :: _ :: _ :: _ :: _ :: _ :: [])) rfl rfl ?_
                  refine th_n ?_
                  refine hK13 _ _ ?_
                  clear hK13 K13
                  refine S_ifF rfl ?_
                  refine wp_skip ?_
                  refine ib_n ?_
                  refine th_n ?_
                  refine hK12 _ _ ?_
                  clear hK12 K12
                  refine wp_region_lit ?_  -- region 6 l14_lazy.go:19
                  refine S_beg 93 rfl ?_
                  refine S_val (Y_move rfl) ?_
                  refine S_val (Y_inc rfl rfl (by omega)) ?_
                  refine S_val (Y_assign rfl) ?_
                  refine S_nil (L' := (_ :: _ :: _ :: _ :: _ :: _ :: _ :: _ :: _ :: _ :: _ :: _ :: _ :: _ :: _ :: _ :: _ :: _ :: _ :: _ :: _ :: _ :: _ :: _ :: _ :: _ :: _ :: _ :: _ :: _ :: _ :: _ :: _ :: _ :: _ :: _ :: _ :: _ :: _ :: _ :: _ :: _ :: _ :: _ :: _ :: _ :: _ :: _ :: _ :: _ :: _ :: _ :: _ :: _ :: _ :: _ :: _ :: _ :: _ :: _ :: _ :: _ :: _ :: _ :: _ :: _ :: _ :: _ :: _ :: _ :: _ :: _ :: _ :: _ :: _ :: _ :: _ :: _ :: _ :: _ :: _ :: _ :: _ :: _ :: _ :: _ :: _ :: _ :: _ :: _ :: _ :: _ :: _ :: [])) rfl rfl ?_
                  refine th_n ?_
                  go_roundw  -- e12 of L1
                  case rel =>
                    refine ⟨?_, GL5⟩
                    have hbad : lzBad h ms a k = false := by
                      unfold lzBad
                      rw [hib, hue]
                      revert hb5 hb6 hb7
                      generalize ms[k] = ym
                      generalize h.cells[k].used = yu
                      by_cases hka : k < a <;> cases rB h k <;> cases ym <;> cases yu <;> simp [hka]
                    exact ⟨k + 1, rfl, by omega, by rw [lzOk_succ, hok, hbad]; rfl⟩
                  case measure =>
                    exact dec_nat (by omega)
          · -- c2F
            first | with_reducible (replace hb4 := nb_nt hb4) | with_reducible (replace hb4 := nb_nf hb4) | with_reducible (replace hb4 := nb_tt hb4) | with_reducible (replace hb4 := nb_tf hb4) | with_reducible (replace hb4 := nb_bt hb4) | with_reducible (replace hb4 := nb_bf hb4) | skip
            refine wp_exit ?_
            refine th_x ?_
            clear GL5
            refine th_x ?_
            refine ib_e ?_
            refine th_n ?_
            refine hK8 _ _ ?_
            clear hK10 K10 hK8 K8
            refine wp_seq_k fun K21 hK21 => ?_
            refine wp_region_lit ?_  -- region 9 l14_lazy.go:24
            refine S_beg 93 rfl ?_
            refine S_val (Y_assign rfl) ?_
            refine S_nil (L' := (_ :: _ :: _ :: _ :: _ :: _ :: _ :: _ :: _ :: _ :: _ :: _ :: _ :: _ :: _ :: _ :: _ :: _ :: _ :: _ :: _ :: _ :: _ :: _ :: _ :: _ :: _ :: _ :: _ :: _ :: _ :: _ :: _ :: _ :: _ :: _ :: _ :: _ :: _ :: _ :: _ :: _ :: _ :: _ :: _ :: _ :: _ :: _ :: _ :: _ :: _ :: _ :: _ :: _ :: _ :: _ :: _ :: _ :: _ :: _ :: _ :: _ :: _ :: _ :: _ :: _ :: _ :: _ :: _ :: _ :: _ :: _ :: _ :: _ :: _ :: _ :: _ :: _ :: _ :: _ :: _ :: _ :: _ :: _ :: _ :: _ :: _ :: _ :: _ :: _ :: _ :: _ :: _ :: [])) rfl rfl ?_
            refine th_n ?_
            refine hK21 _ _ ?_
            clear hK21 K21
            refine wp_ret ?_
            refine ret_r1 rfl rfl ?_  -- r11
            have hkN : k = h.cells.length := by omega
            rw [hkN] at hok
            exact ⟨by rw [lazB_t hb1 hlen (by omega), hok], G⟩

set_option maxHeartbeats 400000 in
set_option maxRecDepth 20000 in
theorem laws_szLazy_c (Pr : Nat → Prop) (A B C : Option Addr) (h : LH) (ms : List Bool) (x : Int) (c d e : Nat) (left : Int) (w : World) (hA : RC Pr w A h.cells) (hn : h.cells.length ≤ 9223372036854775807) (hN : ∀ x ∈ h.cells, x.refs.length ≤ 9223372036854775807) (hm : h.roots.length ≤ 9223372036854775807) (hk : ms.length ≤ 9223372036854775807) (hl : -1 ≤ left) (hl2 : left ≤ 1048576) :
    Calls Try.prog 14 #[.agg #[.slice A h.cells.length c, .slice B h.roots.length d, .slice C ms.length e, .int .i64 x], .int .i64 left] w (Ret fun v w' => ∃ r : Int, v = .int .i64 r ∧ (-1 ≤ r ∧ r ≤ 1048576 ∧ (0 ≤ r → (hsize h : Int) + ms.length + r ≤ left)) ∧ Grow w w') := by
  refine enter Try.func14 rfl Try.ntmps14 (L := (_ :: _ :: _ :: _ :: _ :: _ :: _ :: _ :: _ :: _ :: _ :: _ :: _ :: _ :: _ :: _ :: _ :: _ :: [])) rfl ?_
  have G := Mod.refl No w
  have hA0 := hA
  refine wp_seq_k fun K1 hK1 => ?_
  refine wp_region_lit ?_  -- region 0 exact.go:502
  refine S_beg 18 rfl ?_
  refine S_box (cs := [_, _, _, _]) rfl rfl ?_
  intro b1 w1 fb1 g1 B1
  have lb1 := B1.lt
  replace hA := hA.grow g1
  replace G := G.grow g1
  have zg1 := g1.size
  refine S_val (Y_assign rfl) ?_
  refine S_nil (L' := (_ :: _ :: _ :: _ :: _ :: _ :: _ :: _ :: _ :: _ :: _ :: _ :: _ :: _ :: _ :: _ :: _ :: _ :: [])) rfl rfl ?_
  refine th_n ?_
  refine hK1 _ _ ?_
  clear hK1 K1
  refine wp_seq_k fun K2 hK2 => ?_
  refine wp_region_lit ?_  -- region 1 exact.go:503
  refine S_beg 18 rfl ?_
  refine S_val (Y_field Try.underlying28 rfl fz28_0 (by decide) rfl) ?_
  refine S_val (Y_loadS Try.underlying25 rfl sz25 rfl (CellsAt.of_blk (pre := []) (us := [_, _]) (post := [_, _]) B1 rfl)) ?_  -- l1
  refine S_val (Y_move rfl) ?_
  refine S_call rfl en19 (laws_szHeap_c _ _ _ _ _ _ _ _ (by assumption) (by omega) (by assumption) (by omega) (by omega) (by omega)) ?_  -- k1 laws.szHeap
  rintro v2 w2 ⟨r2, rfl, hr2, g2⟩
  replace hA := hA.grow g2
  replace G := G.grow g2
  replace B1 := B1.grow g2
  have zg2 := g2.size
  refine S_val (Y_assign rfl) ?_
  refine S_nil (L' := (_ :: _ :: _ :: _ :: _ :: _ :: _ :: _ :: _ :: _ :: _ :: _ :: _ :: _ :: _ :: _ :: _ :: _ :: [])) rfl rfl ?_
  refine th_n ?_
  refine hK2 _ _ ?_
  clear hK2 K2
  refine wp_seq_k fun K3 hK3 => ?_
  refine wp_seq_k fun K4 hK4 => ?_
  refine wp_region_lit ?_  -- region 2 exact.go:504
  refine S_beg 18 rfl ?_
  refine S_val (Y_move rfl) ?_
  refine S_val (Y_lss rfl rfl) ?_
  refine S_nil (L' := (_ :: _ :: _ :: _ :: _ :: _ :: _ :: _ :: _ :: _ :: _ :: _ :: _ :: _ :: _ :: _ :: _ :: _ :: [])) rfl rfl ?_
  refine th_n ?_
  refine hK4 _ _ ?_
  clear hK4 K4
  refine S_if rfl (fun hb1 => ?_) (fun hb1 => ?_)  -- c1
  · -- c1T
    first | with_reducible (replace hb1 := nb_nt hb1) | with_reducible (replace hb1 := nb_nf hb1) | with_reducible (replace hb1 := nb_tt hb1) | with_reducible (replace hb1 := nb_tf hb1) | with_reducible (replace hb1 := nb_bt hb1) | with_reducible (replace hb1 := nb_bf hb1) | skip
    refine wp_seq_k fun K5 hK5 => ?_
    refine wp_region_lit ?_  -- region 3 exact.go:505
    refine S_beg 18 rfl ?_
    refine S_val (Y_assign rfl) ?_
    refine S_nil (L' := (_ :: _ :: _ :: _ :: _ :: _ :: _ :: _ :: _ :: _ :: _ :: _ :: _ :: _ :: _ :: _ :: _ :: _ :: [])) rfl rfl ?_
    refine th_n ?_
    refine hK5 _ _ ?_
    clear hK5 K5
    refine wp_ret ?_
    refine th_r ?_
    clear hK3 K3
    refine ret_r1 rfl rfl ?_  -- r1
    exact ⟨_, rfl, by omega, G⟩
  · -- c1F
    first | with_reducible (replace hb1 := nb_nt hb1) | with_reducible (replace hb1 := nb_nf hb1) | with_reducible (replace hb1 := nb_tt hb1) | with_reducible (replace hb1 := nb_tf hb1) | with_reducible (replace hb1 := nb_bt hb1) | with_reducible (replace hb1 := nb_bf hb1) | skip
    refine wp_skip ?_
    refine th_n ?_
    refine hK3 _ _ ?_
    clear hK3 K3
    refine wp_seq_k fun K6 hK6 => ?_
    refine wp_region_lit ?_  -- region 4 exact.go:507
    refine S_beg 18 rfl ?_
    refine S_val (Y_field Try.underlying28 rfl fz28_1 (by decide) rfl) ?_
    refine S_val (Y_load Try.underlying26 rfl rfl (by first | assumption | exact B1.at (by rfl))) ?_  -- l2
    refine S_val (Y_move rfl) ?_
    refine S_call rfl en59 (laws_szBoolS_c _ _ _ _ _ (by omega) (by omega) (by omega)) ?_  -- k2 laws.szBoolS
    rintro v3 w3 ⟨r3, rfl, hr3, g3⟩
    replace hA := hA.grow g3
    replace G := G.grow g3
    replace B1 := B1.grow g3
    have zg3 := g3.size
    refine S_val (Y_assign rfl) ?_
    refine S_nil (L' := (_ :: _ :: _ :: _ :: _ :: _ :: _ :: _ :: _ :: _ :: _ :: _ :: _ :: _ :: _ :: _ :: _ :: _ :: [])) rfl rfl ?_
    refine th_n ?_
    refine hK6 _ _ ?_
    clear hK6 K6
    refine wp_seq_k fun K7 hK7 => ?_
    refine wp_seq_k fun K8 hK8 => ?_
    refine wp_region_lit ?_  -- region 5 exact.go:508
    refine S_beg 18 rfl ?_
    refine S_val (Y_move rfl) ?_
    refine S_val (Y_lss rfl rfl) ?_
    refine S_nil (L' := (_ :: _ :: _ :: _ :: _ :: _ :: _ :: _ :: _ :: _ :: _ :: _ :: _ :: _ :: _ :: _ :: _ :: _ :: [])) rfl rfl ?_
    refine th_n ?_
    refine hK8 _ _ ?_
    clear hK8 K8
    refine S_if rfl (fun hb2 => ?_) (fun hb2 => ?_)  -- c2
    · -- c2T
      first | with_reducible (replace hb2 := nb_nt hb2) | with_reducible (replace hb2 := nb_nf hb2) | with_reducible (replace hb2 := nb_tt hb2) | with_reducible (replace hb2 := nb_tf hb2) | with_reducible (replace hb2 := nb_bt hb2) | with_reducible (replace hb2 := nb_bf hb2) | skip
      refine wp_seq_k fun K9 hK9 => ?_
      refine wp_region_lit ?_  -- region 6 exact.go:509
      refine S_beg 18 rfl ?_
      refine S_val (Y_assign rfl) ?_
      refine S_nil (L' := (_ :: _ :: _ :: _ :: _ :: _ :: _ :: _ :: _ :: _ :: _ :: _ :: _ :: _ :: _ :: _ :: _ :: _ :: [])) rfl rfl ?_
      refine th_n ?_
      refine hK9 _ _ ?_
      clear hK9 K9
      refine wp_ret ?_
      refine th_r ?_
      clear hK7 K7
      refine ret_r1 rfl rfl ?_  -- r2
      exact ⟨_, rfl, by omega, G⟩
    · -- c2F
      first | with_reducible (replace hb2 := nb_nt hb2) | with_reducible (replace hb2 := nb_nf hb2) | with_reducible (replace hb2 := nb_tt hb2) | with_reducible (replace hb2 := nb_tf hb2) | with_reducible (replace hb2 := nb_bt hb2) | with_reducible (replace hb2 := nb_bf hb2) | skip
      refine wp_skip ?_
      refine th_n ?_
      refine hK7 _ _ ?_
      clear hK7 K7
      refine wp_seq_k fun K10 hK10 => ?_
      refine wp_region_lit ?_  -- region 7 exact.go:511
      refine S_beg 18 rfl ?_
      refine S_val (Y_move rfl) ?_
      refine S_val (Y_assign rfl) ?_
      refine S_nil (L' := (_ :: _ :: _ :: _ :: _ :: _ :: _ :: _ :: _ :: _ :: _ :: _ :: _ :: _ :: _ :: _ :: _ :: _ :: [])) rfl rfl ?_
      refine th_n ?_
      refine hK10 _ _ ?_
      clear hK10 K10
      refine wp_ret ?_
      refine ret_r1 rfl rfl ?_  -- r3
      exact ⟨_, rfl, by omega, G⟩

set_option maxHeartbeats 400000 in
set_option maxRecDepth 20000 in
theorem laws_toLazy_c (Pr : Nat → Prop) (A B C : Option Addr) (h : LH) (ms : List Bool) (x : Int) (c d e : Nat) (w : World) (hA : RC Pr w A h.cells) (hB : R1 Pr w B (ints h.roots)) (hC : R1 Pr w C (bools ms)) (hz : hsize h ≤ 1048576) (hxz : ms.length ≤ 1048576) (hx : -9223372036854775808 ≤ x ∧ x ≤ 9223372036854775807) :
    Calls Try.prog 16 #[.agg #[.slice A h.cells.length c, .slice B h.roots.length d, .slice C ms.length e, .int .i64 x]] w (Ret fun v w' => ∃ a b f rs, v = .agg #[.slice (some ⟨a, 0, none⟩) h.cells.length h.cells.length, .slice (some ⟨b, 0, none⟩) h.roots.length h.roots.length, .slice (some ⟨f, 0, none⟩) ms.length ms.length, .int .i64 x] ∧ OH (fun k => w.heap.size ≤ k ∧ k < f) w' 80 3 (some ⟨a, 0, none⟩) (some ⟨b, 0, none⟩) h rs ∧ w.heap.size ≤ f ∧ Blk w' f 4 (bools ms).toArray ∧ Grow w w') := by
  have hz1 := hsize_cells h
  have hz2 := hsize_roots h
  refine enter Try.func16 rfl Try.ntmps16 (L := (_ :: _ :: _ :: _ :: _ :: _ :: _ :: _ :: _ :: _ :: _ :: _ :: _ :: _ :: _ :: _ :: [])) rfl ?_
  have G := Mod.refl No w
  have hA0 := hA
  have hB0 := hB
  have hC0 := hC
  refine wp_seq_k fun K1 hK1 => ?_
  refine wp_region_lit ?_  -- region 0 exact.go:486
  refine S_beg 16 rfl ?_
  refine S_box (cs := [_, _, _, _]) rfl rfl ?_
  intro b1 w1 fb1 g1 B1
  have lb1 := B1.lt
  replace hA := hA.grow g1
  replace hB := hB.grow g1
  replace hC := hC.grow g1
  replace G := G.grow g1
  have zg1 := g1.size
  refine S_alloc (cs := [_, _, _, _]) zr35 rfl ?_
  intro b2 w2 fb2 g2 B2
  have lb2 := B2.lt
  replace hA := hA.grow g2
  replace hB := hB.grow g2
  replace hC := hC.grow g2
  replace G := G.grow g2
  replace B1 := B1.grow g2
  have zg2 := g2.size
  refine S_nil (L' := (_ :: _ :: _ :: _ :: _ :: _ :: _ :: _ :: _ :: _ :: _ :: _ :: _ :: _ :: _ :: _ :: [])) rfl rfl ?_
  refine th_n ?_
  refine hK1 _ _ ?_
  clear hK1 K1
  refine wp_seq_k fun K2 hK2 => ?_
  refine wp_region_lit ?_  -- region 1 exact.go:487
  refine S_beg 16 rfl ?_
  refine S_alloc (cs := [_, _, _, _]) zr35 rfl ?_
  intro b3 w3 fb3 g3 B3
  have lb3 := B3.lt
  replace hA := hA.grow g3
  replace hB := hB.grow g3
  replace hC := hC.grow g3
  replace G := G.grow g3
  replace B1 := B1.grow g3
  replace B2 := B2.grow g3
  have zg3 := g3.size
  refine S_nil (L' := (_ :: _ :: _ :: _ :: _ :: _ :: _ :: _ :: _ :: _ :: _ :: _ :: _ :: _ :: _ :: _ :: [])) rfl rfl ?_
  refine th_n ?_
  refine hK2 _ _ ?_
  clear hK2 K2
  refine wp_seq_k fun K3 hK3 => ?_
  refine wp_region_lit ?_  -- region 2 exact.go:488
  refine S_beg 16 rfl ?_
  refine S_val (Y_field Try.underlying28 rfl fz28_0 (by decide) rfl) ?_
  refine S_val (Y_loadS Try.underlying25 rfl sz25 rfl (CellsAt.of_blk (pre := []) (us := [_, _]) (post := [_, _]) B1 rfl)) ?_  -- l1
  refine S_call rfl en21 (laws_toHeap_c _ _ _ _ _ _ _ (by assumption) (by assumption) (by omega)) ?_  -- k1 laws.toHeap
  rintro v4 w4 ⟨a4, b4, rs4, rfl, O4, g4⟩
  replace hA := hA.grow g4
  replace hB := hB.grow g4
  replace hC := hC.grow g4
  replace G := G.grow g4
  replace B1 := B1.grow g4
  replace B2 := B2.grow g4
  replace B3 := B3.grow g4
  have zg4 := g4.size
  replace O4 := O4.lt
  have OX := O4
  refine S_val (Y_field Try.underlying35 rfl fz35_0 (by decide) rfl) ?_
  refine S_stM (pre := []) (old := [_, _]) (post := [_, _]) (vs := [_, _]) sz33 rfl rfl rfl (by first | rfl | assumption) B3 rfl rfl ?_
  intro w5 m5 X5
  replace B3 := Blk.eq (ys := [_, _, _, _]) X5 rfl
  clear X5
  replace G := G.above m5 (by intro i h; first | omega | (dsimp only at h; omega))
  replace hA := hA0.grow G
  replace hB := hB0.grow G
  replace hC := hC0.grow G
  replace OX := OX.mod m5 (by intro k hk h; first | omega | (dsimp only at hk h; omega) | (dsimp only at hk; omega))
  replace B1 := B1.mod m5 (by intro h; first | omega | (dsimp only at h; omega))
  replace B2 := B2.mod m5 (by intro h; first | omega | (dsimp only at h; omega))
  have zm5 := m5.size
  refine S_nil (L' := (_ :: _ :: _ :: _ :: _ :: _ :: _ :: _ :: _ :: _ :: _ :: _ :: _ :: _ :: _ :: _ :: [])) rfl rfl ?_
  refine th_n ?_
  refine hK3 _ _ ?_
  clear hK3 K3
  refine wp_seq_k fun K4 hK4 => ?_
  refine wp_region_lit ?_  -- region 3 exact.go:489
  refine S_beg 16 rfl ?_
  refine S_val (Y_field Try.underlying28 rfl fz28_1 (by decide) rfl) ?_
  refine S_val (Y_load Try.underlying26 rfl rfl (by first | assumption | exact B1.at (by rfl) | exact B2.at (by rfl) | exact B3.at (by rfl))) ?_  -- l2
  refine S_call rfl en40 (laws_toBoolS_c _ _ _ _ _ (by assumption) (by omega)) ?_  -- k2 laws.toBoolS
  rintro v6 w6 ⟨b6, rfl, fb6, B6, g6⟩
  replace hA := hA.grow g6
  replace hB := hB.grow g6
  replace hC := hC.grow g6
  replace OX := OX.grow g6
  replace G := G.grow g6
  replace B1 := B1.grow g6
  replace B2 := B2.grow g6
  replace B3 := B3.grow g6
  have zg6 := g6.size
  have lb6 := B6.lt
  refine S_val (Y_field Try.underlying35 rfl fz35_1 (by decide) rfl) ?_
  refine S_stM (pre := [_, _]) (old := [_]) (post := [_]) (vs := [_]) sz26 rfl rfl rfl (by first | rfl | assumption) B3 rfl rfl ?_
  intro w7 m7 X7
  replace B3 := Blk.eq (ys := [_, _, _, _]) X7 rfl
  clear X7
  replace G := G.above m7 (by intro i h; first | omega | (dsimp only at h; omega))
  replace hA := hA0.grow G
  replace hB := hB0.grow G
  replace hC := hC0.grow G
  replace OX := OX.mod m7 (by intro k hk h; first | omega | (dsimp only at hk h; omega) | (dsimp only at hk; omega))
  replace B1 := B1.mod m7 (by intro h; first | omega | (dsimp only at h; omega))
  replace B2 := B2.mod m7 (by intro h; first | omega | (dsimp only at h; omega))
  replace B6 := B6.mod m7 (by intro h; first | omega | (dsimp only at h; omega))
  have zm7 := m7.size
  refine S_nil (L' := (_ :: _ :: _ :: _ :: _ :: _ :: _ :: _ :: _ :: _ :: _ :: _ :: _ :: _ :: _ :: _ :: [])) rfl rfl ?_
  refine th_n ?_
  refine hK4 _ _ ?_
  clear hK4 K4
  refine wp_seq_k fun K5 hK5 => ?_
  refine wp_region_lit ?_  -- region 4 exact.go:490
  refine S_beg 16 rfl ?_
  refine S_val (Y_field Try.underlying28 rfl fz28_2 (by decide) rfl) ?_
  refine S_val (Y_load Try.underlying3 rfl rfl (by first | assumption | exact B1.at (by rfl) | exact B2.at (by rfl) | exact B3.at (by rfl) | exact B6.at (by rfl))) ?_  -- l3
  refine S_val (Y_field Try.underlying35 rfl fz35_2 (by decide) rfl) ?_
  refine S_stM (pre := [_, _, _]) (old := [_]) (post := []) (vs := [_]) sz3 rfl rfl rfl (by first | rfl | assumption) B3 rfl rfl ?_
  intro w8 m8 X8
  replace B3 := Blk.eq (ys := [_, _, _, _]) X8 rfl
  clear X8
  replace G := G.above m8 (by intro i h; first | omega | (dsimp only at h; omega))
  replace hA := hA0.grow G
  replace hB := hB0.grow G
  replace hC := hC0.grow G
  replace OX := OX.mod m8 (by intro k hk h; first | omega | (dsimp only at hk h; omega) | (dsimp only at hk; omega))
  replace B1 := B1.mod m8 (by intro h; first | omega | (dsimp only at h; omega))
  replace B2 := B2.mod m8 (by intro h; first | omega | (dsimp only at h; omega))
  replace B6 := B6.mod m8 (by intro h; first | omega | (dsimp only at h; omega))
  have zm8 := m8.size
  refine S_nil (L' := (_ :: _ :: _ :: _ :: _ :: _ :: _ :: _ :: _ :: _ :: _ :: _ :: _ :: _ :: _ :: _ :: [])) rfl rfl ?_
  refine th_n ?_
  refine hK5 _ _ ?_
  clear hK5 K5
  refine wp_seq_k fun K6 hK6 => ?_
  refine wp_region_lit ?_  -- region 5 exact.go:491
  refine S_beg 16 rfl ?_
  refine S_val (Y_loadS Try.underlying35 rfl sz35 rfl (by first | assumption | exact B1.row (by rfl) | exact B2.row (by rfl) | exact B3.row (by rfl) | exact B6.row (by rfl))) ?_  -- l4
  refine S_stM (pre := []) (old := [_, _, _, _]) (post := []) (vs := [_, _, _, _]) sz35 rfl rfl rfl (by first | rfl | assumption) B2 rfl rfl ?_
  intro w9 m9 X9
  replace B2 := Blk.eq (ys := [_, _, _, _]) X9 rfl
  clear X9
  replace G := G.above m9 (by intro i h; first | omega | (dsimp only at h; omega))
  replace hA := hA0.grow G
  replace hB := hB0.grow G
  replace hC := hC0.grow G
  replace OX := OX.mod m9 (by intro k hk h; first | omega | (dsimp only at hk h; omega) | (dsimp only at hk; omega))
  replace B1 := B1.mod m9 (by intro h; first | omega | (dsimp only at h; omega))
  replace B3 := B3.mod m9 (by intro h; first | omega | (dsimp only at h; omega))
  replace B6 := B6.mod m9 (by intro h; first | omega | (dsimp only at h; omega))
  have zm9 := m9.size
  refine S_nil (L' := (_ :: _ :: _ :: _ :: _ :: _ :: _ :: _ :: _ :: _ :: _ :: _ :: _ :: _ :: _ :: _ :: [])) rfl rfl ?_
  refine th_n ?_
  refine hK6 _ _ ?_
  clear hK6 K6
  refine wp_ret ?_
  refine ret_rc (cs := [_, _, _, _]) Try.underlying35 rfl sz35 rfl rfl (B2.row (by rfl)) ?_  -- r1
  exact ⟨_, _, _, _, rfl, OX.weak (fun i hi => by omega), by omega, by assumption, G⟩

set_option maxHeartbeats 400000 in
set_option maxRecDepth 20000 in
theorem laws_eqLazy_c (P1 P2 : Nat → Prop) (A B C Aq Bq Cq : Option Addr) (x y : LH) (ms ns : List Bool) (p q : Int) (c d e c2 d2 e2 : Nat) (w : World) (hA : RC P1 w A x.cells) (hB : R1 P1 w B (ints x.roots)) (hC : R1 P1 w C (bools ms)) (hA2 : RC P2 w Aq y.cells) (hB2 : R1 P2 w Bq (ints y.roots)) (hC2 : R1 P2 w Cq (bools ns)) (hz : hsize x ≤ 9223372036854775807) (hxz : ms.length ≤ 9223372036854775807) :
    Calls Try.prog 18 #[.agg #[.slice A x.cells.length c, .slice B x.roots.length d, .slice C ms.length e, .int .i64 p], .agg #[.slice Aq y.cells.length c2, .slice Bq y.roots.length d2, .slice Cq ns.length e2, .int .i64 q]] w (Ret fun v w' => v = .bool (decide (x = y) && (decide (ms = ns) && decide (p = q))) ∧ Grow w w') := by
  refine enter Try.func18 rfl Try.ntmps18 (L := (_ :: _ :: _ :: _ :: _ :: _ :: _ :: _ :: _ :: _ :: _ :: _ :: _ :: _ :: _ :: _ :: _ :: _ :: _ :: _ :: _ :: _ :: [])) rfl ?_
  have G := Mod.refl No w
  have hA0 := hA
  have hB0 := hB
  have hC0 := hC
  have hA20 := hA2
  have hB20 := hB2
  have hC20 := hC2
  refine wp_seq_k fun K1 hK1 => ?_
  refine wp_region_lit ?_  -- region 0 exact.go:455
  refine S_beg 22 rfl ?_
  refine S_box (cs := [_, _, _, _]) rfl rfl ?_
  intro b1 w1 fb1 g1 B1
  have lb1 := B1.lt
  replace hA := hA.grow g1
  replace hB := hB.grow g1
  replace hC := hC.grow g1
  replace hA2 := hA2.grow g1
  replace hB2 := hB2.grow g1
  replace hC2 := hC2.grow g1
  replace G := G.grow g1
  have zg1 := g1.size
  refine S_box (cs := [_, _, _, _]) rfl rfl ?_
  intro b2 w2 fb2 g2 B2
  have lb2 := B2.lt
  replace hA := hA.grow g2
  replace hB := hB.grow g2
  replace hC := hC.grow g2
  replace hA2 := hA2.grow g2
  replace hB2 := hB2.grow g2
  replace hC2 := hC2.grow g2
  replace G := G.grow g2
  replace B1 := B1.grow g2
  have zg2 := g2.size
  refine S_val (Y_assign rfl) ?_
  refine S_nil (L' := (_ :: _ :: _ :: _ :: _ :: _ :: _ :: _ :: _ :: _ :: _ :: _ :: _ :: _ :: _ :: _ :: _ :: _ :: _ :: _ :: _ :: _ :: [])) rfl rfl ?_
  refine th_n ?_
  refine hK1 _ _ ?_
  clear hK1 K1
  refine wp_seq_k fun K2 hK2 => ?_
  refine wp_seq_k fun K3 hK3 => ?_
  refine wp_region_lit ?_  -- region 1 exact.go:456
  refine S_beg 22 rfl ?_
  refine S_val (Y_field Try.underlying35 rfl fz35_0 (by decide) rfl) ?_
  refine S_val (Y_loadS Try.underlying33 rfl sz33 rfl (CellsAt.of_blk (pre := []) (us := [_, _]) (post := [_, _]) B1 rfl)) ?_  -- l1
  refine S_val (Y_field Try.underlying35 rfl fz35_0 (by decide) rfl) ?_
  refine S_val (Y_loadS Try.underlying33 rfl sz33 rfl (CellsAt.of_blk (pre := []) (us := [_, _]) (post := [_, _]) B2 rfl)) ?_  -- l2
  refine S_call rfl en24 (laws_eqHeap_c _ _ _ _ _ _ _ _ _ _ _ _ _ (by assumption) (by assumption) (by assumption) (by assumption) (by omega)) ?_  -- k1 laws.eqHeap
  rintro v3 w3 ⟨rfl, g3⟩
  replace hA := hA.grow g3
  replace hB := hB.grow g3
  replace hC := hC.grow g3
  replace hA2 := hA2.grow g3
  replace hB2 := hB2.grow g3
  replace hC2 := hC2.grow g3
  replace G := G.grow g3
  replace B1 := B1.grow g3
  replace B2 := B2.grow g3
  have zg3 := g3.size
  refine S_val (Y_not rfl) ?_
  refine S_nil (L' := (_ :: _ :: _ :: _ :: _ :: _ :: _ :: _ :: _ :: _ :: _ :: _ :: _ :: _ :: _ :: _ :: _ :: _ :: _ :: _ :: _ :: _ :: [])) rfl rfl ?_
  refine th_n ?_
  refine hK3 _ _ ?_
  clear hK3 K3
  refine S_if rfl (fun hb1 => ?_) (fun hb1 => ?_)  -- c1
  · -- c1T
    first | with_reducible (replace hb1 := nb_nt hb1) | with_reducible (replace hb1 := nb_nf hb1) | with_reducible (replace hb1 := nb_tt hb1) | with_reducible (replace hb1 := nb_tf hb1) | with_reducible (replace hb1 := nb_bt hb1) | with_reducible (replace hb1 := nb_bf hb1) | skip
    refine wp_seq_k fun K4 hK4 => ?_
    refine wp_region_lit ?_  -- region 2 exact.go:457
    refine S_beg 22 rfl ?_
    refine S_val (Y_assign rfl) ?_
    refine S_nil (L' := (_ :: _ :: _ :: _ :: _ :: _ :: _ :: _ :: _ :: _ :: _ :: _ :: _ :: _ :: _ :: _ :: _ :: _ :: _ :: _ :: _ :: _ :: [])) rfl rfl ?_
    refine th_n ?_
    refine hK4 _ _ ?_
    clear hK4 K4
    refine wp_ret ?_
    refine th_r ?_
    clear hK2 K2
    refine ret_r1 rfl rfl ?_  -- r1
    exact ⟨by first | (simp [hb1, hb2, hb3]; done) | (simp [hb1, hb2]; done) | simp [hb1], G⟩
  · -- c1F
    first | with_reducible (replace hb1 := nb_nt hb1) | with_reducible (replace hb1 := nb_nf hb1) | with_reducible (replace hb1 := nb_tt hb1) | with_reducible (replace hb1 := nb_tf hb1) | with_reducible (replace hb1 := nb_bt hb1) | with_reducible (replace hb1 := nb_bf hb1) | skip
    refine wp_skip ?_
    refine th_n ?_
    refine hK2 _ _ ?_
    clear hK2 K2
    refine wp_seq_k fun K5 hK5 => ?_
    refine wp_seq_k fun K6 hK6 => ?_
    refine wp_region_lit ?_  -- region 3 exact.go:459
    refine S_beg 22 rfl ?_
    refine S_val (Y_field Try.underlying35 rfl fz35_1 (by decide) rfl) ?_
    refine S_val (Y_load Try.underlying26 rfl rfl (by first | assumption | exact B1.at (by rfl) | exact B2.at (by rfl))) ?_  -- l3
    refine S_val (Y_field Try.underlying35 rfl fz35_1 (by decide) rfl) ?_
    refine S_val (Y_load Try.underlying26 rfl rfl (by first | assumption | exact B1.at (by rfl) | exact B2.at (by rfl))) ?_  -- l4
    refine S_call rfl en36 (laws_eqBoolS_c _ _ _ _ _ _ _ _ _ (by assumption) (by assumption) (by omega)) ?_  -- k2 laws.eqBoolS
    rintro v4 w4 ⟨rfl, g4⟩
    replace hA := hA.grow g4
    replace hB := hB.grow g4
    replace hC := hC.grow g4
    replace hA2 := hA2.grow g4
    replace hB2 := hB2.grow g4
    replace hC2 := hC2.grow g4
    replace G := G.grow g4
    replace B1 := B1.grow g4
    replace B2 := B2.grow g4
    have zg4 := g4.size
    refine S_val (Y_not rfl) ?_
    refine S_nil (L' := (_ :: _ :: _ :: _ :: _ :: _ :: _ :: _ :: _ :: _ :: _ :: _ :: _ :: _ :: _ :: _ :: _ :: _ :: _ :: _ :: _ :: _ :: [])) rfl rfl ?_
    refine th_n ?_
    refine hK6 _ _ ?_
    clear hK6 K6
    refine S_if rfl (fun hb2 => ?_) (fun hb2 => ?_)  -- c2
    · -- c2T
      first | with_reducible (replace hb2 := nb_nt hb2) | with_reducible (replace hb2 := nb_nf hb2) | with_reducible (replace hb2 := nb_tt hb2) | with_reducible (replace hb2 := nb_tf hb2) | with_reducible (replace hb2 := nb_bt hb2) | with_reducible (replace hb2 := nb_bf hb2) | skip
      refine wp_seq_k fun K7 hK7 => ?_
      refine wp_region_lit ?_  -- region 4 exact.go:460
      refine S_beg 22 rfl ?_
      refine S_val (Y_assign rfl) ?_
      refine S_nil (L' := (_ :: _ :: _ :: _ :: _ :: _ :: _ :: _ :: _ :: _ :: _ :: _ :: _ :: _ :: _ :: _ :: _ :: _ :: _ :: _ :: _ :: _ :: [])) rfl rfl ?_
      refine th_n ?_
      refine hK7 _ _ ?_
      clear hK7 K7
      refine wp_ret ?_
      refine th_r ?_
      clear hK5 K5
      refine ret_r1 rfl rfl ?_  -- r2
      exact ⟨by first | (simp [hb1, hb2, hb3]; done) | (simp [hb1, hb2]; done) | simp [hb1], G⟩
    · -- c2F
      first | with_reducible (replace hb2 := nb_nt hb2) | with_reducible (replace hb2 := nb_nf hb2) | with_reducible (replace hb2 := nb_tt hb2) | with_reducible (replace hb2 := nb_tf hb2) | with_reducible (replace hb2 := nb_bt hb2) | with_reducible (replace hb2 := nb_bf hb2) | skip
      refine wp_skip ?_
      refine th_n ?_
      refine hK5 _ _ ?_
      clear hK5 K5
      refine wp_seq_k fun K8 hK8 => ?_
      refine wp_seq_k fun K9 hK9 => ?_
      refine wp_region_lit ?_  -- region 5 exact.go:462
      refine S_beg 22 rfl ?_
      refine S_val (Y_field Try.underlying35 rfl fz35_2 (by decide) rfl) ?_
      refine S_val (Y_load Try.underlying3 rfl rfl (by first | assumption | exact B1.at (by rfl) | exact B2.at (by rfl))) ?_  -- l5
      refine S_val (Y_field Try.underlying35 rfl fz35_2 (by decide) rfl) ?_
      refine S_val (Y_load Try.underlying3 rfl rfl (by first | assumption | exact B1.at (by rfl) | exact B2.at (by rfl))) ?_  -- l6
      refine S_val (Y_neq rfl rfl) ?_
      refine S_nil (L' := (_ :: _ :: _ :: _ :: _ :: _ :: _ :: _ :: _ :: _ :: _ :: _ :: _ :: _ :: _ :: _ :: _ :: _ :: _ :: _ :: _ :: _ :: [])) rfl rfl ?_
      refine th_n ?_
      refine hK9 _ _ ?_
      clear hK9 K9
      refine S_if rfl (fun hb3 => ?_) (fun hb3 => ?_)  -- c3
      · -- c3T
        first | with_reducible (replace hb3 := nb_nt hb3) | with_reducible (replace hb3 := nb_nf hb3) | with_reducible (replace hb3 := nb_tt hb3) | with_reducible (replace hb3 := nb_tf hb3) | with_reducible (replace hb3 := nb_bt hb3) | with_reducible (replace hb3 := nb_bf hb3) | skip
        refine wp_seq_k fun K10 hK10 => ?_
        refine wp_region_lit ?_  -- region 6 exact.go:463
        refine S_beg 22 rfl ?_
        refine S_val (Y_assign rfl) ?_
        refine S_nil (L' := (_ :: _ :: _ :: _ :: _ :: _ :: _ :: _ :: _ :: _ :: _ :: _ :: _ :: _ :: _ :: _ :: _ :: _ :: _ :: _ :: _ :: _ :: [])) rfl rfl ?_
        refine th_n ?_
        refine hK10 _ _ ?_
        clear hK10 K10
        refine wp_ret ?_
        refine th_r ?_
        clear hK8 K8
        refine ret_r1 rfl rfl ?_  -- r3
        exact ⟨by first | (simp [hb1, hb2, hb3]; done) | (simp [hb1, hb2]; done) | simp [hb1], G⟩
      · -- c3F
        first | with_reducible (replace hb3 := nb_nt hb3) | with_reducible (replace hb3 := nb_nf hb3) | with_reducible (replace hb3 := nb_tt hb3) | with_reducible (replace hb3 := nb_tf hb3) | with_reducible (replace hb3 := nb_bt hb3) | with_reducible (replace hb3 := nb_bf hb3) | skip
        refine wp_skip ?_
        refine th_n ?_
        refine hK8 _ _ ?_
        clear hK8 K8
        refine wp_seq_k fun K11 hK11 => ?_
        refine wp_region_lit ?_  -- region 7 exact.go:465
        refine S_beg 22 rfl ?_
        refine S_val (Y_assign rfl) ?_
        refine S_nil (L' := (_ :: _ :: _ :: _ :: _ :: _ :: _ :: _ :: _ :: _ :: _ :: _ :: _ :: _ :: _ :: _ :: _ :: _ :: _ :: _ :: _ :: _ :: [])) rfl rfl ?_
        refine th_n ?_
        refine hK11 _ _ ?_
        clear hK11 K11
        refine wp_ret ?_
        refine ret_r1 rfl rfl ?_  -- r4
        exact ⟨by first | (simp [hb1, hb2, hb3]; done) | (simp [hb1, hb2]; done) | simp [hb1], G⟩

end Go.Proofs.Ytdfifnplgbceaab
