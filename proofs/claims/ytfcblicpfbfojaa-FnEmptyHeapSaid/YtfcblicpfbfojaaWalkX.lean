/-
  Walks: the laws' own look at the program, and at equal heaps.
  Conditions: those that each theorem states.
-/
import Derived.Test.YtfcblicpfbfojaaTy
import Derived.Test.YtfcblicpfbfojaaWalkO
import Derived.Test.YtfcblicpfbfojaaWalkK
namespace Go.Proofs.Ytfcblicpfbfojaa
open Go Go.RowKit
attribute [local irreducible] wpList wpAnyH Code.wp dOp

set_option maxHeartbeats 400000 in
set_option maxRecDepth 20000 in
theorem impl_isTotal_c (n : Int) (w : World) :
    Calls Try.prog 117 #[.int .i64 n] w (Ret fun v w' => v = .bool (decide (1 ≤ n ∧ n ≤ 256)) ∧ Grow w w') := by
  refine enter Try.func117 rfl Try.ntmps117 (L := (_ :: _ :: _ :: _ :: _ :: _ :: _ :: _ :: _ :: [])) rfl ?_
  have G := Mod.refl No w
  refine wp_seq_k fun K1 hK1 => ?_
  refine wp_region_lit ?_  -- region 0 l1_blocks.go:19
  refine S_beg 9 rfl ?_
  refine S_val (Y_assign rfl) ?_
  refine S_nil (L' := (_ :: _ :: _ :: _ :: _ :: _ :: _ :: _ :: _ :: [])) rfl rfl ?_
  refine th_n ?_
  refine hK1 _ _ ?_
  clear hK1 K1
  refine wp_seq_k fun K2 hK2 => ?_
  refine wp_region_lit ?_  -- region 1 l1_blocks.go:19
  refine S_beg 9 rfl ?_
  refine S_val (Y_move rfl) ?_
  refine S_val (Y_geq rfl rfl) ?_
  refine S_val (Y_move rfl) ?_
  refine S_g 5 rfl (fun hb1 => ?_) (fun hb1 => ?_)  -- g1
  · -- g1T
    first | with_reducible (replace hb1 := nb_nt hb1) | with_reducible (replace hb1 := nb_nf hb1) | with_reducible (replace hb1 := nb_tt hb1) | with_reducible (replace hb1 := nb_tf hb1) | with_reducible (replace hb1 := nb_bt hb1) | with_reducible (replace hb1 := nb_bf hb1) | skip
    refine S_on rfl rfl ?_
    refine S_val (Y_move rfl) ?_
    refine S_on rfl rfl ?_
    refine S_val (Y_leq rfl rfl) ?_
    refine S_val (Y_pickT rfl rfl) ?_
    refine S_val (Y_assign rfl) ?_
    refine S_nil (L' := (_ :: _ :: _ :: _ :: _ :: _ :: _ :: _ :: _ :: [])) rfl rfl ?_
    refine th_n ?_
    refine hK2 _ _ ?_
    clear hK2 K2
    refine wp_ret ?_
    refine ret_r1 rfl rfl ?_  -- r1
    exact ⟨by first | exact bF (by omega) | exact bI (by omega), G⟩
  · -- g1F
    first | with_reducible (replace hb1 := nb_nt hb1) | with_reducible (replace hb1 := nb_nf hb1) | with_reducible (replace hb1 := nb_tt hb1) | with_reducible (replace hb1 := nb_tf hb1) | with_reducible (replace hb1 := nb_bt hb1) | with_reducible (replace hb1 := nb_bf hb1) | skip
    refine S_off rfl rfl ?_
    refine S_off rfl rfl ?_
    refine S_val (Y_pickF rfl rfl) ?_
    refine S_val (Y_assign rfl) ?_
    refine S_nil (L' := (_ :: _ :: _ :: _ :: _ :: _ :: _ :: _ :: _ :: [])) rfl rfl ?_
    refine th_n ?_
    refine hK2 _ _ ?_
    clear hK2 K2
    refine wp_ret ?_
    refine ret_r1 rfl rfl ?_  -- r2
    exact ⟨by first | exact bF (by omega) | exact bI (by omega), G⟩

set_option maxHeartbeats 400000 in
set_option maxRecDepth 20000 in
theorem impl_BlocksValid_c (b : Nat) (w : World) (B : Blk w b 80 [.int .i64 0, .int .i64 3, .bool false].toArray) :
    Calls Try.prog 105 #[.slice (some ⟨b, 0, none⟩) 1 1, .int .i64 3] w (Ret fun v w' => v = .bool true ∧ Grow w w') := by
  refine enter Try.func105 rfl Try.ntmps105 (L := (_ :: _ :: _ :: _ :: _ :: _ :: _ :: _ :: _ :: _ :: _ :: _ :: _ :: _ :: _ :: _ :: _ :: _ :: _ :: _ :: _ :: _ :: _ :: _ :: _ :: _ :: _ :: _ :: _ :: _ :: _ :: _ :: _ :: _ :: _ :: _ :: _ :: _ :: _ :: _ :: _ :: _ :: _ :: _ :: _ :: _ :: _ :: _ :: _ :: _ :: _ :: _ :: _ :: _ :: _ :: _ :: _ :: _ :: _ :: _ :: _ :: [])) rfl ?_
  have G := Mod.refl No w
  have B0 := B
  refine wp_seq_k fun K1 hK1 => ?_
  refine wp_region_lit ?_  -- region 0 l1_blocks.go:22
  refine S_beg 61 rfl ?_
  refine S_val (Y_assign rfl) ?_
  refine S_nil (L' := (_ :: _ :: _ :: _ :: _ :: _ :: _ :: _ :: _ :: _ :: _ :: _ :: _ :: _ :: _ :: _ :: _ :: _ :: _ :: _ :: _ :: _ :: _ :: _ :: _ :: _ :: _ :: _ :: _ :: _ :: _ :: _ :: _ :: _ :: _ :: _ :: _ :: _ :: _ :: _ :: _ :: _ :: _ :: _ :: _ :: _ :: _ :: _ :: _ :: _ :: _ :: _ :: _ :: _ :: _ :: _ :: _ :: _ :: _ :: _ :: _ :: [])) rfl rfl ?_
  refine th_n ?_
  refine hK1 _ _ ?_
  clear hK1 K1
  refine wp_seq_k fun K2 hK2 => ?_
  refine wp_seq_k fun K3 hK3 => ?_
  refine wp_region_lit ?_  -- region 1 l1_blocks.go:23
  refine S_beg 61 rfl ?_
  refine S_val (Y_move rfl) ?_
  refine S_call rfl en117 (impl_isTotal_c _ _) ?_  -- k1 impl.isTotal
  rintro v1 w1 ⟨rfl, g1⟩
  replace B := B.grow g1
  replace G := G.grow g1
  have zg1 := g1.size
  refine S_val (Y_not rfl) ?_
  refine S_nil (L' := (_ :: _ :: _ :: _ :: _ :: _ :: _ :: _ :: _ :: _ :: _ :: _ :: _ :: _ :: _ :: _ :: _ :: _ :: _ :: _ :: _ :: _ :: _ :: _ :: _ :: _ :: _ :: _ :: _ :: _ :: _ :: _ :: _ :: _ :: _ :: _ :: _ :: _ :: _ :: _ :: _ :: _ :: _ :: _ :: _ :: _ :: _ :: _ :: _ :: _ :: _ :: _ :: _ :: _ :: _ :: _ :: _ :: _ :: _ :: _ :: _ :: [])) rfl rfl ?_
  refine th_n ?_
  refine hK3 _ _ ?_
  clear hK3 K3
  refine S_if rfl (fun hb1 => ?_) (fun hb1 => ?_)  -- c1
  · -- c1T
    first | with_reducible (replace hb1 := nb_nt hb1) | with_reducible (replace hb1 := nb_nf hb1) | with_reducible (replace hb1 := nb_tt hb1) | with_reducible (replace hb1 := nb_tf hb1) | with_reducible (replace hb1 := nb_bt hb1) | with_reducible (replace hb1 := nb_bf hb1) | skip
    exact absurd hb1 (by decide)
  · -- c1F
    first | with_reducible (replace hb1 := nb_nt hb1) | with_reducible (replace hb1 := nb_nf hb1) | with_reducible (replace hb1 := nb_tt hb1) | with_reducible (replace hb1 := nb_tf hb1) | with_reducible (replace hb1 := nb_bt hb1) | with_reducible (replace hb1 := nb_bf hb1) | skip
    refine wp_skip ?_
    refine th_n ?_
    refine hK2 _ _ ?_
    clear hK2 K2
    refine wp_seq_k fun K4 hK4 => ?_
    refine wp_region_lit ?_  -- region 3 l1_blocks.go:26
    refine S_beg 61 rfl ?_
    refine S_val (Y_assign rfl) ?_
    refine S_nil (L' := (_ :: _ :: _ :: _ :: _ :: _ :: _ :: _ :: _ :: _ :: _ :: _ :: _ :: _ :: _ :: _ :: _ :: _ :: _ :: _ :: _ :: _ :: _ :: _ :: _ :: _ :: _ :: _ :: _ :: _ :: _ :: _ :: _ :: _ :: _ :: _ :: _ :: _ :: _ :: _ :: _ :: _ :: _ :: _ :: _ :: _ :: _ :: _ :: _ :: _ :: _ :: _ :: _ :: _ :: _ :: _ :: _ :: _ :: _ :: _ :: _ :: [])) rfl rfl ?_
    refine th_n ?_
    refine hK4 _ _ ?_
    clear hK4 K4
    refine wp_seq_k fun K5 hK5 => ?_
    refine wp_seq_k fun K6 hK6 => ?_
    refine wp_region_lit ?_  -- region 4 l1_blocks.go:27
    refine S_beg 61 rfl ?_
    refine S_val (Y_move rfl) ?_
    refine S_val (Y_len Try.underlying81 rfl) ?_
    refine S_val (Y_move rfl) ?_
    refine S_nil (L' := (_ :: _ :: _ :: _ :: _ :: _ :: _ :: _ :: _ :: _ :: _ :: _ :: _ :: _ :: _ :: _ :: _ :: _ :: _ :: _ :: _ :: _ :: _ :: _ :: _ :: _ :: _ :: _ :: _ :: _ :: _ :: _ :: _ :: _ :: _ :: _ :: _ :: _ :: _ :: _ :: _ :: _ :: _ :: _ :: _ :: _ :: _ :: _ :: _ :: _ :: _ :: _ :: _ :: _ :: _ :: _ :: _ :: _ :: _ :: _ :: _ :: [])) rfl rfl ?_
    refine th_n ?_
    refine hK6 _ _ ?_
    clear hK6 K6
    refine wp_block ?_
    go_loopw [5, 13] (fun u5 u13 wr => (∃ k e : Nat, u13 = .int .i64 k ∧ u5 = .int .i64 e ∧ ((k = 0 ∧ e = 0) ∨ (k = 1 ∧ e = 3))) ∧ Mod No w1 wr) (fun u5 u13 wr => 1 - (intOf u13).toNat)  -- L1
    case atStart =>
      refine ⟨?_, Mod.refl _ _⟩
      exact ⟨0, 0, rfl, rfl, by omega⟩
    case round =>
      obtain ⟨w2, rfl⟩ : ∃ x : World, x = wr := ⟨_, rfl⟩
      obtain ⟨hrel, g2⟩ := hrel
      replace B := B.grow g2
      replace G := G.grow g2
      have zg2 := g2.size
      obtain ⟨k, e, rfl, rfl, hke0⟩ := hrel
      have GL2 := g2
      refine wp_seq_k fun K7 hK7 => ?_
      refine wp_region_lit ?_  -- region 5 l1_blocks.go:27
      refine S_beg 61 rfl ?_
      refine S_val (Y_lss rfl rfl) ?_
      refine S_nil (L' := (_ :: _ :: _ :: _ :: _ :: _ :: _ :: _ :: _ :: _ :: _ :: _ :: _ :: _ :: _ :: _ :: _ :: _ :: _ :: _ :: _ :: _ :: _ :: _ :: _ :: _ :: _ :: _ :: _ :: _ :: _ :: _ :: _ :: _ :: _ :: _ :: _ :: _ :: _ :: _ :: _ :: _ :: _ :: _ :: _ :: _ :: _ :: _ :: _ :: _ :: _ :: _ :: _ :: _ :: _ :: _ :: _ :: _ :: _ :: _ :: _ :: [])) rfl rfl ?_
      refine th_n ?_
      refine hK7 _ _ ?_
      clear hK7 K7
      refine wp_seq_k fun K8 hK8 => ?_
      refine S_if rfl (fun hb2 => ?_) (fun hb2 => ?_)  -- c2
      · -- c2T
        first | with_reducible (replace hb2 := nb_nt hb2) | with_reducible (replace hb2 := nb_nf hb2) | with_reducible (replace hb2 := nb_tt hb2) | with_reducible (replace hb2 := nb_tf hb2) | with_reducible (replace hb2 := nb_bt hb2) | with_reducible (replace hb2 := nb_bf hb2) | skip
        have hke : k = 0 ∧ e = 0 := by omega
        obtain ⟨rfl, rfl⟩ := hke
        have cc9 : CellsAt w2 b (0 + 0 * 3) [.int .i64 0, .int .i64 3, .bool false] := B.row rfl
        refine wp_skip ?_
        refine th_n ?_
        refine hK8 _ _ ?_
        clear hK8 K8
        refine wp_seq_k fun K9 hK9 => ?_
        refine wp_block ?_
        refine wp_seq_k fun K10 hK10 => ?_
        refine wp_region_lit ?_  -- region 6 l1_blocks.go:27
        refine S_beg 61 rfl ?_
        refine S_val (Y_move rfl) ?_
        refine S_val (Y_index Try.underlying81 sz80 rfl rfl (by first | assumption | omega)) ?_
        refine S_val (Y_loadS Try.underlying80 rfl sz80 rfl (by first | assumption | skip)) ?_  -- l1
        refine S_alloc (cs := [_, _, _]) zr80 rfl ?_
        intro b3 w3 fb3 g3 B3
        have lb3 := B3.lt
        replace B := B.grow g3
        replace G := G.grow g3
        replace GL2 := GL2.grow g3
        replace cc9 := cc9.grow g3
        have zg3 := g3.size
        refine S_val (Y_assign rfl) ?_
        refine S_stM (pre := []) (old := [_, _, _]) (post := []) (vs := [_, _, _]) sz80 rfl rfl rfl (by first | rfl | assumption) B3 rfl rfl ?_
        intro w4 m4 X4
        replace B3 := Blk.eq (ys := [_, _, _]) X4 rfl
        clear X4
        replace G := G.above m4 (by intro i h; first | omega | (dsimp only at h; omega))
        replace GL2 := GL2.above m4 (by intro i h; first | omega | (dsimp only at h; omega))
        replace B := B0.grow G
        clear cc9
        have zm4 := m4.size
        refine S_nil (L' := (_ :: _ :: _ :: _ :: _ :: _ :: _ :: _ :: _ :: _ :: _ :: _ :: _ :: _ :: _ :: _ :: _ :: _ :: _ :: _ :: _ :: _ :: _ :: _ :: _ :: _ :: _ :: _ :: _ :: _ :: _ :: _ :: _ :: _ :: _ :: _ :: _ :: _ :: _ :: _ :: _ :: _ :: _ :: _ :: _ :: _ :: _ :: _ :: _ :: _ :: _ :: _ :: _ :: _ :: _ :: _ :: _ :: _ :: _ :: _ :: _ :: [])) rfl rfl ?_
        refine th_n ?_
        refine hK10 _ _ ?_
        clear hK10 K10
        refine wp_seq_k fun K11 hK11 => ?_
        refine wp_seq_k fun K12 hK12 => ?_
        refine wp_region_lit ?_  -- region 7 l1_blocks.go:28
        refine S_beg 61 rfl ?_
        refine S_val (Y_field Try.underlying80 rfl fz80_0 (by decide) rfl) ?_
        refine S_val (Y_load Try.underlying3 rfl rfl (by first | assumption | exact B3.at (by rfl))) ?_  -- l2
        refine S_val (Y_move rfl) ?_
        refine S_val (Y_neq rfl rfl) ?_
        refine S_val (Y_move rfl) ?_
        refine S_g 22 rfl (fun hb3 => ?_) (fun hb3 => ?_)  -- g1
        · -- g1T
          first | with_reducible (replace hb3 := nb_nt hb3) | with_reducible (replace hb3 := nb_nf hb3) | with_reducible (replace hb3 := nb_tt hb3) | with_reducible (replace hb3 := nb_tf hb3) | with_reducible (replace hb3 := nb_bt hb3) | with_reducible (replace hb3 := nb_bf hb3) | skip
          exact absurd rfl hb3
        · -- g1F
          first | with_reducible (replace hb3 := nb_nt hb3) | with_reducible (replace hb3 := nb_nf hb3) | with_reducible (replace hb3 := nb_tt hb3) | with_reducible (replace hb3 := nb_tf hb3) | with_reducible (replace hb3 := nb_bt hb3) | with_reducible (replace hb3 := nb_bf hb3) | skip
          refine S_on rfl rfl ?_
          refine S_val (Y_field Try.underlying80 rfl fz80_1 (by decide) rfl) ?_
          refine S_on rfl rfl ?_
          refine S_val (Y_load Try.underlying3 rfl rfl (by first | assumption | exact B3.at (by rfl))) ?_  -- l3
          refine S_on rfl rfl ?_
          refine S_val (Y_lss rfl rfl) ?_
          refine S_val (Y_pickF rfl rfl) ?_
          refine S_val (Y_move rfl) ?_
          refine S_g 27 rfl (fun hb4 => ?_) (fun hb4 => ?_)  -- g2
          · -- g2T
            first | with_reducible (replace hb4 := nb_nt hb4) | with_reducible (replace hb4 := nb_nf hb4) | with_reducible (replace hb4 := nb_tt hb4) | with_reducible (replace hb4 := nb_tf hb4) | with_reducible (replace hb4 := nb_bt hb4) | with_reducible (replace hb4 := nb_bf hb4) | skip
            exact absurd hb4 (by decide)
          · -- g2F
            first | with_reducible (replace hb4 := nb_nt hb4) | with_reducible (replace hb4 := nb_nf hb4) | with_reducible (replace hb4 := nb_tt hb4) | with_reducible (replace hb4 := nb_tf hb4) | with_reducible (replace hb4 := nb_bt hb4) | with_reducible (replace hb4 := nb_bf hb4) | skip
            refine S_on rfl rfl ?_
            refine S_val (Y_field Try.underlying80 rfl fz80_1 (by decide) rfl) ?_
            refine S_on rfl rfl ?_
            refine S_val (Y_load Try.underlying3 rfl rfl (by first | assumption | exact B3.at (by rfl))) ?_  -- l4
            refine S_on rfl rfl ?_
            refine S_val (Y_move rfl) ?_
            refine S_on rfl rfl ?_
            refine S_val (Y_move rfl) ?_
            refine S_on rfl rfl ?_
            refine S_val (Y_sub rfl rfl rfl (by omega) (by omega)) ?_
            refine S_on rfl rfl ?_
            refine S_val (Y_gtr rfl rfl) ?_
            refine S_val (Y_pickF rfl rfl) ?_
            refine S_val (Y_move rfl) ?_
            refine S_g 35 rfl (fun hb5 => ?_) (fun hb5 => ?_)  -- g3
            · -- g3T
              first | with_reducible (replace hb5 := nb_nt hb5) | with_reducible (replace hb5 := nb_nf hb5) | with_reducible (replace hb5 := nb_tt hb5) | with_reducible (replace hb5 := nb_tf hb5) | with_reducible (replace hb5 := nb_bt hb5) | with_reducible (replace hb5 := nb_bf hb5) | skip
              exact absurd hb5 (by decide)
            · -- g3F
              first | with_reducible (replace hb5 := nb_nt hb5) | with_reducible (replace hb5 := nb_nf hb5) | with_reducible (replace hb5 := nb_tt hb5) | with_reducible (replace hb5 := nb_tf hb5) | with_reducible (replace hb5 := nb_bt hb5) | with_reducible (replace hb5 := nb_bf hb5) | skip
              refine S_on rfl rfl ?_
              refine S_val (Y_move rfl) ?_
              refine S_on rfl rfl ?_
              refine S_val (Y_gtr rfl rfl) ?_
              refine S_on rfl rfl ?_
              refine S_val (Y_move rfl) ?_
              refine S_g 38 rfl (fun hb6 => ?_) (fun hb6 => ?_)  -- g4
              · -- g4T
                first | with_reducible (replace hb6 := nb_nt hb6) | with_reducible (replace hb6 := nb_nf hb6) | with_reducible (replace hb6 := nb_tt hb6) | with_reducible (replace hb6 := nb_tf hb6) | with_reducible (replace hb6 := nb_bt hb6) | with_reducible (replace hb6 := nb_bf hb6) | skip
                exact absurd hb6 (by decide)
              · -- g4F
                first | with_reducible (replace hb6 := nb_nt hb6) | with_reducible (replace hb6 := nb_nf hb6) | with_reducible (replace hb6 := nb_tt hb6) | with_reducible (replace hb6 := nb_tf hb6) | with_reducible (replace hb6 := nb_bt hb6) | with_reducible (replace hb6 := nb_bf hb6) | skip
                refine S_off rfl rfl ?_
                refine S_off rfl rfl ?_
                refine S_off rfl rfl ?_
                refine S_on rfl rfl ?_
                refine S_val (Y_pickF rfl rfl) ?_
                refine S_on rfl rfl ?_
                refine S_val (Y_move rfl) ?_
                refine S_off rfl rfl ?_
                refine S_off rfl rfl ?_
                refine S_off rfl rfl ?_
                refine S_off rfl rfl ?_
                refine S_off rfl rfl ?_
                refine S_off rfl rfl ?_
                refine S_off rfl rfl ?_
                refine S_on rfl rfl ?_
                refine S_val (Y_pickF rfl rfl) ?_
                refine S_val (Y_pickF rfl rfl) ?_
                refine S_nil (L' := (_ :: _ :: _ :: _ :: _ :: _ :: _ :: _ :: _ :: _ :: _ :: _ :: _ :: _ :: _ :: _ :: _ :: _ :: _ :: _ :: _ :: _ :: _ :: _ :: _ :: _ :: _ :: _ :: _ :: _ :: _ :: _ :: _ :: _ :: _ :: _ :: _ :: _ :: _ :: _ :: _ :: _ :: _ :: _ :: _ :: _ :: _ :: _ :: _ :: _ :: _ :: _ :: _ :: _ :: _ :: _ :: _ :: _ :: _ :: _ :: _ :: [])) rfl rfl ?_
                refine th_n ?_
                refine hK12 _ _ ?_
                clear hK12 K12
                refine S_ifF rfl ?_
                refine wp_skip ?_
                refine th_n ?_
                refine hK11 _ _ ?_
                clear hK11 K11
                refine wp_region_lit ?_  -- region 9 l1_blocks.go:31
                refine S_beg 61 rfl ?_
                refine S_val (Y_move rfl) ?_
                refine S_val (Y_field Try.underlying80 rfl fz80_1 (by decide) rfl) ?_
                refine S_val (Y_load Try.underlying3 rfl rfl (by first | assumption | exact B3.at (by rfl))) ?_  -- l5
                refine S_val (Y_add rfl rfl rfl (by omega) (by omega)) ?_
                refine S_val (Y_assign rfl) ?_
                refine S_nil (L' := (_ :: _ :: _ :: _ :: _ :: _ :: _ :: _ :: _ :: _ :: _ :: _ :: _ :: _ :: _ :: _ :: _ :: _ :: _ :: _ :: _ :: _ :: _ :: _ :: _ :: _ :: _ :: _ :: _ :: _ :: _ :: _ :: _ :: _ :: _ :: _ :: _ :: _ :: _ :: _ :: _ :: _ :: _ :: _ :: _ :: _ :: _ :: _ :: _ :: _ :: _ :: _ :: _ :: _ :: _ :: _ :: _ :: _ :: _ :: _ :: _ :: [])) rfl rfl ?_
                refine ib_n ?_
                refine th_n ?_
                refine hK9 _ _ ?_
                clear hK9 K9
                refine wp_region_lit ?_  -- region 10 l1_blocks.go:27
                refine S_beg 61 rfl ?_
                refine S_val (Y_inc rfl rfl (by omega)) ?_
                refine S_val (Y_move rfl) ?_
                refine S_nil (L' := (_ :: _ :: _ :: _ :: _ :: _ :: _ :: _ :: _ :: _ :: _ :: _ :: _ :: _ :: _ :: _ :: _ :: _ :: _ :: _ :: _ :: _ :: _ :: _ :: _ :: _ :: _ :: _ :: _ :: _ :: _ :: _ :: _ :: _ :: _ :: _ :: _ :: _ :: _ :: _ :: _ :: _ :: _ :: _ :: _ :: _ :: _ :: _ :: _ :: _ :: _ :: _ :: _ :: _ :: _ :: _ :: _ :: _ :: _ :: _ :: _ :: [])) rfl rfl ?_
                refine th_n ?_
                go_roundw  -- e1 of L1
                case rel =>
                  refine ⟨?_, GL2⟩
                  exact ⟨1, 3, rfl, rfl, by omega⟩
                case measure =>
                  exact dec_nat (by omega)
      · -- c2F
        first | with_reducible (replace hb2 := nb_nt hb2) | with_reducible (replace hb2 := nb_nf hb2) | with_reducible (replace hb2 := nb_tt hb2) | with_reducible (replace hb2 := nb_tf hb2) | with_reducible (replace hb2 := nb_bt hb2) | with_reducible (replace hb2 := nb_bf hb2) | skip
        refine wp_exit ?_
        refine th_x ?_
        clear GL2
        refine th_x ?_
        refine ib_e ?_
        refine th_n ?_
        refine hK5 _ _ ?_
        clear hK8 K8 hK5 K5
        refine wp_seq_k fun K13 hK13 => ?_
        refine wp_region_lit ?_  -- region 11 l1_blocks.go:33
        refine S_beg 61 rfl ?_
        refine S_val (Y_move rfl) ?_
        refine S_val (Y_move rfl) ?_
        refine S_val (Y_eql rfl rfl) ?_
        refine S_val (Y_assign rfl) ?_
        refine S_nil (L' := (_ :: _ :: _ :: _ :: _ :: _ :: _ :: _ :: _ :: _ :: _ :: _ :: _ :: _ :: _ :: _ :: _ :: _ :: _ :: _ :: _ :: _ :: _ :: _ :: _ :: _ :: _ :: _ :: _ :: _ :: _ :: _ :: _ :: _ :: _ :: _ :: _ :: _ :: _ :: _ :: _ :: _ :: _ :: _ :: _ :: _ :: _ :: _ :: _ :: _ :: _ :: _ :: _ :: _ :: _ :: _ :: _ :: _ :: _ :: _ :: _ :: [])) rfl rfl ?_
        refine th_n ?_
        refine hK13 _ _ ?_
        clear hK13 K13
        refine wp_ret ?_
        refine ret_r1 rfl rfl ?_  -- r1
        have hke : k = 1 ∧ e = 3 := by omega
        obtain ⟨rfl, rfl⟩ := hke
        exact ⟨rfl, G⟩

set_option maxHeartbeats 400000 in
set_option maxRecDepth 20000 in
theorem impl_FreeWords_c (b : Nat) (w : World) (B : Blk w b 80 [.int .i64 0, .int .i64 3, .bool false].toArray) :
    Calls Try.prog 62 #[.slice (some ⟨b, 0, none⟩) 1 1, .int .i64 3] w (Ret fun v w' => v = .int .i64 3 ∧ Grow w w') := by
  refine enter Try.func62 rfl Try.ntmps62 (L := (_ :: _ :: _ :: _ :: _ :: _ :: _ :: _ :: _ :: _ :: _ :: _ :: _ :: _ :: _ :: _ :: _ :: _ :: _ :: _ :: _ :: _ :: _ :: _ :: _ :: _ :: _ :: [])) rfl ?_
  have G := Mod.refl No w
  have B0 := B
  refine wp_seq_k fun K1 hK1 => ?_
  refine wp_region_lit ?_  -- region 0 l1_blocks.go:45
  refine S_beg 27 rfl ?_
  refine S_val (Y_assign rfl) ?_
  refine S_nil (L' := (_ :: _ :: _ :: _ :: _ :: _ :: _ :: _ :: _ :: _ :: _ :: _ :: _ :: _ :: _ :: _ :: _ :: _ :: _ :: _ :: _ :: _ :: _ :: _ :: _ :: _ :: _ :: [])) rfl rfl ?_
  refine th_n ?_
  refine hK1 _ _ ?_
  clear hK1 K1
  refine wp_seq_k fun K2 hK2 => ?_
  refine wp_seq_k fun K3 hK3 => ?_
  refine wp_region_lit ?_  -- region 1 l1_blocks.go:46
  refine S_beg 27 rfl ?_
  refine S_val (Y_move rfl) ?_
  refine S_val (Y_move rfl) ?_
  refine S_call rfl en105 (impl_BlocksValid_c _ _ (by assumption)) ?_  -- k1 impl.BlocksValid
  rintro v1 w1 ⟨rfl, g1⟩
  replace B := B.grow g1
  replace G := G.grow g1
  have zg1 := g1.size
  refine S_val (Y_not rfl) ?_
  refine S_nil (L' := (_ :: _ :: _ :: _ :: _ :: _ :: _ :: _ :: _ :: _ :: _ :: _ :: _ :: _ :: _ :: _ :: _ :: _ :: _ :: _ :: _ :: _ :: _ :: _ :: _ :: _ :: _ :: [])) rfl rfl ?_
  refine th_n ?_
  refine hK3 _ _ ?_
  clear hK3 K3
  refine S_if rfl (fun hb1 => ?_) (fun hb1 => ?_)  -- c1
  · -- c1T
    first | with_reducible (replace hb1 := nb_nt hb1) | with_reducible (replace hb1 := nb_nf hb1) | with_reducible (replace hb1 := nb_tt hb1) | with_reducible (replace hb1 := nb_tf hb1) | with_reducible (replace hb1 := nb_bt hb1) | with_reducible (replace hb1 := nb_bf hb1) | skip
    exact absurd hb1 (by decide)
  · -- c1F
    first | with_reducible (replace hb1 := nb_nt hb1) | with_reducible (replace hb1 := nb_nf hb1) | with_reducible (replace hb1 := nb_tt hb1) | with_reducible (replace hb1 := nb_tf hb1) | with_reducible (replace hb1 := nb_bt hb1) | with_reducible (replace hb1 := nb_bf hb1) | skip
    refine wp_skip ?_
    refine th_n ?_
    refine hK2 _ _ ?_
    clear hK2 K2
    refine wp_seq_k fun K4 hK4 => ?_
    refine wp_region_lit ?_  -- region 3 l1_blocks.go:49
    refine S_beg 27 rfl ?_
    refine S_val (Y_assign rfl) ?_
    refine S_nil (L' := (_ :: _ :: _ :: _ :: _ :: _ :: _ :: _ :: _ :: _ :: _ :: _ :: _ :: _ :: _ :: _ :: _ :: _ :: _ :: _ :: _ :: _ :: _ :: _ :: _ :: _ :: _ :: [])) rfl rfl ?_
    refine th_n ?_
    refine hK4 _ _ ?_
    clear hK4 K4
    refine wp_seq_k fun K5 hK5 => ?_
    refine wp_seq_k fun K6 hK6 => ?_
    refine wp_region_lit ?_  -- region 4 l1_blocks.go:50
    refine S_beg 27 rfl ?_
    refine S_val (Y_move rfl) ?_
    refine S_val (Y_len Try.underlying81 rfl) ?_
    refine S_val (Y_move rfl) ?_
    refine S_nil (L' := (_ :: _ :: _ :: _ :: _ :: _ :: _ :: _ :: _ :: _ :: _ :: _ :: _ :: _ :: _ :: _ :: _ :: _ :: _ :: _ :: _ :: _ :: _ :: _ :: _ :: _ :: _ :: [])) rfl rfl ?_
    refine th_n ?_
    refine hK6 _ _ ?_
    clear hK6 K6
    refine wp_block ?_
    go_loopw [5, 14] (fun u5 u14 wr => (∃ k e : Nat, u14 = .int .i64 k ∧ u5 = .int .i64 e ∧ ((k = 0 ∧ e = 0) ∨ (k = 1 ∧ e = 3))) ∧ Mod No w1 wr) (fun u5 u14 wr => 1 - (intOf u14).toNat)  -- L1
    case atStart =>
      refine ⟨?_, Mod.refl _ _⟩
      exact ⟨0, 0, rfl, rfl, by omega⟩
    case round =>
      obtain ⟨w2, rfl⟩ : ∃ x : World, x = wr := ⟨_, rfl⟩
      obtain ⟨hrel, g2⟩ := hrel
      replace B := B.grow g2
      replace G := G.grow g2
      have zg2 := g2.size
      obtain ⟨k, e, rfl, rfl, hke0⟩ := hrel
      have GL2 := g2
      refine wp_seq_k fun K7 hK7 => ?_
      refine wp_region_lit ?_  -- region 5 l1_blocks.go:50
      refine S_beg 27 rfl ?_
      refine S_val (Y_lss rfl rfl) ?_
      refine S_nil (L' := (_ :: _ :: _ :: _ :: _ :: _ :: _ :: _ :: _ :: _ :: _ :: _ :: _ :: _ :: _ :: _ :: _ :: _ :: _ :: _ :: _ :: _ :: _ :: _ :: _ :: _ :: _ :: [])) rfl rfl ?_
      refine th_n ?_
      refine hK7 _ _ ?_
      clear hK7 K7
      refine wp_seq_k fun K8 hK8 => ?_
      refine S_if rfl (fun hb2 => ?_) (fun hb2 => ?_)  -- c2
      · -- c2T
        first | with_reducible (replace hb2 := nb_nt hb2) | with_reducible (replace hb2 := nb_nf hb2) | with_reducible (replace hb2 := nb_tt hb2) | with_reducible (replace hb2 := nb_tf hb2) | with_reducible (replace hb2 := nb_bt hb2) | with_reducible (replace hb2 := nb_bf hb2) | skip
        have hke : k = 0 ∧ e = 0 := by omega
        obtain ⟨rfl, rfl⟩ := hke
        have cc9 : CellsAt w2 b (0 + 0 * 3) [.int .i64 0, .int .i64 3, .bool false] := B.row rfl
        refine wp_skip ?_
        refine th_n ?_
        refine hK8 _ _ ?_
        clear hK8 K8
        refine wp_seq_k fun K9 hK9 => ?_
        refine wp_block ?_
        refine wp_seq_k fun K10 hK10 => ?_
        refine wp_region_lit ?_  -- region 6 l1_blocks.go:50
        refine S_beg 27 rfl ?_
        refine S_val (Y_index Try.underlying81 sz80 rfl rfl (by first | assumption | omega)) ?_
        refine S_val (Y_loadS Try.underlying80 rfl sz80 rfl (by first | assumption | skip)) ?_  -- l1
        refine S_alloc (cs := [_, _, _]) zr80 rfl ?_
        intro b3 w3 fb3 g3 B3
        have lb3 := B3.lt
        replace B := B.grow g3
        replace G := G.grow g3
        replace GL2 := GL2.grow g3
        replace cc9 := cc9.grow g3
        have zg3 := g3.size
        refine S_stM (pre := []) (old := [_, _, _]) (post := []) (vs := [_, _, _]) sz80 rfl rfl rfl (by first | rfl | assumption) B3 rfl rfl ?_
        intro w4 m4 X4
        replace B3 := Blk.eq (ys := [_, _, _]) X4 rfl
        clear X4
        replace G := G.above m4 (by intro i h; first | omega | (dsimp only at h; omega))
        replace GL2 := GL2.above m4 (by intro i h; first | omega | (dsimp only at h; omega))
        replace B := B0.grow G
        clear cc9
        have zm4 := m4.size
        refine S_nil (L' := (_ :: _ :: _ :: _ :: _ :: _ :: _ :: _ :: _ :: _ :: _ :: _ :: _ :: _ :: _ :: _ :: _ :: _ :: _ :: _ :: _ :: _ :: _ :: _ :: _ :: _ :: _ :: [])) rfl rfl ?_
        refine th_n ?_
        refine hK10 _ _ ?_
        clear hK10 K10
        refine wp_seq_k fun K11 hK11 => ?_
        refine wp_region_lit ?_  -- region 7 l1_blocks.go:51
        refine S_beg 27 rfl ?_
        refine S_val (Y_field Try.underlying80 rfl fz80_2 (by decide) rfl) ?_
        refine S_val (Y_load Try.underlying4 rfl rfl (by first | assumption | exact B3.at (by rfl))) ?_  -- l2
        refine S_val (Y_not rfl) ?_
        refine S_nil (L' := (_ :: _ :: _ :: _ :: _ :: _ :: _ :: _ :: _ :: _ :: _ :: _ :: _ :: _ :: _ :: _ :: _ :: _ :: _ :: _ :: _ :: _ :: _ :: _ :: _ :: _ :: _ :: [])) rfl rfl ?_
        refine th_n ?_
        refine hK11 _ _ ?_
        clear hK11 K11
        refine S_if rfl (fun hb3 => ?_) (fun hb3 => ?_)  -- c3
        · -- c3T
          first | with_reducible (replace hb3 := nb_nt hb3) | with_reducible (replace hb3 := nb_nf hb3) | with_reducible (replace hb3 := nb_tt hb3) | with_reducible (replace hb3 := nb_tf hb3) | with_reducible (replace hb3 := nb_bt hb3) | with_reducible (replace hb3 := nb_bf hb3) | skip
          refine wp_region_lit ?_  -- region 8 l1_blocks.go:52
          refine S_beg 27 rfl ?_
          refine S_val (Y_move rfl) ?_
          refine S_val (Y_field Try.underlying80 rfl fz80_1 (by decide) rfl) ?_
          refine S_val (Y_load Try.underlying3 rfl rfl (by first | assumption | exact B3.at (by rfl))) ?_  -- l3
          refine S_val (Y_add rfl rfl rfl (by omega) (by omega)) ?_
          refine S_val (Y_assign rfl) ?_
          refine S_nil (L' := (_ :: _ :: _ :: _ :: _ :: _ :: _ :: _ :: _ :: _ :: _ :: _ :: _ :: _ :: _ :: _ :: _ :: _ :: _ :: _ :: _ :: _ :: _ :: _ :: _ :: _ :: _ :: [])) rfl rfl ?_
          refine ib_n ?_
          refine th_n ?_
          refine hK9 _ _ ?_
          clear hK9 K9
          refine wp_region_lit ?_  -- region 9 l1_blocks.go:50
          refine S_beg 27 rfl ?_
          refine S_val (Y_inc rfl rfl (by omega)) ?_
          refine S_val (Y_move rfl) ?_
          refine S_nil (L' := (_ :: _ :: _ :: _ :: _ :: _ :: _ :: _ :: _ :: _ :: _ :: _ :: _ :: _ :: _ :: _ :: _ :: _ :: _ :: _ :: _ :: _ :: _ :: _ :: _ :: _ :: _ :: [])) rfl rfl ?_
          refine th_n ?_
          go_roundw  -- e1 of L1
          case rel =>
            refine ⟨?_, GL2⟩
            exact ⟨1, 3, rfl, rfl, by omega⟩
          case measure =>
            exact dec_nat (by omega)
        · -- c3F
          first | with_reducible (replace hb3 := nb_nt hb3) | with_reducible (replace hb3 := nb_nf hb3) | with_reducible (replace hb3 := nb_tt hb3) | with_reducible (replace hb3 := nb_tf hb3) | with_reducible (replace hb3 := nb_bt hb3) | with_reducible (replace hb3 := nb_bf hb3) | skip
          exact absurd hb3 (by decide)
      · -- c2F
        first | with_reducible (replace hb2 := nb_nt hb2) | with_reducible (replace hb2 := nb_nf hb2) | with_reducible (replace hb2 := nb_tt hb2) | with_reducible (replace hb2 := nb_tf hb2) | with_reducible (replace hb2 := nb_bt hb2) | with_reducible (replace hb2 := nb_bf hb2) | skip
        refine wp_exit ?_
        refine th_x ?_
        clear GL2
        refine th_x ?_
        refine ib_e ?_
        refine th_n ?_
        refine hK5 _ _ ?_
        clear hK8 K8 hK5 K5
        refine wp_seq_k fun K12 hK12 => ?_
        refine wp_region_lit ?_  -- region 10 l1_blocks.go:55
        refine S_beg 27 rfl ?_
        refine S_val (Y_move rfl) ?_
        refine S_val (Y_assign rfl) ?_
        refine S_nil (L' := (_ :: _ :: _ :: _ :: _ :: _ :: _ :: _ :: _ :: _ :: _ :: _ :: _ :: _ :: _ :: _ :: _ :: _ :: _ :: _ :: _ :: _ :: _ :: _ :: _ :: _ :: _ :: [])) rfl rfl ?_
        refine th_n ?_
        refine hK12 _ _ ?_
        clear hK12 K12
        refine wp_ret ?_
        refine ret_r1 rfl rfl ?_  -- r1
        have hke : k = 1 ∧ e = 3 := by omega
        obtain ⟨rfl, rfl⟩ := hke
        exact ⟨rfl, G⟩

set_option maxHeartbeats 400000 in
set_option maxRecDepth 20000 in
theorem laws_alive_c (w : World) :
    Calls Try.prog 29 #[] w (Ret fun v w' => v = .bool true ∧ Grow w w') := by
  refine enter Try.func29 rfl Try.ntmps29 (L := (_ :: _ :: _ :: _ :: _ :: [])) rfl ?_
  have G := Mod.refl No w
  refine wp_seq_k fun K1 hK1 => ?_
  refine wp_region_lit ?_  -- region 0 laws.go:10
  refine S_beg 5 rfl ?_
  refine S_val (Y_assign rfl) ?_
  refine S_nil (L' := (_ :: _ :: _ :: _ :: _ :: [])) rfl rfl ?_
  refine th_n ?_
  refine hK1 _ _ ?_
  clear hK1 K1
  refine wp_seq_k fun K2 hK2 => ?_
  refine wp_region_lit ?_  -- region 1 laws.go:11
  refine S_beg 5 rfl ?_
  refine S_val (Y_build (cs := [_, _, _]) zr80 pc80 rfl rfl) ?_
  refine S_bs1 (cs := [_, _, _]) Try.underlying81 zr80 sz80 rfl rfl rfl ?_
  intro b1 w1 fb1 g1 B1
  have lb1 := B1.lt
  replace G := G.grow g1
  have zg1 := g1.size
  refine S_call rfl en62 (impl_FreeWords_c _ _ (by assumption)) ?_  -- k1 impl.FreeWords
  rintro v2 w2 ⟨rfl, g2⟩
  replace G := G.grow g2
  replace B1 := B1.grow g2
  have zg2 := g2.size
  refine S_val (Y_eql rfl rfl) ?_
  refine S_val (Y_assign rfl) ?_
  refine S_nil (L' := (_ :: _ :: _ :: _ :: _ :: [])) rfl rfl ?_
  refine th_n ?_
  refine hK2 _ _ ?_
  clear hK2 K2
  refine wp_ret ?_
  refine ret_r1 rfl rfl ?_  -- r1
  exact ⟨rfl, G⟩

set_option maxHeartbeats 400000 in
set_option maxRecDepth 20000 in
theorem laws_sameInts_c (P1 P2 : Nat → Prop) (A B : Option Addr) (xs ys : List Int) (c d : Nat) (w : World) (hA : R1 P1 w A (ints xs)) (hB : R1 P2 w B (ints ys)) (hx : xs.length ≤ 9223372036854775807) :
    Calls Try.prog 39 #[.slice A xs.length c, .slice B ys.length d] w (Ret fun v w' => v = .bool (decide (xs = ys)) ∧ Grow w w') := by
  refine enter Try.func39 rfl Try.ntmps39 (L := (_ :: _ :: _ :: _ :: _ :: _ :: _ :: _ :: _ :: _ :: _ :: _ :: _ :: _ :: _ :: _ :: _ :: _ :: _ :: _ :: _ :: _ :: _ :: _ :: _ :: _ :: [])) rfl ?_
  have G := Mod.refl No w
  have hA0 := hA
  have hB0 := hB
  refine wp_seq_k fun K1 hK1 => ?_
  refine wp_region_lit ?_  -- region 0 laws.go:15
  refine S_beg 26 rfl ?_
  refine S_val (Y_assign rfl) ?_
  refine S_nil (L' := (_ :: _ :: _ :: _ :: _ :: _ :: _ :: _ :: _ :: _ :: _ :: _ :: _ :: _ :: _ :: _ :: _ :: _ :: _ :: _ :: _ :: _ :: _ :: _ :: _ :: _ :: [])) rfl rfl ?_
  refine th_n ?_
  refine hK1 _ _ ?_
  clear hK1 K1
  refine wp_seq_k fun K2 hK2 => ?_
  refine wp_seq_k fun K3 hK3 => ?_
  refine wp_region_lit ?_  -- region 1 laws.go:16
  refine S_beg 26 rfl ?_
  refine S_val (Y_move rfl) ?_
  refine S_val (Y_len Try.underlying29 rfl) ?_
  refine S_val (Y_move rfl) ?_
  refine S_val (Y_len Try.underlying29 rfl) ?_
  refine S_val (Y_neq rfl rfl) ?_
  refine S_nil (L' := (_ :: _ :: _ :: _ :: _ :: _ :: _ :: _ :: _ :: _ :: _ :: _ :: _ :: _ :: _ :: _ :: _ :: _ :: _ :: _ :: _ :: _ :: _ :: _ :: _ :: _ :: [])) rfl rfl ?_
  refine th_n ?_
  refine hK3 _ _ ?_
  clear hK3 K3
  refine S_if rfl (fun hb1 => ?_) (fun hb1 => ?_)  -- c1
  · -- c1T
    first | with_reducible (replace hb1 := nb_nt hb1) | with_reducible (replace hb1 := nb_nf hb1) | with_reducible (replace hb1 := nb_tt hb1) | with_reducible (replace hb1 := nb_tf hb1) | with_reducible (replace hb1 := nb_bt hb1) | with_reducible (replace hb1 := nb_bf hb1) | skip
    refine wp_seq_k fun K4 hK4 => ?_
    refine wp_region_lit ?_  -- region 2 laws.go:17
    refine S_beg 26 rfl ?_
    refine S_val (Y_assign rfl) ?_
    refine S_nil (L' := (_ :: _ :: _ :: _ :: _ :: _ :: _ :: _ :: _ :: _ :: _ :: _ :: _ :: _ :: _ :: _ :: _ :: _ :: _ :: _ :: _ :: _ :: _ :: _ :: _ :: _ :: [])) rfl rfl ?_
    refine th_n ?_
    refine hK4 _ _ ?_
    clear hK4 K4
    refine wp_ret ?_
    refine th_r ?_
    clear hK2 K2
    refine ret_r1 rfl rfl ?_  -- r1
    exact ⟨bF (fun e => hb1 (by rw [e])), G⟩
  · -- c1F
    first | with_reducible (replace hb1 := nb_nt hb1) | with_reducible (replace hb1 := nb_nf hb1) | with_reducible (replace hb1 := nb_tt hb1) | with_reducible (replace hb1 := nb_tf hb1) | with_reducible (replace hb1 := nb_bt hb1) | with_reducible (replace hb1 := nb_bf hb1) | skip
    refine wp_skip ?_
    refine th_n ?_
    refine hK2 _ _ ?_
    clear hK2 K2
    refine wp_seq_k fun K5 hK5 => ?_
    refine wp_seq_k fun K6 hK6 => ?_
    refine wp_region_lit ?_  -- region 3 laws.go:19
    refine S_beg 26 rfl ?_
    refine S_val (Y_assign rfl) ?_
    refine S_nil (L' := (_ :: _ :: _ :: _ :: _ :: _ :: _ :: _ :: _ :: _ :: _ :: _ :: _ :: _ :: _ :: _ :: _ :: _ :: _ :: _ :: _ :: _ :: _ :: _ :: _ :: _ :: [])) rfl rfl ?_
    refine th_n ?_
    refine hK6 _ _ ?_
    clear hK6 K6
    refine wp_block ?_
    go_loopw [5] (fun u5 wr => (∃ k : Nat, u5 = .int .i64 k ∧ k ≤ xs.length ∧ xs.take k = ys.take k) ∧ Mod No w wr) (fun u5 wr => xs.length - (intOf u5).toNat)  -- L1
    case atStart =>
      refine ⟨?_, Mod.refl _ _⟩
      exact ⟨0, rfl, by omega, by simp⟩
    case round =>
      obtain ⟨w1, rfl⟩ : ∃ x : World, x = wr := ⟨_, rfl⟩
      obtain ⟨hrel, g1⟩ := hrel
      replace hA := hA.grow g1
      replace hB := hB.grow g1
      replace G := G.grow g1
      have zg1 := g1.size
      obtain ⟨k, rfl, hk, hs⟩ := hrel
      have GL1 := g1
      refine wp_seq_k fun K7 hK7 => ?_
      refine wp_seq_k fun K8 hK8 => ?_
      refine wp_region_lit ?_  -- region 4 laws.go:19
      refine S_beg 26 rfl ?_
      refine S_val (Y_move rfl) ?_
      refine S_val (Y_move rfl) ?_
      refine S_val (Y_len Try.underlying29 rfl) ?_
      refine S_val (Y_lss rfl rfl) ?_
      refine S_nil (L' := (_ :: _ :: _ :: _ :: _ :: _ :: _ :: _ :: _ :: _ :: _ :: _ :: _ :: _ :: _ :: _ :: _ :: _ :: _ :: _ :: _ :: _ :: _ :: _ :: _ :: _ :: [])) rfl rfl ?_
      refine th_n ?_
      refine hK8 _ _ ?_
      clear hK8 K8
      refine S_if rfl (fun hb2 => ?_) (fun hb2 => ?_)  -- c2
      · -- c2T
        first | with_reducible (replace hb2 := nb_nt hb2) | with_reducible (replace hb2 := nb_nf hb2) | with_reducible (replace hb2 := nb_tt hb2) | with_reducible (replace hb2 := nb_tf hb2) | with_reducible (replace hb2 := nb_bt hb2) | with_reducible (replace hb2 := nb_bf hb2) | skip
        refine wp_skip ?_
        refine th_n ?_
        refine hK7 _ _ ?_
        clear hK7 K7
        refine wp_seq_k fun K9 hK9 => ?_
        refine wp_block ?_
        refine wp_seq_k fun K10 hK10 => ?_
        refine D_start 9 26 (fun w => Mod (No) w) follows rfl rfl ?_  -- d1 region 6 laws.go:20
        intro w2 g2
        replace hA := hA.grow g2
        replace hB := hB.grow g2
        replace G := G.grow g2
        replace GL1 := GL1.grow g2
        have zg2 := g2.size
        have GS2 := Mod.refl (No) w2
        obtain ⟨g1, o1, rfl, hp1, hc1⟩ := hA.int (k := k) (by omega)
        obtain ⟨g2, o2, rfl, hp2, hc2⟩ := hB.int (k := k) (by omega)
        refine D_q (i := 0) rfl (by kernel_rfl) (fun _ _ _ h => h) GS2 (fun _ _ => Y_move rfl) ?_
        refine D_q (i := 1) rfl (by kernel_rfl) (fun _ _ _ h => h) GS2 (fun _ _ => Y_move rfl) ?_
        refine D_q (i := 2) rfl (by kernel_rfl) (fun _ _ _ h => h) GS2 (fun _ _ => Y_index Try.underlying29 sz3 rfl rfl (by first | assumption | omega)) ?_
        refine D_q (i := 3) rfl (by kernel_rfl) (fun _ _ _ h => h) GS2 (fun _ hs => Y_load Try.underlying3 rfl rfl (by first | exact hs.cell0 (by assumption))) ?_
        refine D_q (i := 4) rfl (by kernel_rfl) (fun _ _ _ h => h) GS2 (fun _ _ => Y_move rfl) ?_
        refine D_q (i := 5) rfl (by kernel_rfl) (fun _ _ _ h => h) GS2 (fun _ _ => Y_move rfl) ?_
        refine D_q (i := 6) rfl (by kernel_rfl) (fun _ _ _ h => h) GS2 (fun _ _ => Y_index Try.underlying29 sz3 rfl rfl (by first | assumption | omega)) ?_
        refine D_q (i := 7) rfl (by kernel_rfl) (fun _ _ _ h => h) GS2 (fun _ hs => Y_load Try.underlying3 rfl rfl (by first | exact hs.cell0 (by assumption))) ?_
        refine D_q (i := 8) rfl (by kernel_rfl) (fun _ _ _ h => h) GS2 (fun _ _ => Y_neq rfl rfl) ?_
        refine D_end (L' := (_ :: _ :: _ :: _ :: _ :: _ :: _ :: _ :: _ :: _ :: _ :: _ :: _ :: _ :: _ :: _ :: _ :: _ :: _ :: _ :: _ :: _ :: _ :: _ :: _ :: _ :: [])) (by kernel_rfl) rfl rfl ?_
        refine th_n ?_
        refine hK10 _ _ ?_
        clear hK10 K10
        refine S_if rfl (fun hb3 => ?_) (fun hb3 => ?_)  -- c3
        · -- c3T
          first | with_reducible (replace hb3 := nb_nt hb3) | with_reducible (replace hb3 := nb_nf hb3) | with_reducible (replace hb3 := nb_tt hb3) | with_reducible (replace hb3 := nb_tf hb3) | with_reducible (replace hb3 := nb_bt hb3) | with_reducible (replace hb3 := nb_bf hb3) | skip
          refine wp_seq_k fun K11 hK11 => ?_
          refine wp_region_lit ?_  -- region 7 laws.go:21
          refine S_beg 26 rfl ?_
          refine S_val (Y_assign rfl) ?_
          refine S_nil (L' := (_ :: _ :: _ :: _ :: _ :: _ :: _ :: _ :: _ :: _ :: _ :: _ :: _ :: _ :: _ :: _ :: _ :: _ :: _ :: _ :: _ :: _ :: _ :: _ :: _ :: _ :: [])) rfl rfl ?_
          refine th_n ?_
          refine hK11 _ _ ?_
          clear hK11 K11
          refine wp_ret ?_
          refine ib_r ?_
          refine th_r ?_
          clear GL1
          refine th_r ?_
          refine ib_r ?_
          refine th_r ?_
          clear hK9 K9 hK5 K5
          refine ret_r1 rfl rfl ?_  -- r2
          exact ⟨bF (fun e => hb3 (by subst e; rfl)), G⟩
        · -- c3F
          first | with_reducible (replace hb3 := nb_nt hb3) | with_reducible (replace hb3 := nb_nf hb3) | with_reducible (replace hb3 := nb_tt hb3) | with_reducible (replace hb3 := nb_tf hb3) | with_reducible (replace hb3 := nb_bt hb3) | with_reducible (replace hb3 := nb_bf hb3) | skip
          refine wp_skip ?_
          refine ib_n ?_
          refine th_n ?_
          refine hK9 _ _ ?_
          clear hK9 K9
          refine wp_region_lit ?_  -- region 5 laws.go:19
          refine S_beg 26 rfl ?_
          refine S_val (Y_move rfl) ?_
          refine S_val (Y_inc rfl rfl (by omega)) ?_
          refine S_val (Y_assign rfl) ?_
          refine S_nil (L' := (_ :: _ :: _ :: _ :: _ :: _ :: _ :: _ :: _ :: _ :: _ :: _ :: _ :: _ :: _ :: _ :: _ :: _ :: _ :: _ :: _ :: _ :: _ :: _ :: _ :: _ :: [])) rfl rfl ?_
          refine th_n ?_
          go_roundw  -- e1 of L1
          case rel =>
            refine ⟨?_, GL1⟩
            exact ⟨k + 1, rfl, by omega, take_eq hs (by omega) (by omega) hb3⟩
          case measure =>
            exact dec_nat (by omega)
      · -- c2F
        first | with_reducible (replace hb2 := nb_nt hb2) | with_reducible (replace hb2 := nb_nf hb2) | with_reducible (replace hb2 := nb_tt hb2) | with_reducible (replace hb2 := nb_tf hb2) | with_reducible (replace hb2 := nb_bt hb2) | with_reducible (replace hb2 := nb_bf hb2) | skip
        refine wp_exit ?_
        refine th_x ?_
        clear GL1
        refine th_x ?_
        refine ib_e ?_
        refine th_n ?_
        refine hK5 _ _ ?_
        clear hK7 K7 hK5 K5
        refine wp_seq_k fun K12 hK12 => ?_
        refine wp_region_lit ?_  -- region 8 laws.go:24
        refine S_beg 26 rfl ?_
        refine S_val (Y_assign rfl) ?_
        refine S_nil (L' := (_ :: _ :: _ :: _ :: _ :: _ :: _ :: _ :: _ :: _ :: _ :: _ :: _ :: _ :: _ :: _ :: _ :: _ :: _ :: _ :: _ :: _ :: _ :: _ :: _ :: _ :: [])) rfl rfl ?_
        refine th_n ?_
        refine hK12 _ _ ?_
        clear hK12 K12
        refine wp_ret ?_
        refine ret_r1 rfl rfl ?_  -- r3
        exact ⟨bT (take_all hs (by omega) (by omega)), G⟩

set_option maxHeartbeats 400000 in
set_option maxRecDepth 20000 in
theorem laws_sameHeap_c (P1 P2 : Nat → Prop) (A B Aq Bq : Option Addr) (x y : LH) (c d c2 d2 : Nat) (w : World) (hA : RC P1 w A x.cells) (hB : R1 P1 w B (ints x.roots)) (hA2 : RC P2 w Aq y.cells) (hB2 : R1 P2 w Bq (ints y.roots)) (hz : hsize x ≤ 9223372036854775807) :
    Calls Try.prog 31 #[.agg #[.slice A x.cells.length c, .slice B x.roots.length d], .agg #[.slice Aq y.cells.length c2, .slice Bq y.roots.length d2]] w (Ret fun v w' => v = .bool (decide (x = y)) ∧ Grow w w') := by
  have hz1 := hsize_cells x
  have hz2 := hsize_roots x
  have hz3 : ∀ k (hk : k < x.cells.length), x.cells[k].refs.length ≤ 9223372036854775807 := fun k hk => Nat.le_trans (hsize_refs x hk) hz
  refine enter Try.func31 rfl Try.ntmps31 (L := (_ :: _ :: _ :: _ :: _ :: _ :: _ :: _ :: _ :: _ :: _ :: _ :: _ :: _ :: _ :: _ :: _ :: _ :: _ :: _ :: _ :: _ :: _ :: _ :: _ :: _ :: _ :: _ :: _ :: _ :: _ :: _ :: _ :: _ :: _ :: _ :: _ :: _ :: _ :: _ :: _ :: _ :: _ :: _ :: _ :: _ :: _ :: _ :: _ :: _ :: _ :: _ :: _ :: _ :: _ :: _ :: _ :: _ :: _ :: _ :: _ :: _ :: _ :: _ :: _ :: _ :: _ :: _ :: _ :: [])) rfl ?_
  have G := Mod.refl No w
  have hA0 := hA
  have hB0 := hB
  have hA20 := hA2
  have hB20 := hB2
  refine wp_seq_k fun K1 hK1 => ?_
  refine wp_region_lit ?_  -- region 0 laws.go:576
  refine S_beg 69 rfl ?_
  refine S_box (cs := [_, _]) rfl rfl ?_
  intro b1 w1 fb1 g1 B1
  have lb1 := B1.lt
  replace hA := hA.grow g1
  replace hB := hB.grow g1
  replace hA2 := hA2.grow g1
  replace hB2 := hB2.grow g1
  replace G := G.grow g1
  have zg1 := g1.size
  refine S_box (cs := [_, _]) rfl rfl ?_
  intro b2 w2 fb2 g2 B2
  have lb2 := B2.lt
  replace hA := hA.grow g2
  replace hB := hB.grow g2
  replace hA2 := hA2.grow g2
  replace hB2 := hB2.grow g2
  replace G := G.grow g2
  replace B1 := B1.grow g2
  have zg2 := g2.size
  refine S_val (Y_assign rfl) ?_
  refine S_nil (L' := (_ :: _ :: _ :: _ :: _ :: _ :: _ :: _ :: _ :: _ :: _ :: _ :: _ :: _ :: _ :: _ :: _ :: _ :: _ :: _ :: _ :: _ :: _ :: _ :: _ :: _ :: _ :: _ :: _ :: _ :: _ :: _ :: _ :: _ :: _ :: _ :: _ :: _ :: _ :: _ :: _ :: _ :: _ :: _ :: _ :: _ :: _ :: _ :: _ :: _ :: _ :: _ :: _ :: _ :: _ :: _ :: _ :: _ :: _ :: _ :: _ :: _ :: _ :: _ :: _ :: _ :: _ :: _ :: _ :: [])) rfl rfl ?_
  refine th_n ?_
  refine hK1 _ _ ?_
  clear hK1 K1
  refine wp_seq_k fun K2 hK2 => ?_
  refine wp_seq_k fun K3 hK3 => ?_
  refine wp_region_lit ?_  -- region 1 laws.go:577
  refine S_beg 69 rfl ?_
  refine S_val (Y_field Try.underlying31 rfl fz31_0 (by decide) rfl) ?_
  refine S_val (Y_load Try.underlying28 rfl rfl (by first | assumption | exact B1.at (by rfl) | exact B2.at (by rfl))) ?_  -- l1
  refine S_val (Y_len Try.underlying28 rfl) ?_
  refine S_val (Y_field Try.underlying31 rfl fz31_0 (by decide) rfl) ?_
  refine S_val (Y_load Try.underlying28 rfl rfl (by first | assumption | exact B1.at (by rfl) | exact B2.at (by rfl))) ?_  -- l2
  refine S_val (Y_len Try.underlying28 rfl) ?_
  refine S_val (Y_neq rfl rfl) ?_
  refine S_nil (L' := (_ :: _ :: _ :: _ :: _ :: _ :: _ :: _ :: _ :: _ :: _ :: _ :: _ :: _ :: _ :: _ :: _ :: _ :: _ :: _ :: _ :: _ :: _ :: _ :: _ :: _ :: _ :: _ :: _ :: _ :: _ :: _ :: _ :: _ :: _ :: _ :: _ :: _ :: _ :: _ :: _ :: _ :: _ :: _ :: _ :: _ :: _ :: _ :: _ :: _ :: _ :: _ :: _ :: _ :: _ :: _ :: _ :: _ :: _ :: _ :: _ :: _ :: _ :: _ :: _ :: _ :: _ :: _ :: _ :: [])) rfl rfl ?_
  refine th_n ?_
  refine hK3 _ _ ?_
  clear hK3 K3
  refine S_if rfl (fun hb1 => ?_) (fun hb1 => ?_)  -- c1
  · -- c1T
    first | with_reducible (replace hb1 := nb_nt hb1) | with_reducible (replace hb1 := nb_nf hb1) | with_reducible (replace hb1 := nb_tt hb1) | with_reducible (replace hb1 := nb_tf hb1) | with_reducible (replace hb1 := nb_bt hb1) | with_reducible (replace hb1 := nb_bf hb1) | skip
    refine wp_seq_k fun K4 hK4 => ?_
    refine wp_region_lit ?_  -- region 2 laws.go:578
    refine S_beg 69 rfl ?_
    refine S_val (Y_assign rfl) ?_
    refine S_nil (L' := (_ :: _ :: _ :: _ :: _ :: _ :: _ :: _ :: _ :: _ :: _ :: _ :: _ :: _ :: _ :: _ :: _ :: _ :: _ :: _ :: _ :: _ :: _ :: _ :: _ :: _ :: _ :: _ :: _ :: _ :: _ :: _ :: _ :: _ :: _ :: _ :: _ :: _ :: _ :: _ :: _ :: _ :: _ :: _ :: _ :: _ :: _ :: _ :: _ :: _ :: _ :: _ :: _ :: _ :: _ :: _ :: _ :: _ :: _ :: _ :: _ :: _ :: _ :: _ :: _ :: _ :: _ :: _ :: _ :: [])) rfl rfl ?_
    refine th_n ?_
    refine hK4 _ _ ?_
    clear hK4 K4
    refine wp_ret ?_
    refine th_r ?_
    clear hK2 K2
    refine ret_r1 rfl rfl ?_  -- r1
    exact ⟨bF (fun e => hb1 (by rw [e])), G⟩
  · -- c1F
    first | with_reducible (replace hb1 := nb_nt hb1) | with_reducible (replace hb1 := nb_nf hb1) | with_reducible (replace hb1 := nb_tt hb1) | with_reducible (replace hb1 := nb_tf hb1) | with_reducible (replace hb1 := nb_bt hb1) | with_reducible (replace hb1 := nb_bf hb1) | skip
    refine wp_skip ?_
    refine th_n ?_
    refine hK2 _ _ ?_
    clear hK2 K2
    refine wp_seq_k fun K5 hK5 => ?_
    refine wp_seq_k fun K6 hK6 => ?_
    refine wp_region_lit ?_  -- region 3 laws.go:580
    refine S_beg 69 rfl ?_
    refine S_val (Y_assign rfl) ?_
    refine S_nil (L' := (_ :: _ :: _ :: _ :: _ :: _ :: _ :: _ :: _ :: _ :: _ :: _ :: _ :: _ :: _ :: _ :: _ :: _ :: _ :: _ :: _ :: _ :: _ :: _ :: _ :: _ :: _ :: _ :: _ :: _ :: _ :: _ :: _ :: _ :: _ :: _ :: _ :: _ :: _ :: _ :: _ :: _ :: _ :: _ :: _ :: _ :: _ :: _ :: _ :: _ :: _ :: _ :: _ :: _ :: _ :: _ :: _ :: _ :: _ :: _ :: _ :: _ :: _ :: _ :: _ :: _ :: _ :: _ :: _ :: [])) rfl rfl ?_
    refine th_n ?_
    refine hK6 _ _ ?_
    clear hK6 K6
    refine wp_block ?_
    go_loopw [5] (fun u5 wr => (∃ k : Nat, u5 = .int .i64 k ∧ k ≤ x.cells.length ∧ x.cells.take k = y.cells.take k) ∧ Mod No w2 wr) (fun u5 wr => x.cells.length - (intOf u5).toNat)  -- L1
    case atStart =>
      refine ⟨?_, Mod.refl _ _⟩
      exact ⟨0, rfl, by omega, by simp⟩
    case round =>
      obtain ⟨w3, rfl⟩ : ∃ x : World, x = wr := ⟨_, rfl⟩
      obtain ⟨hrel, g3⟩ := hrel
      replace hA := hA.grow g3
      replace hB := hB.grow g3
      replace hA2 := hA2.grow g3
      replace hB2 := hB2.grow g3
      replace G := G.grow g3
      replace B1 := B1.grow g3
      replace B2 := B2.grow g3
      have zg3 := g3.size
      obtain ⟨k, rfl, hk, hs⟩ := hrel
      have GL3 := g3
      refine wp_seq_k fun K7 hK7 => ?_
      refine wp_seq_k fun K8 hK8 => ?_
      refine wp_region_lit ?_  -- region 4 laws.go:580
      refine S_beg 69 rfl ?_
      refine S_val (Y_move rfl) ?_
      refine S_val (Y_field Try.underlying31 rfl fz31_0 (by decide) rfl) ?_
      refine S_val (Y_load Try.underlying28 rfl rfl (by first | assumption | exact B1.at (by rfl) | exact B2.at (by rfl))) ?_  -- l3
      refine S_val (Y_len Try.underlying28 rfl) ?_
      refine S_val (Y_lss rfl rfl) ?_
      refine S_nil (L' := (_ :: _ :: _ :: _ :: _ :: _ :: _ :: _ :: _ :: _ :: _ :: _ :: _ :: _ :: _ :: _ :: _ :: _ :: _ :: _ :: _ :: _ :: _ :: _ :: _ :: _ :: _ :: _ :: _ :: _ :: _ :: _ :: _ :: _ :: _ :: _ :: _ :: _ :: _ :: _ :: _ :: _ :: _ :: _ :: _ :: _ :: _ :: _ :: _ :: _ :: _ :: _ :: _ :: _ :: _ :: _ :: _ :: _ :: _ :: _ :: _ :: _ :: _ :: _ :: _ :: _ :: _ :: _ :: _ :: [])) rfl rfl ?_
      refine th_n ?_
      refine hK8 _ _ ?_
      clear hK8 K8
      refine S_if rfl (fun hb2 => ?_) (fun hb2 => ?_)  -- c2
      · -- c2T
        first | with_reducible (replace hb2 := nb_nt hb2) | with_reducible (replace hb2 := nb_nf hb2) | with_reducible (replace hb2 := nb_tt hb2) | with_reducible (replace hb2 := nb_tf hb2) | with_reducible (replace hb2 := nb_bt hb2) | with_reducible (replace hb2 := nb_bf hb2) | skip
        refine wp_skip ?_
        refine th_n ?_
        refine hK7 _ _ ?_
        clear hK7 K7
        refine wp_seq_k fun K9 hK9 => ?_
        refine wp_block ?_
        refine wp_seq_k fun K10 hK10 => ?_
        refine D_start 44 69 (fun w => Mod (No) w) follows rfl rfl ?_  -- d1 region 6 laws.go:581
        intro w4 g4
        replace hA := hA.grow g4
        replace hB := hB.grow g4
        replace hA2 := hA2.grow g4
        replace hB2 := hB2.grow g4
        replace G := G.grow g4
        replace GL3 := GL3.grow g4
        replace B1 := B1.grow g4
        replace B2 := B2.grow g4
        have zg4 := g4.size
        have GS4 := Mod.refl (No) w4
        have hk1 : k < x.cells.length := by omega
        have hk2 : k < y.cells.length := by omega
        obtain ⟨g1, o1, E1, e1, rfl, hp1, cc1, hE1⟩ := hA.cell hk1
        obtain ⟨g2, o2, E2, e2, rfl, hp2, cc2, hE2⟩ := hA2.cell hk2
        have hr1 := hz3 k hk1
        have B1d4 := B1
        have B2d4 := B2
        refine D_q (i := 0) rfl (by kernel_rfl) (fun _ _ _ h => h) GS4 (fun _ _ => Y_field Try.underlying31 rfl fz31_0 (by decide) rfl) ?_
        refine D_q (i := 1) rfl (by kernel_rfl) (fun _ _ _ h => h) GS4 (fun _ hs => Y_load Try.underlying28 rfl rfl (by first | exact hs.cell0 (by assumption) | exact hs.cell0 (B1.at (by rfl)) | exact hs.cell0 (B2.at (by rfl)) | exact hs.cell0 (B1d4.at (by rfl)) | exact hs.cell0 (B2d4.at (by rfl)) | exact hs.cell0 (cc1.at (by rfl)) | exact hs.cell0 (cc2.at (by rfl)))) ?_
        refine D_q (i := 2) rfl (by kernel_rfl) (fun _ _ _ h => h) GS4 (fun _ _ => Y_move rfl) ?_
        refine D_q (i := 3) rfl (by kernel_rfl) (fun _ _ _ h => h) GS4 (fun _ _ => Y_index Try.underlying28 sz90 rfl rfl (by first | assumption | omega)) ?_
        refine D_q (i := 4) rfl (by kernel_rfl) (fun _ _ _ h => h) GS4 (fun _ _ => Y_field Try.underlying90 rfl fz90_0 (by decide) rfl) ?_
        refine D_q (i := 5) rfl (by kernel_rfl) (fun _ _ _ h => h) GS4 (fun _ hs => Y_load Try.underlying4 rfl rfl (by first | exact hs.cell0 (by assumption) | exact hs.cell0 (B1.at (by rfl)) | exact hs.cell0 (B2.at (by rfl)) | exact hs.cell0 (B1d4.at (by rfl)) | exact hs.cell0 (B2d4.at (by rfl)) | exact hs.cell0 (cc1.at (by rfl)) | exact hs.cell0 (cc2.at (by rfl)))) ?_
        refine D_q (i := 6) rfl (by kernel_rfl) (fun _ _ _ h => h) GS4 (fun _ _ => Y_field Try.underlying31 rfl fz31_0 (by decide) rfl) ?_
        refine D_q (i := 7) rfl (by kernel_rfl) (fun _ _ _ h => h) GS4 (fun _ hs => Y_load Try.underlying28 rfl rfl (by first | exact hs.cell0 (by assumption) | exact hs.cell0 (B1.at (by rfl)) | exact hs.cell0 (B2.at (by rfl)) | exact hs.cell0 (B1d4.at (by rfl)) | exact hs.cell0 (B2d4.at (by rfl)) | exact hs.cell0 (cc1.at (by rfl)) | exact hs.cell0 (cc2.at (by rfl)))) ?_
        refine D_q (i := 8) rfl (by kernel_rfl) (fun _ _ _ h => h) GS4 (fun _ _ => Y_move rfl) ?_
        refine D_q (i := 9) rfl (by kernel_rfl) (fun _ _ _ h => h) GS4 (fun _ _ => Y_index Try.underlying28 sz90 rfl rfl (by first | assumption | omega)) ?_
        refine D_q (i := 10) rfl (by kernel_rfl) (fun _ _ _ h => h) GS4 (fun _ _ => Y_field Try.underlying90 rfl fz90_0 (by decide) rfl) ?_
        refine D_q (i := 11) rfl (by kernel_rfl) (fun _ _ _ h => h) GS4 (fun _ hs => Y_load Try.underlying4 rfl rfl (by first | exact hs.cell0 (by assumption) | exact hs.cell0 (B1.at (by rfl)) | exact hs.cell0 (B2.at (by rfl)) | exact hs.cell0 (B1d4.at (by rfl)) | exact hs.cell0 (B2d4.at (by rfl)) | exact hs.cell0 (cc1.at (by rfl)) | exact hs.cell0 (cc2.at (by rfl)))) ?_
        refine D_q (i := 12) rfl (by kernel_rfl) (fun _ _ _ h => h) GS4 (fun _ _ => Y_neb Try.underlying4 rfl rfl) ?_
        refine D_q (i := 13) rfl (by kernel_rfl) (fun _ _ _ h => h) GS4 (fun _ _ => Y_move rfl) ?_
        refine D_g 33 rfl (fun hb3 => ?_) (fun hb3 => ?_)  -- g1
        · -- g1T
          first | with_reducible (replace hb3 := nb_nt hb3) | with_reducible (replace hb3 := nb_nf hb3) | with_reducible (replace hb3 := nb_tt hb3) | with_reducible (replace hb3 := nb_tf hb3) | with_reducible (replace hb3 := nb_bt hb3) | with_reducible (replace hb3 := nb_bf hb3) | skip
          refine D_qoff (i := 14) rfl rfl rfl (by kernel_rfl) (fun _ _ _ h => h) GS4 ?_
          refine D_qoff (i := 15) rfl rfl rfl (by kernel_rfl) (fun _ _ _ h => h) GS4 ?_
          refine D_qoff (i := 16) rfl rfl rfl (by kernel_rfl) (fun _ _ _ h => h) GS4 ?_
          refine D_qoff (i := 17) rfl rfl rfl (by kernel_rfl) (fun _ _ _ h => h) GS4 ?_
          refine D_qoff (i := 18) rfl rfl rfl (by kernel_rfl) (fun _ _ _ h => h) GS4 ?_
          refine D_qoff (i := 19) rfl rfl rfl (by kernel_rfl) (fun _ _ _ h => h) GS4 ?_
          refine D_qoff (i := 20) rfl rfl rfl (by kernel_rfl) (fun _ _ _ h => h) GS4 ?_
          refine D_qoff (i := 21) rfl rfl rfl (by kernel_rfl) (fun _ _ _ h => h) GS4 ?_
          refine D_qoff (i := 22) rfl rfl rfl (by kernel_rfl) (fun _ _ _ h => h) GS4 ?_
          refine D_qoff (i := 23) rfl rfl rfl (by kernel_rfl) (fun _ _ _ h => h) GS4 ?_
          refine D_qoff (i := 24) rfl rfl rfl (by kernel_rfl) (fun _ _ _ h => h) GS4 ?_
          refine D_qoff (i := 25) rfl rfl rfl (by kernel_rfl) (fun _ _ _ h => h) GS4 ?_
          refine D_qoff (i := 26) rfl rfl rfl (by kernel_rfl) (fun _ _ _ h => h) GS4 ?_
          refine D_q (i := 27) rfl (by kernel_rfl) (fun _ _ _ h => h) GS4 (fun _ _ => Y_pickT rfl rfl) ?_
          refine D_q (i := 28) rfl (by kernel_rfl) (fun _ _ _ h => h) GS4 (fun _ _ => Y_move rfl) ?_
          refine D_qoff (i := 29) rfl rfl rfl (by kernel_rfl) (fun _ _ _ h => h) GS4 ?_
          refine D_qoff (i := 30) rfl rfl rfl (by kernel_rfl) (fun _ _ _ h => h) GS4 ?_
          refine D_qoff (i := 31) rfl rfl rfl (by kernel_rfl) (fun _ _ _ h => h) GS4 ?_
          refine D_qoff (i := 32) rfl rfl rfl (by kernel_rfl) (fun _ _ _ h => h) GS4 ?_
          refine D_qoff (i := 33) rfl rfl rfl (by kernel_rfl) (fun _ _ _ h => h) GS4 ?_
          refine D_qoff (i := 34) rfl rfl rfl (by kernel_rfl) (fun _ _ _ h => h) GS4 ?_
          refine D_qoff (i := 35) rfl rfl rfl (by kernel_rfl) (fun _ _ _ h => h) GS4 ?_
          refine D_qoff (i := 36) rfl rfl rfl (by kernel_rfl) (fun _ _ _ h => h) GS4 ?_
          refine D_qoff (i := 37) rfl rfl rfl (by kernel_rfl) (fun _ _ _ h => h) GS4 ?_
          refine D_qoff (i := 38) rfl rfl rfl (by kernel_rfl) (fun _ _ _ h => h) GS4 ?_
          refine D_qoff (i := 39) rfl rfl rfl (by kernel_rfl) (fun _ _ _ h => h) GS4 ?_
          refine D_qoff (i := 40) rfl rfl rfl (by kernel_rfl) (fun _ _ _ h => h) GS4 ?_
          refine D_qoff (i := 41) rfl rfl rfl (by kernel_rfl) (fun _ _ _ h => h) GS4 ?_
          refine D_qoff (i := 42) rfl rfl rfl (by kernel_rfl) (fun _ _ _ h => h) GS4 ?_
          refine D_q (i := 43) rfl (by kernel_rfl) (fun _ _ _ h => h) GS4 (fun _ _ => Y_pickT rfl rfl) ?_
          refine D_end (L' := (_ :: _ :: _ :: _ :: _ :: _ :: _ :: _ :: _ :: _ :: _ :: _ :: _ :: _ :: _ :: _ :: _ :: _ :: _ :: _ :: _ :: _ :: _ :: _ :: _ :: _ :: _ :: _ :: _ :: _ :: _ :: _ :: _ :: _ :: _ :: _ :: _ :: _ :: _ :: _ :: _ :: _ :: _ :: _ :: _ :: _ :: _ :: _ :: _ :: _ :: _ :: _ :: _ :: _ :: _ :: _ :: _ :: _ :: _ :: _ :: _ :: _ :: _ :: _ :: _ :: _ :: _ :: _ :: _ :: [])) (by kernel_rfl) rfl rfl ?_
          refine th_n ?_
          refine hK10 _ _ ?_
          clear hK10 K10
          refine S_ifT rfl ?_
          refine wp_seq_k fun K11 hK11 => ?_
          refine wp_region_lit ?_  -- region 7 laws.go:582
          refine S_beg 69 rfl ?_
          refine S_val (Y_assign rfl) ?_
          refine S_nil (L' := (_ :: _ :: _ :: _ :: _ :: _ :: _ :: _ :: _ :: _ :: _ :: _ :: _ :: _ :: _ :: _ :: _ :: _ :: _ :: _ :: _ :: _ :: _ :: _ :: _ :: _ :: _ :: _ :: _ :: _ :: _ :: _ :: _ :: _ :: _ :: _ :: _ :: _ :: _ :: _ :: _ :: _ :: _ :: _ :: _ :: _ :: _ :: _ :: _ :: _ :: _ :: _ :: _ :: _ :: _ :: _ :: _ :: _ :: _ :: _ :: _ :: _ :: _ :: _ :: _ :: _ :: _ :: _ :: _ :: [])) rfl rfl ?_
          refine th_n ?_
          refine hK11 _ _ ?_
          clear hK11 K11
          refine wp_ret ?_
          refine ib_r ?_
          refine th_r ?_
          clear GL3
          refine th_r ?_
          refine ib_r ?_
          refine th_r ?_
          clear hK9 K9 hK5 K5
          refine ret_r1 rfl rfl ?_  -- r2
          exact ⟨bF (fun e => hb3 (by subst e; rfl)), G⟩
        · -- g1F
          first | with_reducible (replace hb3 := nb_nt hb3) | with_reducible (replace hb3 := nb_nf hb3) | with_reducible (replace hb3 := nb_tt hb3) | with_reducible (replace hb3 := nb_tf hb3) | with_reducible (replace hb3 := nb_bt hb3) | with_reducible (replace hb3 := nb_bf hb3) | skip
          refine D_qon (i := 14) rfl rfl rfl (by kernel_rfl) (fun _ _ _ h => h) GS4 (fun _ _ => Y_field Try.underlying31 rfl fz31_0 (by decide) rfl) ?_
          refine D_qon (i := 15) rfl rfl rfl (by kernel_rfl) (fun _ _ _ h => h) GS4 (fun _ hs => Y_load Try.underlying28 rfl rfl (by first | exact hs.cell0 (by assumption) | exact hs.cell0 (B1.at (by rfl)) | exact hs.cell0 (B2.at (by rfl)) | exact hs.cell0 (B1d4.at (by rfl)) | exact hs.cell0 (B2d4.at (by rfl)) | exact hs.cell0 (cc1.at (by rfl)) | exact hs.cell0 (cc2.at (by rfl)))) ?_
          refine D_qon (i := 16) rfl rfl rfl (by kernel_rfl) (fun _ _ _ h => h) GS4 (fun _ _ => Y_move rfl) ?_
          refine D_qon (i := 17) rfl rfl rfl (by kernel_rfl) (fun _ _ _ h => h) GS4 (fun _ _ => Y_index Try.underlying28 sz90 rfl rfl (by first | assumption | omega)) ?_
          refine D_qon (i := 18) rfl rfl rfl (by kernel_rfl) (fun _ _ _ h => h) GS4 (fun _ _ => Y_field Try.underlying90 rfl fz90_1 (by decide) rfl) ?_
          refine D_qon (i := 19) rfl rfl rfl (by kernel_rfl) (fun _ _ _ h => h) GS4 (fun _ hs => Y_load Try.underlying3 rfl rfl (by first | exact hs.cell0 (by assumption) | exact hs.cell0 (B1.at (by rfl)) | exact hs.cell0 (B2.at (by rfl)) | exact hs.cell0 (B1d4.at (by rfl)) | exact hs.cell0 (B2d4.at (by rfl)) | exact hs.cell0 (cc1.at (by rfl)) | exact hs.cell0 (cc2.at (by rfl)))) ?_
          refine D_qon (i := 20) rfl rfl rfl (by kernel_rfl) (fun _ _ _ h => h) GS4 (fun _ _ => Y_field Try.underlying31 rfl fz31_0 (by decide) rfl) ?_
          refine D_qon (i := 21) rfl rfl rfl (by kernel_rfl) (fun _ _ _ h => h) GS4 (fun _ hs => Y_load Try.underlying28 rfl rfl (by first | exact hs.cell0 (by assumption) | exact hs.cell0 (B1.at (by rfl)) | exact hs.cell0 (B2.at (by rfl)) | exact hs.cell0 (B1d4.at (by rfl)) | exact hs.cell0 (B2d4.at (by rfl)) | exact hs.cell0 (cc1.at (by rfl)) | exact hs.cell0 (cc2.at (by rfl)))) ?_
          refine D_qon (i := 22) rfl rfl rfl (by kernel_rfl) (fun _ _ _ h => h) GS4 (fun _ _ => Y_move rfl) ?_
          refine D_qon (i := 23) rfl rfl rfl (by kernel_rfl) (fun _ _ _ h => h) GS4 (fun _ _ => Y_index Try.underlying28 sz90 rfl rfl (by first | assumption | omega)) ?_
          refine D_qon (i := 24) rfl rfl rfl (by kernel_rfl) (fun _ _ _ h => h) GS4 (fun _ _ => Y_field Try.underlying90 rfl fz90_1 (by decide) rfl) ?_
          refine D_qon (i := 25) rfl rfl rfl (by kernel_rfl) (fun _ _ _ h => h) GS4 (fun _ hs => Y_load Try.underlying3 rfl rfl (by first | exact hs.cell0 (by assumption) | exact hs.cell0 (B1.at (by rfl)) | exact hs.cell0 (B2.at (by rfl)) | exact hs.cell0 (B1d4.at (by rfl)) | exact hs.cell0 (B2d4.at (by rfl)) | exact hs.cell0 (cc1.at (by rfl)) | exact hs.cell0 (cc2.at (by rfl)))) ?_
          refine D_qon (i := 26) rfl rfl rfl (by kernel_rfl) (fun _ _ _ h => h) GS4 (fun _ _ => Y_neq rfl rfl) ?_
          refine D_q (i := 27) rfl (by kernel_rfl) (fun _ _ _ h => h) GS4 (fun _ _ => Y_pickF rfl rfl) ?_
          refine D_q (i := 28) rfl (by kernel_rfl) (fun _ _ _ h => h) GS4 (fun _ _ => Y_move rfl) ?_
          refine D_g 48 rfl (fun hb4 => ?_) (fun hb4 => ?_)  -- g2
          · -- g2T
            first | with_reducible (replace hb4 := nb_nt hb4) | with_reducible (replace hb4 := nb_nf hb4) | with_reducible (replace hb4 := nb_tt hb4) | with_reducible (replace hb4 := nb_tf hb4) | with_reducible (replace hb4 := nb_bt hb4) | with_reducible (replace hb4 := nb_bf hb4) | skip
            refine D_qoff (i := 29) rfl rfl rfl (by kernel_rfl) (fun _ _ _ h => h) GS4 ?_
            refine D_qoff (i := 30) rfl rfl rfl (by kernel_rfl) (fun _ _ _ h => h) GS4 ?_
            refine D_qoff (i := 31) rfl rfl rfl (by kernel_rfl) (fun _ _ _ h => h) GS4 ?_
            refine D_qoff (i := 32) rfl rfl rfl (by kernel_rfl) (fun _ _ _ h => h) GS4 ?_
            refine D_qoff (i := 33) rfl rfl rfl (by kernel_rfl) (fun _ _ _ h => h) GS4 ?_
            refine D_qoff (i := 34) rfl rfl rfl (by kernel_rfl) (fun _ _ _ h => h) GS4 ?_
            refine D_qoff (i := 35) rfl rfl rfl (by kernel_rfl) (fun _ _ _ h => h) GS4 ?_
            refine D_qoff (i := 36) rfl rfl rfl (by kernel_rfl) (fun _ _ _ h => h) GS4 ?_
            refine D_qoff (i := 37) rfl rfl rfl (by kernel_rfl) (fun _ _ _ h => h) GS4 ?_
            refine D_qoff (i := 38) rfl rfl rfl (by kernel_rfl) (fun _ _ _ h => h) GS4 ?_
            refine D_qoff (i := 39) rfl rfl rfl (by kernel_rfl) (fun _ _ _ h => h) GS4 ?_
            refine D_qoff (i := 40) rfl rfl rfl (by kernel_rfl) (fun _ _ _ h => h) GS4 ?_
            refine D_qoff (i := 41) rfl rfl rfl (by kernel_rfl) (fun _ _ _ h => h) GS4 ?_
            refine D_qoff (i := 42) rfl rfl rfl (by kernel_rfl) (fun _ _ _ h => h) GS4 ?_
            refine D_q (i := 43) rfl (by kernel_rfl) (fun _ _ _ h => h) GS4 (fun _ _ => Y_pickT rfl rfl) ?_
            refine D_end (L' := (_ :: _ :: _ :: _ :: _ :: _ :: _ :: _ :: _ :: _ :: _ :: _ :: _ :: _ :: _ :: _ :: _ :: _ :: _ :: _ :: _ :: _ :: _ :: _ :: _ :: _ :: _ :: _ :: _ :: _ :: _ :: _ :: _ :: _ :: _ :: _ :: _ :: _ :: _ :: _ :: _ :: _ :: _ :: _ :: _ :: _ :: _ :: _ :: _ :: _ :: _ :: _ :: _ :: _ :: _ :: _ :: _ :: _ :: _ :: _ :: _ :: _ :: _ :: _ :: _ :: _ :: _ :: _ :: _ :: [])) (by kernel_rfl) rfl rfl ?_
            refine th_n ?_
            refine hK10 _ _ ?_
            clear hK10 K10
            refine S_ifT rfl ?_
            refine wp_seq_k fun K12 hK12 => ?_
            refine wp_region_lit ?_  -- region 7 laws.go:582
            refine S_beg 69 rfl ?_
            refine S_val (Y_assign rfl) ?_
            refine S_nil (L' := (_ :: _ :: _ :: _ :: _ :: _ :: _ :: _ :: _ :: _ :: _ :: _ :: _ :: _ :: _ :: _ :: _ :: _ :: _ :: _ :: _ :: _ :: _ :: _ :: _ :: _ :: _ :: _ :: _ :: _ :: _ :: _ :: _ :: _ :: _ :: _ :: _ :: _ :: _ :: _ :: _ :: _ :: _ :: _ :: _ :: _ :: _ :: _ :: _ :: _ :: _ :: _ :: _ :: _ :: _ :: _ :: _ :: _ :: _ :: _ :: _ :: _ :: _ :: _ :: _ :: _ :: _ :: _ :: _ :: [])) rfl rfl ?_
            refine th_n ?_
            refine hK12 _ _ ?_
            clear hK12 K12
            refine wp_ret ?_
            refine ib_r ?_
            refine th_r ?_
            clear GL3
            refine th_r ?_
            refine ib_r ?_
            refine th_r ?_
            clear hK9 K9 hK5 K5
            refine ret_r1 rfl rfl ?_  -- r3
            exact ⟨bF (fun e => hb4 (by subst e; rfl)), G⟩
          · -- g2F
            first | with_reducible (replace hb4 := nb_nt hb4) | with_reducible (replace hb4 := nb_nf hb4) | with_reducible (replace hb4 := nb_tt hb4) | with_reducible (replace hb4 := nb_tf hb4) | with_reducible (replace hb4 := nb_bt hb4) | with_reducible (replace hb4 := nb_bf hb4) | skip
            refine D_qon (i := 29) rfl rfl rfl (by kernel_rfl) (fun _ _ _ h => h) GS4 (fun _ _ => Y_field Try.underlying31 rfl fz31_0 (by decide) rfl) ?_
            refine D_qon (i := 30) rfl rfl rfl (by kernel_rfl) (fun _ _ _ h => h) GS4 (fun _ hs => Y_load Try.underlying28 rfl rfl (by first | exact hs.cell0 (by assumption) | exact hs.cell0 (B1.at (by rfl)) | exact hs.cell0 (B2.at (by rfl)) | exact hs.cell0 (B1d4.at (by rfl)) | exact hs.cell0 (B2d4.at (by rfl)) | exact hs.cell0 (cc1.at (by rfl)) | exact hs.cell0 (cc2.at (by rfl)))) ?_
            refine D_qon (i := 31) rfl rfl rfl (by kernel_rfl) (fun _ _ _ h => h) GS4 (fun _ _ => Y_move rfl) ?_
            refine D_qon (i := 32) rfl rfl rfl (by kernel_rfl) (fun _ _ _ h => h) GS4 (fun _ _ => Y_index Try.underlying28 sz90 rfl rfl (by first | assumption | omega)) ?_
            refine D_qon (i := 33) rfl rfl rfl (by kernel_rfl) (fun _ _ _ h => h) GS4 (fun _ _ => Y_field Try.underlying90 rfl fz90_2 (by decide) rfl) ?_
            refine D_qon (i := 34) rfl rfl rfl (by kernel_rfl) (fun _ _ _ h => h) GS4 (fun _ hs => Y_load Try.underlying29 rfl rfl (by first | exact hs.cell0 (by assumption) | exact hs.cell0 (B1.at (by rfl)) | exact hs.cell0 (B2.at (by rfl)) | exact hs.cell0 (B1d4.at (by rfl)) | exact hs.cell0 (B2d4.at (by rfl)) | exact hs.cell0 (cc1.at (by rfl)) | exact hs.cell0 (cc2.at (by rfl)))) ?_
            refine D_qon (i := 35) rfl rfl rfl (by kernel_rfl) (fun _ _ _ h => h) GS4 (fun _ _ => Y_field Try.underlying31 rfl fz31_0 (by decide) rfl) ?_
            refine D_qon (i := 36) rfl rfl rfl (by kernel_rfl) (fun _ _ _ h => h) GS4 (fun _ hs => Y_load Try.underlying28 rfl rfl (by first | exact hs.cell0 (by assumption) | exact hs.cell0 (B1.at (by rfl)) | exact hs.cell0 (B2.at (by rfl)) | exact hs.cell0 (B1d4.at (by rfl)) | exact hs.cell0 (B2d4.at (by rfl)) | exact hs.cell0 (cc1.at (by rfl)) | exact hs.cell0 (cc2.at (by rfl)))) ?_
            refine D_qon (i := 37) rfl rfl rfl (by kernel_rfl) (fun _ _ _ h => h) GS4 (fun _ _ => Y_move rfl) ?_
            refine D_qon (i := 38) rfl rfl rfl (by kernel_rfl) (fun _ _ _ h => h) GS4 (fun _ _ => Y_index Try.underlying28 sz90 rfl rfl (by first | assumption | omega)) ?_
            refine D_qon (i := 39) rfl rfl rfl (by kernel_rfl) (fun _ _ _ h => h) GS4 (fun _ _ => Y_field Try.underlying90 rfl fz90_2 (by decide) rfl) ?_
            refine D_qon (i := 40) rfl rfl rfl (by kernel_rfl) (fun _ _ _ h => h) GS4 (fun _ hs => Y_load Try.underlying29 rfl rfl (by first | exact hs.cell0 (by assumption) | exact hs.cell0 (B1.at (by rfl)) | exact hs.cell0 (B2.at (by rfl)) | exact hs.cell0 (B1d4.at (by rfl)) | exact hs.cell0 (B2d4.at (by rfl)) | exact hs.cell0 (cc1.at (by rfl)) | exact hs.cell0 (cc2.at (by rfl)))) ?_
            refine D_1 (i := 41) (by kernel_rfl) ?_
            refine E_calln rfl rfl rfl rfl en39 (laws_sameInts_c _ _ _ _ _ _ _ _ _ (by assumption) (by assumption) (by omega)) ?_  -- k1 laws.sameInts
            rintro v5 w5 ⟨rfl, g5⟩
            replace hA := hA.grow g5
            replace hB := hB.grow g5
            replace hA2 := hA2.grow g5
            replace hB2 := hB2.grow g5
            replace hE1 := hE1.grow g5
            replace hE2 := hE2.grow g5
            replace G := G.grow g5
            replace GL3 := GL3.grow g5
            replace GS4 := GS4.grow g5
            replace B1 := B1.grow g5
            replace B2 := B2.grow g5
            replace cc1 := cc1.grow g5
            replace cc2 := cc2.grow g5
            have zg5 := g5.size
            refine ⟨GS4, ?_⟩
            refine D_qon (i := 42) rfl rfl rfl (by kernel_rfl) (fun _ _ _ h => h) GS4 (fun _ _ => Y_not rfl) ?_
            refine D_q (i := 43) rfl (by kernel_rfl) (fun _ _ _ h => h) GS4 (fun _ _ => Y_pickF rfl rfl) ?_
            refine D_end (L' := (_ :: _ :: _ :: _ :: _ :: _ :: _ :: _ :: _ :: _ :: _ :: _ :: _ :: _ :: _ :: _ :: _ :: _ :: _ :: _ :: _ :: _ :: _ :: _ :: _ :: _ :: _ :: _ :: _ :: _ :: _ :: _ :: _ :: _ :: _ :: _ :: _ :: _ :: _ :: _ :: _ :: _ :: _ :: _ :: _ :: _ :: _ :: _ :: _ :: _ :: _ :: _ :: _ :: _ :: _ :: _ :: _ :: _ :: _ :: _ :: _ :: _ :: _ :: _ :: _ :: _ :: _ :: _ :: _ :: [])) (by kernel_rfl) rfl rfl ?_
            refine th_n ?_
            refine hK10 _ _ ?_
            clear hK10 K10
            refine S_if rfl (fun hb5 => ?_) (fun hb5 => ?_)  -- c3
            · -- c3T
              first | with_reducible (replace hb5 := nb_nt hb5) | with_reducible (replace hb5 := nb_nf hb5) | with_reducible (replace hb5 := nb_tt hb5) | with_reducible (replace hb5 := nb_tf hb5) | with_reducible (replace hb5 := nb_bt hb5) | with_reducible (replace hb5 := nb_bf hb5) | skip
              refine wp_seq_k fun K13 hK13 => ?_
              refine wp_region_lit ?_  -- region 7 laws.go:582
              refine S_beg 69 rfl ?_
              refine S_val (Y_assign rfl) ?_
              refine S_nil (L' := (_ :: _ :: _ :: _ :: _ :: _ :: _ :: _ :: _ :: _ :: _ :: _ :: _ :: _ :: _ :: _ :: _ :: _ :: _ :: _ :: _ :: _ :: _ :: _ :: _ :: _ :: _ :: _ :: _ :: _ :: _ :: _ :: _ :: _ :: _ :: _ :: _ :: _ :: _ :: _ :: _ :: _ :: _ :: _ :: _ :: _ :: _ :: _ :: _ :: _ :: _ :: _ :: _ :: _ :: _ :: _ :: _ :: _ :: _ :: _ :: _ :: _ :: _ :: _ :: _ :: _ :: _ :: _ :: _ :: [])) rfl rfl ?_
              refine th_n ?_
              refine hK13 _ _ ?_
              clear hK13 K13
              refine wp_ret ?_
              refine ib_r ?_
              refine th_r ?_
              clear GL3
              refine th_r ?_
              refine ib_r ?_
              refine th_r ?_
              clear hK9 K9 hK5 K5
              refine ret_r1 rfl rfl ?_  -- r4
              exact ⟨bF (fun e => hb5 (by subst e; rfl)), G⟩
            · -- c3F
              first | with_reducible (replace hb5 := nb_nt hb5) | with_reducible (replace hb5 := nb_nf hb5) | with_reducible (replace hb5 := nb_tt hb5) | with_reducible (replace hb5 := nb_tf hb5) | with_reducible (replace hb5 := nb_bt hb5) | with_reducible (replace hb5 := nb_bf hb5) | skip
              refine wp_skip ?_
              refine ib_n ?_
              refine th_n ?_
              refine hK9 _ _ ?_
              clear hK9 K9
              refine wp_region_lit ?_  -- region 5 laws.go:580
              refine S_beg 69 rfl ?_
              refine S_val (Y_move rfl) ?_
              refine S_val (Y_inc rfl rfl (by omega)) ?_
              refine S_val (Y_assign rfl) ?_
              refine S_nil (L' := (_ :: _ :: _ :: _ :: _ :: _ :: _ :: _ :: _ :: _ :: _ :: _ :: _ :: _ :: _ :: _ :: _ :: _ :: _ :: _ :: _ :: _ :: _ :: _ :: _ :: _ :: _ :: _ :: _ :: _ :: _ :: _ :: _ :: _ :: _ :: _ :: _ :: _ :: _ :: _ :: _ :: _ :: _ :: _ :: _ :: _ :: _ :: _ :: _ :: _ :: _ :: _ :: _ :: _ :: _ :: _ :: _ :: _ :: _ :: _ :: _ :: _ :: _ :: _ :: _ :: _ :: _ :: _ :: _ :: [])) rfl rfl ?_
              refine th_n ?_
              go_roundw  -- e1 of L1
              case rel =>
                refine ⟨?_, GL3⟩
                exact ⟨k + 1, rfl, by omega, take_eq hs (by omega) (by omega) (lc_ext hb3 hb4 hb5)⟩
              case measure =>
                exact dec_nat (by omega)
      · -- c2F
        first | with_reducible (replace hb2 := nb_nt hb2) | with_reducible (replace hb2 := nb_nf hb2) | with_reducible (replace hb2 := nb_tt hb2) | with_reducible (replace hb2 := nb_tf hb2) | with_reducible (replace hb2 := nb_bt hb2) | with_reducible (replace hb2 := nb_bf hb2) | skip
        refine wp_exit ?_
        refine th_x ?_
        clear GL3
        refine th_x ?_
        refine ib_e ?_
        refine th_n ?_
        refine hK5 _ _ ?_
        clear hK7 K7 hK5 K5
        refine wp_seq_k fun K14 hK14 => ?_
        refine wp_region_lit ?_  -- region 8 laws.go:585
        refine S_beg 69 rfl ?_
        refine S_val (Y_field Try.underlying31 rfl fz31_1 (by decide) rfl) ?_
        refine S_val (Y_load Try.underlying29 rfl rfl (by first | assumption | exact B1.at (by rfl) | exact B2.at (by rfl))) ?_  -- l16
        refine S_val (Y_field Try.underlying31 rfl fz31_1 (by decide) rfl) ?_
        refine S_val (Y_load Try.underlying29 rfl rfl (by first | assumption | exact B1.at (by rfl) | exact B2.at (by rfl))) ?_  -- l17
        refine S_call rfl en39 (laws_sameInts_c _ _ _ _ _ _ _ _ _ (by assumption) (by assumption) (by omega)) ?_  -- k2 laws.sameInts
        rintro v6 w6 ⟨rfl, g6⟩
        replace hA := hA.grow g6
        replace hB := hB.grow g6
        replace hA2 := hA2.grow g6
        replace hB2 := hB2.grow g6
        replace G := G.grow g6
        replace B1 := B1.grow g6
        replace B2 := B2.grow g6
        have zg6 := g6.size
        refine S_val (Y_assign rfl) ?_
        refine S_nil (L' := (_ :: _ :: _ :: _ :: _ :: _ :: _ :: _ :: _ :: _ :: _ :: _ :: _ :: _ :: _ :: _ :: _ :: _ :: _ :: _ :: _ :: _ :: _ :: _ :: _ :: _ :: _ :: _ :: _ :: _ :: _ :: _ :: _ :: _ :: _ :: _ :: _ :: _ :: _ :: _ :: _ :: _ :: _ :: _ :: _ :: _ :: _ :: _ :: _ :: _ :: _ :: _ :: _ :: _ :: _ :: _ :: _ :: _ :: _ :: _ :: _ :: _ :: _ :: _ :: _ :: _ :: _ :: _ :: _ :: [])) rfl rfl ?_
        refine th_n ?_
        refine hK14 _ _ ?_
        clear hK14 K14
        refine wp_ret ?_
        refine ret_r1 rfl rfl ?_  -- r5
        rw [show decide (x = y) = decide (x.roots = y.roots) by rw [decide_eq_decide]; exact ⟨fun e => by rw [e], fun e => lh_ext (take_all hs (by omega) (by omega)) e⟩]
        exact ⟨rfl, G⟩

end Go.Proofs.Ytfcblicpfbfojaa
