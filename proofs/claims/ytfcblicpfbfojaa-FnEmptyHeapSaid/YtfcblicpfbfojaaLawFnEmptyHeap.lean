/-
  The law FnEmptyHeap returns true.
  Conditions: those that each theorem states.
-/
import Derived.Test.YtfcblicpfbfojaaTy
import Derived.Test.YtfcblicpfbfojaaWalkX
namespace Go.Proofs.Ytfcblicpfbfojaa
open Go Go.RowKit
attribute [local irreducible] wpList wpAnyH Code.wp dOp

set_option maxHeartbeats 400000 in
set_option maxRecDepth 20000 in
theorem laws_FnEmptyHeap_c (Pr : Nat → Prop) (A : Option Addr) (xs : List Int) (c : Nat) (w : World) (hA : R1 Pr w A (u8s xs)) (hn : xs.length ≤ 9223372036854775807) (hcap : xs.length ≤ c) (hrg : ∀ y ∈ xs, 0 ≤ y ∧ y ≤ 255) :
    Calls Try.prog 7 #[.slice A xs.length c] w (Ret fun v w' => v = .bool true ∧ Grow w w') := by
  have hz : hsize emptyH ≤ 1048576 := by decide
  have hvE : validB emptyH = true := by decide
  have huE : usedV emptyH = (0, 0) := by decide
  refine enter Try.func7 rfl Try.ntmps7 (L := (_ :: _ :: _ :: _ :: _ :: _ :: _ :: _ :: _ :: _ :: _ :: _ :: _ :: _ :: _ :: _ :: _ :: _ :: _ :: _ :: _ :: _ :: _ :: _ :: _ :: _ :: _ :: _ :: _ :: _ :: _ :: _ :: _ :: [])) rfl ?_
  have G := Mod.refl No w
  have hA0 := hA
  refine wp_seq_k fun K1 hK1 => ?_
  refine wp_region_lit ?_  -- region 0 laws.go:607
  refine S_beg 33 rfl ?_
  refine S_val (Y_assign rfl) ?_
  refine S_nil (L' := (_ :: _ :: _ :: _ :: _ :: _ :: _ :: _ :: _ :: _ :: _ :: _ :: _ :: _ :: _ :: _ :: _ :: _ :: _ :: _ :: _ :: _ :: _ :: _ :: _ :: _ :: _ :: _ :: _ :: _ :: _ :: _ :: _ :: [])) rfl rfl ?_
  refine th_n ?_
  refine hK1 _ _ ?_
  clear hK1 K1
  refine wp_seq_k fun K2 hK2 => ?_
  refine wp_seq_k fun K3 hK3 => ?_
  refine wp_region_lit ?_  -- region 1 laws.go:608
  refine S_beg 33 rfl ?_
  refine S_val (Y_move rfl) ?_
  refine S_val (Y_len Try.underlying43 rfl) ?_
  refine S_val (Y_gtr rfl rfl) ?_
  refine S_nil (L' := (_ :: _ :: _ :: _ :: _ :: _ :: _ :: _ :: _ :: _ :: _ :: _ :: _ :: _ :: _ :: _ :: _ :: _ :: _ :: _ :: _ :: _ :: _ :: _ :: _ :: _ :: _ :: _ :: _ :: _ :: _ :: _ :: _ :: [])) rfl rfl ?_
  refine th_n ?_
  refine hK3 _ _ ?_
  clear hK3 K3
  refine S_if rfl (fun hb1 => ?_) (fun hb1 => ?_)  -- c1
  · -- c1T
    first | with_reducible (replace hb1 := nb_nt hb1) | with_reducible (replace hb1 := nb_nf hb1) | with_reducible (replace hb1 := nb_tt hb1) | with_reducible (replace hb1 := nb_tf hb1) | with_reducible (replace hb1 := nb_bt hb1) | with_reducible (replace hb1 := nb_bf hb1) | skip
    refine wp_seq_k fun K4 hK4 => ?_
    refine wp_region_lit ?_  -- region 2 laws.go:609
    refine S_beg 33 rfl ?_
    refine S_val (Y_assign rfl) ?_
    refine S_nil (L' := (_ :: _ :: _ :: _ :: _ :: _ :: _ :: _ :: _ :: _ :: _ :: _ :: _ :: _ :: _ :: _ :: _ :: _ :: _ :: _ :: _ :: _ :: _ :: _ :: _ :: _ :: _ :: _ :: _ :: _ :: _ :: _ :: _ :: [])) rfl rfl ?_
    refine th_n ?_
    refine hK4 _ _ ?_
    clear hK4 K4
    refine wp_ret ?_
    refine th_r ?_
    clear hK2 K2
    refine ret_r1 rfl rfl ?_  -- r1
    exact ⟨rfl, G⟩
  · -- c1F
    first | with_reducible (replace hb1 := nb_nt hb1) | with_reducible (replace hb1 := nb_nf hb1) | with_reducible (replace hb1 := nb_tt hb1) | with_reducible (replace hb1 := nb_tf hb1) | with_reducible (replace hb1 := nb_bt hb1) | with_reducible (replace hb1 := nb_bf hb1) | skip
    refine wp_skip ?_
    refine th_n ?_
    refine hK2 _ _ ?_
    clear hK2 K2
    refine wp_seq_k fun K5 hK5 => ?_
    refine wp_region_lit ?_  -- region 3 laws.go:611
    refine S_beg 33 rfl ?_
    refine S_call rfl en19 (impl_EmptyHeap_c _) ?_  -- k1 impl.EmptyHeap
    rintro v1 w1 ⟨A1, B1, n11, c11, n21, c21, rs1, rfl, hn11, hn21, O1, g1⟩
    replace hA := hA.grow g1
    replace G := G.grow g1
    have zg1 := g1.size
    subst hn11
    subst hn21
    replace O1 := O1.lt
    have hAg := O1.rc
    have hBg := O1.r1
    refine S_alloc (cs := [_, _]) zr31 rfl ?_
    intro b2 w2 fb2 g2 B2
    have lb2 := B2.lt
    replace hA := hA.grow g2
    replace hAg := hAg.grow g2
    replace hBg := hBg.grow g2
    replace G := G.grow g2
    have zg2 := g2.size
    refine S_stM (pre := []) (old := [_, _]) (post := []) (vs := [_, _]) sz31 rfl rfl rfl (by first | rfl | assumption) B2 rfl rfl ?_
    intro w3 m3 X3
    replace B2 := Blk.eq (ys := [_, _]) X3 rfl
    clear X3
    replace G := G.above m3 (by intro i h; first | omega | (dsimp only at h; omega))
    replace hA := hA0.grow G
    replace hAg := hAg.mod m3 (by intro k hk h; first | omega | (dsimp only at hk h; omega) | (dsimp only at hk; omega))
    replace hBg := hBg.mod m3 (by intro k hk h; first | omega | (dsimp only at hk h; omega) | (dsimp only at hk; omega))
    have zm3 := m3.size
    refine S_nil (L' := (_ :: _ :: _ :: _ :: _ :: _ :: _ :: _ :: _ :: _ :: _ :: _ :: _ :: _ :: _ :: _ :: _ :: _ :: _ :: _ :: _ :: _ :: _ :: _ :: _ :: _ :: _ :: _ :: _ :: _ :: _ :: _ :: _ :: [])) rfl rfl ?_
    refine th_n ?_
    refine hK5 _ _ ?_
    clear hK5 K5
    refine wp_seq_k fun K6 hK6 => ?_
    refine wp_region_lit ?_  -- region 4 laws.go:612
    refine S_beg 33 rfl ?_
    refine S_val (Y_loadS Try.underlying31 rfl sz31 rfl (by first | assumption | exact B2.row (by rfl))) ?_  -- l1
    refine S_call rfl en30 (impl_UsedCells_c _ _ _ _ _ _ _ (by assumption) (by assumption) (by omega)) ?_  -- k2 impl.UsedCells
    rintro v4 w4 ⟨rfl, g4⟩
    replace hA := hA.grow g4
    replace hAg := hAg.grow g4
    replace hBg := hBg.grow g4
    replace G := G.grow g4
    replace B2 := B2.grow g4
    have zg4 := g4.size
    rw [huE]
    refine S_val (Y_move rfl) ?_
    refine S_val (Y_extract rfl rfl) ?_
    refine S_val (Y_extract rfl rfl) ?_
    refine S_val (Y_assign rfl) ?_
    refine S_val (Y_assign rfl) ?_
    refine S_nil (L' := (_ :: _ :: _ :: _ :: _ :: _ :: _ :: _ :: _ :: _ :: _ :: _ :: _ :: _ :: _ :: _ :: _ :: _ :: _ :: _ :: _ :: _ :: _ :: _ :: _ :: _ :: _ :: _ :: _ :: _ :: _ :: _ :: _ :: [])) rfl rfl ?_
    refine th_n ?_
    refine hK6 _ _ ?_
    clear hK6 K6
    refine wp_seq_k fun K7 hK7 => ?_
    refine D_start 19 33 (fun w => Mod (No) w) follows rfl rfl ?_  -- d1 region 5 laws.go:613
    intro w5 g5
    replace hA := hA.grow g5
    replace hAg := hAg.grow g5
    replace hBg := hBg.grow g5
    replace G := G.grow g5
    replace B2 := B2.grow g5
    have zg5 := g5.size
    have GS5 := Mod.refl (No) w5
    have B2d5 := B2
    refine D_q (i := 0) rfl (by kernel_rfl) (fun _ _ _ h => h) GS5 (fun _ hs => Y_loadS Try.underlying31 rfl sz31 rfl (by first | exact hs.cells0 (by assumption) | exact hs.cells0 (B2.row (by rfl)) | exact hs.cells0 (B2d5.row (by rfl)))) ?_
    refine D_1 (i := 1) (by kernel_rfl) ?_
    refine E_call rfl rfl en18 (spec_EmptyHeap_c _) ?_  -- k3 spec.EmptyHeap
    rintro v6 w6 ⟨A6, B6, n16, c16, n26, c26, rs6, rfl, hn16, hn26, O6, g6⟩
    replace hA := hA.grow g6
    replace hAg := hAg.grow g6
    replace hBg := hBg.grow g6
    replace G := G.grow g6
    replace GS5 := GS5.grow g6
    replace B2 := B2.grow g6
    have zg6 := g6.size
    subst hn16
    subst hn26
    replace O6 := O6.lt
    have hAw := O6.rc
    have hBw := O6.r1
    refine ⟨GS5, ?_⟩
    refine D_1 (i := 2) (by kernel_rfl) ?_
    refine E_call rfl rfl en31 (laws_sameHeap_c _ _ _ _ _ _ _ _ _ _ _ _ _ (by assumption) (by assumption) (by assumption) (by assumption) (by omega)) ?_  -- k4 laws.sameHeap
    rintro v7 w7 ⟨rfl, g7⟩
    replace hA := hA.grow g7
    replace hAg := hAg.grow g7
    replace hBg := hBg.grow g7
    replace hAw := hAw.grow g7
    replace hBw := hBw.grow g7
    replace G := G.grow g7
    replace GS5 := GS5.grow g7
    replace B2 := B2.grow g7
    have zg7 := g7.size
    refine ⟨GS5, ?_⟩
    refine D_q (i := 3) rfl (by kernel_rfl) (fun _ _ _ h => h) GS5 (fun _ _ => Y_move rfl) ?_
    refine D_g 18 rfl (fun hb2 => ?_) (fun hb2 => ?_)  -- g1
    · -- g1T
      first | with_reducible (replace hb2 := nb_nt hb2) | with_reducible (replace hb2 := nb_nf hb2) | with_reducible (replace hb2 := nb_tt hb2) | with_reducible (replace hb2 := nb_tf hb2) | with_reducible (replace hb2 := nb_bt hb2) | with_reducible (replace hb2 := nb_bf hb2) | skip
      refine D_qon (i := 4) rfl rfl rfl (by kernel_rfl) (fun _ _ _ h => h) GS5 (fun _ hs => Y_loadS Try.underlying31 rfl sz31 rfl (by first | exact hs.cells0 (by assumption) | exact hs.cells0 (B2.row (by rfl)) | exact hs.cells0 (B2d5.row (by rfl)))) ?_
      refine D_1 (i := 5) (by kernel_rfl) ?_
      refine E_calln rfl rfl rfl rfl en32 (impl_HeapValid_c _ _ _ _ _ _ _ (by assumption) (by assumption) (by omega)) ?_  -- k5 impl.HeapValid
      rintro v8 w8 ⟨rfl, g8⟩
      replace hA := hA.grow g8
      replace hAg := hAg.grow g8
      replace hBg := hBg.grow g8
      replace hAw := hAw.grow g8
      replace hBw := hBw.grow g8
      replace G := G.grow g8
      replace GS5 := GS5.grow g8
      replace B2 := B2.grow g8
      have zg8 := g8.size
      refine ⟨GS5, ?_⟩
      refine D_q (i := 6) rfl (by kernel_rfl) (fun _ _ _ h => h) GS5 (fun _ _ => Y_pickT rfl rfl) ?_
      refine D_q (i := 7) rfl (by kernel_rfl) (fun _ _ _ h => h) GS5 (fun _ _ => Y_move rfl) ?_
      refine D_g 22 rfl (fun hb3 => ?_) (fun hb3 => ?_)  -- g2
      · -- g2T
        first | with_reducible (replace hb3 := nb_nt hb3) | with_reducible (replace hb3 := nb_nf hb3) | with_reducible (replace hb3 := nb_tt hb3) | with_reducible (replace hb3 := nb_tf hb3) | with_reducible (replace hb3 := nb_bt hb3) | with_reducible (replace hb3 := nb_bf hb3) | skip
        refine D_qon (i := 8) rfl rfl rfl (by kernel_rfl) (fun _ _ _ h => h) GS5 (fun _ _ => Y_move rfl) ?_
        refine D_qon (i := 9) rfl rfl rfl (by kernel_rfl) (fun _ _ _ h => h) GS5 (fun _ _ => Y_eql rfl rfl) ?_
        refine D_q (i := 10) rfl (by kernel_rfl) (fun _ _ _ h => h) GS5 (fun _ _ => Y_pickT rfl rfl) ?_
        refine D_q (i := 11) rfl (by kernel_rfl) (fun _ _ _ h => h) GS5 (fun _ _ => Y_move rfl) ?_
        refine D_g 26 rfl (fun hb4 => ?_) (fun hb4 => ?_)  -- g3
        · -- g3T
          first | with_reducible (replace hb4 := nb_nt hb4) | with_reducible (replace hb4 := nb_nf hb4) | with_reducible (replace hb4 := nb_tt hb4) | with_reducible (replace hb4 := nb_tf hb4) | with_reducible (replace hb4 := nb_bt hb4) | with_reducible (replace hb4 := nb_bf hb4) | skip
          refine D_qon (i := 12) rfl rfl rfl (by kernel_rfl) (fun _ _ _ h => h) GS5 (fun _ _ => Y_move rfl) ?_
          refine D_qon (i := 13) rfl rfl rfl (by kernel_rfl) (fun _ _ _ h => h) GS5 (fun _ _ => Y_eql rfl rfl) ?_
          refine D_q (i := 14) rfl (by kernel_rfl) (fun _ _ _ h => h) GS5 (fun _ _ => Y_pickT rfl rfl) ?_
          refine D_q (i := 15) rfl (by kernel_rfl) (fun _ _ _ h => h) GS5 (fun _ _ => Y_move rfl) ?_
          refine D_g 30 rfl (fun hb5 => ?_) (fun hb5 => ?_)  -- g4
          · -- g4T
            first | with_reducible (replace hb5 := nb_nt hb5) | with_reducible (replace hb5 := nb_nf hb5) | with_reducible (replace hb5 := nb_tt hb5) | with_reducible (replace hb5 := nb_tf hb5) | with_reducible (replace hb5 := nb_bt hb5) | with_reducible (replace hb5 := nb_bf hb5) | skip
            refine D_1 (i := 16) (by kernel_rfl) ?_
            refine E_calln rfl rfl rfl rfl en29 (laws_alive_c _) ?_  -- k6 laws.alive
            rintro v9 w9 ⟨rfl, g9⟩
            replace hA := hA.grow g9
            replace hAg := hAg.grow g9
            replace hBg := hBg.grow g9
            replace hAw := hAw.grow g9
            replace hBw := hBw.grow g9
            replace G := G.grow g9
            replace GS5 := GS5.grow g9
            replace B2 := B2.grow g9
            have zg9 := g9.size
            refine ⟨GS5, ?_⟩
            refine D_q (i := 17) rfl (by kernel_rfl) (fun _ _ _ h => h) GS5 (fun _ _ => Y_pickT rfl rfl) ?_
            refine D_q (i := 18) rfl (by kernel_rfl) (fun _ _ _ h => h) GS5 (fun _ _ => Y_assign rfl) ?_
            refine D_end (L' := (_ :: _ :: _ :: _ :: _ :: _ :: _ :: _ :: _ :: _ :: _ :: _ :: _ :: _ :: _ :: _ :: _ :: _ :: _ :: _ :: _ :: _ :: _ :: _ :: _ :: _ :: _ :: _ :: _ :: _ :: _ :: _ :: _ :: [])) (by kernel_rfl) rfl rfl ?_
            refine th_n ?_
            refine hK7 _ _ ?_
            clear hK7 K7
            refine wp_ret ?_
            refine ret_r1 rfl rfl ?_  -- r2
            exact ⟨rfl, G⟩
          · -- g4F
            first | with_reducible (replace hb5 := nb_nt hb5) | with_reducible (replace hb5 := nb_nf hb5) | with_reducible (replace hb5 := nb_tt hb5) | with_reducible (replace hb5 := nb_tf hb5) | with_reducible (replace hb5 := nb_bt hb5) | with_reducible (replace hb5 := nb_bf hb5) | skip
            exact absurd rfl hb5
        · -- g3F
          first | with_reducible (replace hb4 := nb_nt hb4) | with_reducible (replace hb4 := nb_nf hb4) | with_reducible (replace hb4 := nb_tt hb4) | with_reducible (replace hb4 := nb_tf hb4) | with_reducible (replace hb4 := nb_bt hb4) | with_reducible (replace hb4 := nb_bf hb4) | skip
          exact absurd rfl hb4
      · -- g2F
        first | with_reducible (replace hb3 := nb_nt hb3) | with_reducible (replace hb3 := nb_nf hb3) | with_reducible (replace hb3 := nb_tt hb3) | with_reducible (replace hb3 := nb_tf hb3) | with_reducible (replace hb3 := nb_bt hb3) | with_reducible (replace hb3 := nb_bf hb3) | skip
        exact absurd hvE (by rw [hb3]; decide)
    · -- g1F
      first | with_reducible (replace hb2 := nb_nt hb2) | with_reducible (replace hb2 := nb_nf hb2) | with_reducible (replace hb2 := nb_tt hb2) | with_reducible (replace hb2 := nb_tf hb2) | with_reducible (replace hb2 := nb_bt hb2) | with_reducible (replace hb2 := nb_bf hb2) | skip
      exact absurd rfl hb2

end Go.Proofs.Ytfcblicpfbfojaa
