/-
  The law FnExactEmptyHeap returns true.
  Conditions: those that each theorem states.
-/
import Derived.Test.YtfcblicpfbfojaaTy
import Derived.Test.YtfcblicpfbfojaaWalkO
namespace Go.Proofs.Ytfcblicpfbfojaa
open Go Go.RowKit
attribute [local irreducible] wpList wpAnyH Code.wp dOp

set_option maxHeartbeats 400000 in
set_option maxRecDepth 20000 in
theorem laws_FnExactEmptyHeap_c (w : World) :
    Calls Try.prog 4 #[] w (Ret fun v w' => v = .bool true ∧ Grow w w') := by
  have hz : hsize emptyH ≤ 1048576 := by decide
  have hk0 := kEnd_ge 1 emptyH
  refine enter Try.func4 rfl Try.ntmps4 (L := (_ :: _ :: _ :: _ :: _ :: _ :: _ :: _ :: _ :: _ :: _ :: _ :: _ :: _ :: _ :: _ :: _ :: _ :: _ :: _ :: _ :: _ :: _ :: _ :: _ :: _ :: _ :: _ :: _ :: _ :: _ :: _ :: _ :: _ :: _ :: _ :: [])) rfl ?_
  have G := Mod.refl No w
  refine wp_seq_k fun K1 hK1 => ?_
  refine wp_region_lit ?_  -- region 0 exact.go:4618
  refine S_beg 36 rfl ?_
  refine S_val (Y_assign rfl) ?_
  refine S_nil (L' := (_ :: _ :: _ :: _ :: _ :: _ :: _ :: _ :: _ :: _ :: _ :: _ :: _ :: _ :: _ :: _ :: _ :: _ :: _ :: _ :: _ :: _ :: _ :: _ :: _ :: _ :: _ :: _ :: _ :: _ :: _ :: _ :: _ :: _ :: _ :: _ :: [])) rfl rfl ?_
  refine th_n ?_
  refine hK1 _ _ ?_
  clear hK1 K1
  refine wp_seq_k fun K2 hK2 => ?_
  refine wp_region_lit ?_  -- region 1 exact.go:4619
  refine S_beg 36 rfl ?_
  refine S_call rfl en18 (spec_EmptyHeap_c _) ?_  -- k1 spec.EmptyHeap
  rintro v1 w1 ⟨A1, B1, n11, c11, n21, c21, rs1, rfl, hn11, hn21, O1, g1⟩
  replace G := G.grow g1
  have zg1 := g1.size
  subst hn11
  subst hn21
  replace O1 := O1.lt
  have OXw := O1
  have hAw := OXw.rc
  have hBw := OXw.r1
  refine S_alloc (cs := [_, _]) zr31 rfl ?_
  intro b2 w2 fb2 g2 B2
  have lb2 := B2.lt
  replace OXw := OXw.grow g2
  replace hAw := hAw.grow g2
  replace hBw := hBw.grow g2
  replace G := G.grow g2
  have zg2 := g2.size
  refine S_stM (pre := []) (old := [_, _]) (post := []) (vs := [_, _]) sz31 rfl rfl rfl (by first | rfl | assumption) B2 rfl rfl ?_
  intro w3 m3 X3
  replace B2 := Blk.eq (ys := [_, _]) X3 rfl
  clear X3
  replace G := G.above m3 (by intro i h; first | omega | (dsimp only at h; omega))
  replace OXw := OXw.mod m3 (by intro k hk h; first | omega | (dsimp only at hk h; omega) | (dsimp only at hk; omega))
  replace hAw := hAw.mod m3 (by intro k hk h; first | omega | (dsimp only at hk h; omega) | (dsimp only at hk; omega))
  replace hBw := hBw.mod m3 (by intro k hk h; first | omega | (dsimp only at hk h; omega) | (dsimp only at hk; omega))
  have zm3 := m3.size
  refine S_nil (L' := (_ :: _ :: _ :: _ :: _ :: _ :: _ :: _ :: _ :: _ :: _ :: _ :: _ :: _ :: _ :: _ :: _ :: _ :: _ :: _ :: _ :: _ :: _ :: _ :: _ :: _ :: _ :: _ :: _ :: _ :: _ :: _ :: _ :: _ :: _ :: _ :: [])) rfl rfl ?_
  refine th_n ?_
  refine hK2 _ _ ?_
  clear hK2 K2
  refine wp_seq_k fun K3 hK3 => ?_
  refine wp_region_lit ?_  -- region 2 exact.go:4620
  refine S_beg 36 rfl ?_
  refine S_call rfl en19 (impl_EmptyHeap_c _) ?_  -- k2 impl.EmptyHeap
  rintro v4 w4 ⟨A4, B4, n14, c14, n24, c24, rs4, rfl, hn14, hn24, O4, g4⟩
  replace OXw := OXw.grow g4
  replace hAw := hAw.grow g4
  replace hBw := hBw.grow g4
  replace G := G.grow g4
  replace B2 := B2.grow g4
  have zg4 := g4.size
  subst hn14
  subst hn24
  replace O4 := O4.lt
  have OXg := O4
  have hAg := OXg.rc
  have hBg := OXg.r1
  refine S_alloc (cs := [_, _]) zr31 rfl ?_
  intro b5 w5 fb5 g5 B5
  have lb5 := B5.lt
  replace OXw := OXw.grow g5
  replace hAw := hAw.grow g5
  replace hBw := hBw.grow g5
  replace OXg := OXg.grow g5
  replace hAg := hAg.grow g5
  replace hBg := hBg.grow g5
  replace G := G.grow g5
  replace B2 := B2.grow g5
  have zg5 := g5.size
  refine S_stM (pre := []) (old := [_, _]) (post := []) (vs := [_, _]) sz31 rfl rfl rfl (by first | rfl | assumption) B5 rfl rfl ?_
  intro w6 m6 X6
  replace B5 := Blk.eq (ys := [_, _]) X6 rfl
  clear X6
  replace G := G.above m6 (by intro i h; first | omega | (dsimp only at h; omega))
  replace OXw := OXw.mod m6 (by intro k hk h; first | omega | (dsimp only at hk h; omega) | (dsimp only at hk; omega))
  replace hAw := hAw.mod m6 (by intro k hk h; first | omega | (dsimp only at hk h; omega) | (dsimp only at hk; omega))
  replace hBw := hBw.mod m6 (by intro k hk h; first | omega | (dsimp only at hk h; omega) | (dsimp only at hk; omega))
  replace OXg := OXg.mod m6 (by intro k hk h; first | omega | (dsimp only at hk h; omega) | (dsimp only at hk; omega))
  replace hAg := hAg.mod m6 (by intro k hk h; first | omega | (dsimp only at hk h; omega) | (dsimp only at hk; omega))
  replace hBg := hBg.mod m6 (by intro k hk h; first | omega | (dsimp only at hk h; omega) | (dsimp only at hk; omega))
  replace B2 := B2.mod m6 (by intro h; first | omega | (dsimp only at h; omega))
  have zm6 := m6.size
  refine S_nil (L' := (_ :: _ :: _ :: _ :: _ :: _ :: _ :: _ :: _ :: _ :: _ :: _ :: _ :: _ :: _ :: _ :: _ :: _ :: _ :: _ :: _ :: _ :: _ :: _ :: _ :: _ :: _ :: _ :: _ :: _ :: _ :: _ :: _ :: _ :: _ :: _ :: [])) rfl rfl ?_
  refine th_n ?_
  refine hK3 _ _ ?_
  clear hK3 K3
  refine wp_seq_k fun K4 hK4 => ?_
  refine wp_seq_k fun K5 hK5 => ?_
  refine wp_region_lit ?_  -- region 3 exact.go:4621
  refine S_beg 36 rfl ?_
  refine S_val (Y_loadS Try.underlying31 rfl sz31 rfl (by first | assumption | exact B2.row (by rfl) | exact B5.row (by rfl))) ?_
  refine S_val (Y_loadS Try.underlying31 rfl sz31 rfl (by first | assumption | exact B2.row (by rfl) | exact B5.row (by rfl))) ?_
  refine S_call rfl en20 (laws_eqHeap_c _ _ _ _ _ _ _ _ _ _ _ _ _ (by assumption) (by assumption) (by assumption) (by assumption) (by omega)) ?_  -- k3 laws.eqHeap
  rintro v7 w7 ⟨rfl, g7⟩
  replace OXw := OXw.grow g7
  replace hAw := hAw.grow g7
  replace hBw := hBw.grow g7
  replace OXg := OXg.grow g7
  replace hAg := hAg.grow g7
  replace hBg := hBg.grow g7
  replace G := G.grow g7
  replace B2 := B2.grow g7
  replace B5 := B5.grow g7
  have zg7 := g7.size
  refine S_val (Y_not rfl) ?_
  refine S_nil (L' := (_ :: _ :: _ :: _ :: _ :: _ :: _ :: _ :: _ :: _ :: _ :: _ :: _ :: _ :: _ :: _ :: _ :: _ :: _ :: _ :: _ :: _ :: _ :: _ :: _ :: _ :: _ :: _ :: _ :: _ :: _ :: _ :: _ :: _ :: _ :: _ :: [])) rfl rfl ?_
  refine th_n ?_
  refine hK5 _ _ ?_
  clear hK5 K5
  refine S_if rfl (fun hb1 => ?_) (fun hb1 => ?_)  -- c1
  · -- c1T
    first | with_reducible (replace hb1 := nb_nt hb1) | with_reducible (replace hb1 := nb_nf hb1) | with_reducible (replace hb1 := nb_tt hb1) | with_reducible (replace hb1 := nb_tf hb1) | with_reducible (replace hb1 := nb_bt hb1) | with_reducible (replace hb1 := nb_bf hb1) | skip
    exact absurd rfl hb1
  · -- c1F
    first | with_reducible (replace hb1 := nb_nt hb1) | with_reducible (replace hb1 := nb_nf hb1) | with_reducible (replace hb1 := nb_tt hb1) | with_reducible (replace hb1 := nb_tf hb1) | with_reducible (replace hb1 := nb_bt hb1) | with_reducible (replace hb1 := nb_bf hb1) | skip
    refine wp_skip ?_
    refine th_n ?_
    refine hK4 _ _ ?_
    clear hK4 K4
    refine wp_seq_k fun K6 hK6 => ?_
    refine wp_region_lit ?_  -- region 5 exact.go:4624
    refine S_beg 36 rfl ?_
    refine S_val (Y_assign rfl) ?_
    refine S_nil (L' := (_ :: _ :: _ :: _ :: _ :: _ :: _ :: _ :: _ :: _ :: _ :: _ :: _ :: _ :: _ :: _ :: _ :: _ :: _ :: _ :: _ :: _ :: _ :: _ :: _ :: _ :: _ :: _ :: _ :: _ :: _ :: _ :: _ :: _ :: _ :: _ :: [])) rfl rfl ?_
    refine th_n ?_
    refine hK6 _ _ ?_
    clear hK6 K6
    refine wp_seq_k fun K7 hK7 => ?_
    refine wp_region_lit ?_  -- region 6 exact.go:4625
    refine S_beg 36 rfl ?_
    refine S_val (Y_loadS Try.underlying31 rfl sz31 rfl (by first | assumption | exact B2.row (by rfl) | exact B5.row (by rfl))) ?_
    refine S_val (Y_move rfl) ?_
    refine S_call rfl en21 (laws_markHeap_c _ _ _ _ _ _ _ _ _ OXg (by omega) ⟨by omega, by omega⟩) ?_  -- k4 laws.markHeap
    rintro v8 w8 ⟨rfl, O8, m8⟩
    replace G := G.above m8 (by intro i h; first | omega | (dsimp only at h; omega))
    replace OXw := OXw.mod m8 (by intro k hk h; first | omega | (dsimp only at hk h; omega) | (dsimp only at hk; omega))
    replace hAw := hAw.mod m8 (by intro k hk h; first | omega | (dsimp only at hk h; omega) | (dsimp only at hk; omega))
    replace hBw := hBw.mod m8 (by intro k hk h; first | omega | (dsimp only at hk h; omega) | (dsimp only at hk; omega))
    replace B2 := B2.mod m8 (by intro h; first | omega | (dsimp only at h; omega))
    replace B5 := B5.mod m8 (by intro h; first | omega | (dsimp only at h; omega))
    have zm8 := m8.size
    have hMA := O8.rc
    have hMB := O8.r1
    refine S_val (Y_assign rfl) ?_
    refine S_nil (L' := (_ :: _ :: _ :: _ :: _ :: _ :: _ :: _ :: _ :: _ :: _ :: _ :: _ :: _ :: _ :: _ :: _ :: _ :: _ :: _ :: _ :: _ :: _ :: _ :: _ :: _ :: _ :: _ :: _ :: _ :: _ :: _ :: _ :: _ :: _ :: _ :: [])) rfl rfl ?_
    refine th_n ?_
    refine hK7 _ _ ?_
    clear hK7 K7
    refine wp_seq_k fun K8 hK8 => ?_
    refine wp_region_lit ?_  -- region 7 exact.go:4626
    refine S_beg 36 rfl ?_
    refine S_val (Y_assign rfl) ?_
    refine S_nil (L' := (_ :: _ :: _ :: _ :: _ :: _ :: _ :: _ :: _ :: _ :: _ :: _ :: _ :: _ :: _ :: _ :: _ :: _ :: _ :: _ :: _ :: _ :: _ :: _ :: _ :: _ :: _ :: _ :: _ :: _ :: _ :: _ :: _ :: _ :: _ :: _ :: [])) rfl rfl ?_
    refine th_n ?_
    refine hK8 _ _ ?_
    clear hK8 K8
    refine wp_seq_k fun K9 hK9 => ?_
    refine wp_region_lit ?_  -- region 8 exact.go:4627
    refine S_beg 36 rfl ?_
    refine S_val (Y_loadS Try.underlying31 rfl sz31 rfl (by first | assumption | exact B2.row (by rfl) | exact B5.row (by rfl))) ?_
    refine S_val (Y_move rfl) ?_
    refine S_call rfl en22 (laws_heldHeap_c _ _ _ _ _ _ _ _ hMA hMB (by omega) ⟨by omega, by omega⟩) ?_  -- k5 laws.heldHeap
    rintro v9 w9 ⟨rfl, g9⟩
    replace OXw := OXw.grow g9
    replace hAw := hAw.grow g9
    replace hBw := hBw.grow g9
    replace hMA := hMA.grow g9
    replace hMB := hMB.grow g9
    replace G := G.grow g9
    replace B2 := B2.grow g9
    replace B5 := B5.grow g9
    have zg9 := g9.size
    refine S_val (Y_assign rfl) ?_
    refine S_nil (L' := (_ :: _ :: _ :: _ :: _ :: _ :: _ :: _ :: _ :: _ :: _ :: _ :: _ :: _ :: _ :: _ :: _ :: _ :: _ :: _ :: _ :: _ :: _ :: _ :: _ :: _ :: _ :: _ :: _ :: _ :: _ :: _ :: _ :: _ :: _ :: _ :: [])) rfl rfl ?_
    refine th_n ?_
    refine hK9 _ _ ?_
    clear hK9 K9
    refine wp_seq_k fun K10 hK10 => ?_
    refine wp_seq_k fun K11 hK11 => ?_
    refine wp_region_lit ?_  -- region 9 exact.go:4628
    refine S_beg 36 rfl ?_
    refine S_val (Y_move rfl) ?_
    refine S_val (Y_lss rfl rfl) ?_
    refine S_nil (L' := (_ :: _ :: _ :: _ :: _ :: _ :: _ :: _ :: _ :: _ :: _ :: _ :: _ :: _ :: _ :: _ :: _ :: _ :: _ :: _ :: _ :: _ :: _ :: _ :: _ :: _ :: _ :: _ :: _ :: _ :: _ :: _ :: _ :: _ :: _ :: _ :: [])) rfl rfl ?_
    refine th_n ?_
    refine hK11 _ _ ?_
    clear hK11 K11
    refine S_if rfl (fun hb2 => ?_) (fun hb2 => ?_)  -- c2
    · -- c2T
      first | with_reducible (replace hb2 := nb_nt hb2) | with_reducible (replace hb2 := nb_nf hb2) | with_reducible (replace hb2 := nb_tt hb2) | with_reducible (replace hb2 := nb_tf hb2) | with_reducible (replace hb2 := nb_bt hb2) | with_reducible (replace hb2 := nb_bf hb2) | skip
      omega
    · -- c2F
      first | with_reducible (replace hb2 := nb_nt hb2) | with_reducible (replace hb2 := nb_nf hb2) | with_reducible (replace hb2 := nb_tt hb2) | with_reducible (replace hb2 := nb_tf hb2) | with_reducible (replace hb2 := nb_bt hb2) | with_reducible (replace hb2 := nb_bf hb2) | skip
      refine wp_skip ?_
      refine th_n ?_
      refine hK10 _ _ ?_
      clear hK10 K10
      refine wp_seq_k fun K12 hK12 => ?_
      refine wp_seq_k fun K13 hK13 => ?_
      refine wp_region_lit ?_  -- region 11 exact.go:4631
      refine S_beg 36 rfl ?_
      refine S_val (Y_move rfl) ?_
      refine S_val (Y_move rfl) ?_
      refine S_val (Y_neq rfl rfl) ?_
      refine S_nil (L' := (_ :: _ :: _ :: _ :: _ :: _ :: _ :: _ :: _ :: _ :: _ :: _ :: _ :: _ :: _ :: _ :: _ :: _ :: _ :: _ :: _ :: _ :: _ :: _ :: _ :: _ :: _ :: _ :: _ :: _ :: _ :: _ :: _ :: _ :: _ :: _ :: [])) rfl rfl ?_
      refine th_n ?_
      refine hK13 _ _ ?_
      clear hK13 K13
      refine S_if rfl (fun hb3 => ?_) (fun hb3 => ?_)  -- c3
      · -- c3T
        first | with_reducible (replace hb3 := nb_nt hb3) | with_reducible (replace hb3 := nb_nf hb3) | with_reducible (replace hb3 := nb_tt hb3) | with_reducible (replace hb3 := nb_tf hb3) | with_reducible (replace hb3 := nb_bt hb3) | with_reducible (replace hb3 := nb_bf hb3) | skip
        exact absurd rfl hb3
      · -- c3F
        first | with_reducible (replace hb3 := nb_nt hb3) | with_reducible (replace hb3 := nb_nf hb3) | with_reducible (replace hb3 := nb_tt hb3) | with_reducible (replace hb3 := nb_tf hb3) | with_reducible (replace hb3 := nb_bt hb3) | with_reducible (replace hb3 := nb_bf hb3) | skip
        refine wp_skip ?_
        refine th_n ?_
        refine hK12 _ _ ?_
        clear hK12 K12
        refine wp_seq_k fun K14 hK14 => ?_
        refine wp_region_lit ?_  -- region 13 exact.go:4634
        refine S_beg 36 rfl ?_
        refine S_call rfl en19 (impl_EmptyHeap_c _) ?_  -- k6 impl.EmptyHeap
        rintro v10 w10 ⟨A10, B10, n110, c110, n210, c210, rs10, rfl, hn110, hn210, O10, g10⟩
        replace OXw := OXw.grow g10
        replace hAw := hAw.grow g10
        replace hBw := hBw.grow g10
        replace hMA := hMA.grow g10
        replace hMB := hMB.grow g10
        replace G := G.grow g10
        replace B2 := B2.grow g10
        replace B5 := B5.grow g10
        have zg10 := g10.size
        subst hn110
        subst hn210
        replace O10 := O10.lt
        have OXh := O10
        have hAh := OXh.rc
        have hBh := OXh.r1
        refine S_alloc (cs := [_, _]) zr31 rfl ?_
        intro b11 w11 fb11 g11 B11
        have lb11 := B11.lt
        replace OXw := OXw.grow g11
        replace hAw := hAw.grow g11
        replace hBw := hBw.grow g11
        replace hMA := hMA.grow g11
        replace hMB := hMB.grow g11
        replace OXh := OXh.grow g11
        replace hAh := hAh.grow g11
        replace hBh := hBh.grow g11
        replace G := G.grow g11
        replace B2 := B2.grow g11
        replace B5 := B5.grow g11
        have zg11 := g11.size
        refine S_stM (pre := []) (old := [_, _]) (post := []) (vs := [_, _]) sz31 rfl rfl rfl (by first | rfl | assumption) B11 rfl rfl ?_
        intro w12 m12 X12
        replace B11 := Blk.eq (ys := [_, _]) X12 rfl
        clear X12
        replace G := G.above m12 (by intro i h; first | omega | (dsimp only at h; omega))
        replace OXw := OXw.mod m12 (by intro k hk h; first | omega | (dsimp only at hk h; omega) | (dsimp only at hk; omega))
        replace hAw := hAw.mod m12 (by intro k hk h; first | omega | (dsimp only at hk h; omega) | (dsimp only at hk; omega))
        replace hBw := hBw.mod m12 (by intro k hk h; first | omega | (dsimp only at hk h; omega) | (dsimp only at hk; omega))
        replace hMA := hMA.mod m12 (by intro k hk h; first | omega | (dsimp only at hk h; omega) | (dsimp only at hk; omega))
        replace hMB := hMB.mod m12 (by intro k hk h; first | omega | (dsimp only at hk h; omega) | (dsimp only at hk; omega))
        replace OXh := OXh.mod m12 (by intro k hk h; first | omega | (dsimp only at hk h; omega) | (dsimp only at hk; omega))
        replace hAh := hAh.mod m12 (by intro k hk h; first | omega | (dsimp only at hk h; omega) | (dsimp only at hk; omega))
        replace hBh := hBh.mod m12 (by intro k hk h; first | omega | (dsimp only at hk h; omega) | (dsimp only at hk; omega))
        replace B2 := B2.mod m12 (by intro h; first | omega | (dsimp only at h; omega))
        replace B5 := B5.mod m12 (by intro h; first | omega | (dsimp only at h; omega))
        have zm12 := m12.size
        refine S_nil (L' := (_ :: _ :: _ :: _ :: _ :: _ :: _ :: _ :: _ :: _ :: _ :: _ :: _ :: _ :: _ :: _ :: _ :: _ :: _ :: _ :: _ :: _ :: _ :: _ :: _ :: _ :: _ :: _ :: _ :: _ :: _ :: _ :: _ :: _ :: _ :: _ :: [])) rfl rfl ?_
        refine th_n ?_
        refine hK14 _ _ ?_
        clear hK14 K14
        refine wp_seq_k fun K15 hK15 => ?_
        refine wp_seq_k fun K16 hK16 => ?_
        refine wp_region_lit ?_  -- region 14 exact.go:4635
        refine S_beg 36 rfl ?_
        refine S_val (Y_loadS Try.underlying31 rfl sz31 rfl (by first | assumption | exact B2.row (by rfl) | exact B5.row (by rfl) | exact B11.row (by rfl))) ?_
        refine S_val (Y_loadS Try.underlying31 rfl sz31 rfl (by first | assumption | exact B2.row (by rfl) | exact B5.row (by rfl) | exact B11.row (by rfl))) ?_
        refine S_call rfl en20 (laws_eqHeap_c _ _ _ _ _ _ _ _ _ _ _ _ _ (by assumption) (by assumption) (by assumption) (by assumption) (by omega)) ?_  -- k7 laws.eqHeap
        rintro v13 w13 ⟨rfl, g13⟩
        replace OXw := OXw.grow g13
        replace hAw := hAw.grow g13
        replace hBw := hBw.grow g13
        replace hMA := hMA.grow g13
        replace hMB := hMB.grow g13
        replace OXh := OXh.grow g13
        replace hAh := hAh.grow g13
        replace hBh := hBh.grow g13
        replace G := G.grow g13
        replace B2 := B2.grow g13
        replace B5 := B5.grow g13
        replace B11 := B11.grow g13
        have zg13 := g13.size
        refine S_val (Y_not rfl) ?_
        refine S_nil (L' := (_ :: _ :: _ :: _ :: _ :: _ :: _ :: _ :: _ :: _ :: _ :: _ :: _ :: _ :: _ :: _ :: _ :: _ :: _ :: _ :: _ :: _ :: _ :: _ :: _ :: _ :: _ :: _ :: _ :: _ :: _ :: _ :: _ :: _ :: _ :: _ :: [])) rfl rfl ?_
        refine th_n ?_
        refine hK16 _ _ ?_
        clear hK16 K16
        refine S_if rfl (fun hb4 => ?_) (fun hb4 => ?_)  -- c4
        · -- c4T
          first | with_reducible (replace hb4 := nb_nt hb4) | with_reducible (replace hb4 := nb_nf hb4) | with_reducible (replace hb4 := nb_tt hb4) | with_reducible (replace hb4 := nb_tf hb4) | with_reducible (replace hb4 := nb_bt hb4) | with_reducible (replace hb4 := nb_bf hb4) | skip
          exact absurd rfl hb4
        · -- c4F
          first | with_reducible (replace hb4 := nb_nt hb4) | with_reducible (replace hb4 := nb_nf hb4) | with_reducible (replace hb4 := nb_tt hb4) | with_reducible (replace hb4 := nb_tf hb4) | with_reducible (replace hb4 := nb_bt hb4) | with_reducible (replace hb4 := nb_bf hb4) | skip
          refine wp_skip ?_
          refine th_n ?_
          refine hK15 _ _ ?_
          clear hK15 K15
          refine wp_seq_k fun K17 hK17 => ?_
          refine wp_region_lit ?_  -- region 16 exact.go:4638
          refine S_beg 36 rfl ?_
          refine S_val (Y_assign rfl) ?_
          refine S_nil (L' := (_ :: _ :: _ :: _ :: _ :: _ :: _ :: _ :: _ :: _ :: _ :: _ :: _ :: _ :: _ :: _ :: _ :: _ :: _ :: _ :: _ :: _ :: _ :: _ :: _ :: _ :: _ :: _ :: _ :: _ :: _ :: _ :: _ :: _ :: _ :: _ :: [])) rfl rfl ?_
          refine th_n ?_
          refine hK17 _ _ ?_
          clear hK17 K17
          refine wp_seq_k fun K18 hK18 => ?_
          refine wp_region_lit ?_  -- region 17 exact.go:4639
          refine S_beg 36 rfl ?_
          refine S_val (Y_loadS Try.underlying31 rfl sz31 rfl (by first | assumption | exact B2.row (by rfl) | exact B5.row (by rfl) | exact B11.row (by rfl))) ?_
          refine S_val (Y_move rfl) ?_
          refine S_call rfl en22 (laws_heldHeap_c _ _ _ _ _ _ _ _ hMA hMB (by omega) ⟨by omega, by omega⟩) ?_  -- k8 laws.heldHeap
          rintro v14 w14 ⟨rfl, g14⟩
          replace OXw := OXw.grow g14
          replace hAw := hAw.grow g14
          replace hBw := hBw.grow g14
          replace hMA := hMA.grow g14
          replace hMB := hMB.grow g14
          replace OXh := OXh.grow g14
          replace hAh := hAh.grow g14
          replace hBh := hBh.grow g14
          replace G := G.grow g14
          replace B2 := B2.grow g14
          replace B5 := B5.grow g14
          replace B11 := B11.grow g14
          have zg14 := g14.size
          refine S_val (Y_assign rfl) ?_
          refine S_nil (L' := (_ :: _ :: _ :: _ :: _ :: _ :: _ :: _ :: _ :: _ :: _ :: _ :: _ :: _ :: _ :: _ :: _ :: _ :: _ :: _ :: _ :: _ :: _ :: _ :: _ :: _ :: _ :: _ :: _ :: _ :: _ :: _ :: _ :: _ :: _ :: _ :: [])) rfl rfl ?_
          refine th_n ?_
          refine hK18 _ _ ?_
          clear hK18 K18
          refine wp_seq_k fun K19 hK19 => ?_
          refine wp_seq_k fun K20 hK20 => ?_
          refine wp_region_lit ?_  -- region 18 exact.go:4640
          refine S_beg 36 rfl ?_
          refine S_val (Y_move rfl) ?_
          refine S_val (Y_lss rfl rfl) ?_
          refine S_nil (L' := (_ :: _ :: _ :: _ :: _ :: _ :: _ :: _ :: _ :: _ :: _ :: _ :: _ :: _ :: _ :: _ :: _ :: _ :: _ :: _ :: _ :: _ :: _ :: _ :: _ :: _ :: _ :: _ :: _ :: _ :: _ :: _ :: _ :: _ :: _ :: _ :: [])) rfl rfl ?_
          refine th_n ?_
          refine hK20 _ _ ?_
          clear hK20 K20
          refine S_if rfl (fun hb5 => ?_) (fun hb5 => ?_)  -- c5
          · -- c5T
            first | with_reducible (replace hb5 := nb_nt hb5) | with_reducible (replace hb5 := nb_nf hb5) | with_reducible (replace hb5 := nb_tt hb5) | with_reducible (replace hb5 := nb_tf hb5) | with_reducible (replace hb5 := nb_bt hb5) | with_reducible (replace hb5 := nb_bf hb5) | skip
            omega
          · -- c5F
            first | with_reducible (replace hb5 := nb_nt hb5) | with_reducible (replace hb5 := nb_nf hb5) | with_reducible (replace hb5 := nb_tt hb5) | with_reducible (replace hb5 := nb_tf hb5) | with_reducible (replace hb5 := nb_bt hb5) | with_reducible (replace hb5 := nb_bf hb5) | skip
            refine wp_skip ?_
            refine th_n ?_
            refine hK19 _ _ ?_
            clear hK19 K19
            refine wp_seq_k fun K21 hK21 => ?_
            refine wp_seq_k fun K22 hK22 => ?_
            refine wp_region_lit ?_  -- region 20 exact.go:4643
            refine S_beg 36 rfl ?_
            refine S_val (Y_move rfl) ?_
            refine S_val (Y_move rfl) ?_
            refine S_val (Y_neq rfl rfl) ?_
            refine S_nil (L' := (_ :: _ :: _ :: _ :: _ :: _ :: _ :: _ :: _ :: _ :: _ :: _ :: _ :: _ :: _ :: _ :: _ :: _ :: _ :: _ :: _ :: _ :: _ :: _ :: _ :: _ :: _ :: _ :: _ :: _ :: _ :: _ :: _ :: _ :: _ :: _ :: [])) rfl rfl ?_
            refine th_n ?_
            refine hK22 _ _ ?_
            clear hK22 K22
            refine S_if rfl (fun hb6 => ?_) (fun hb6 => ?_)  -- c6
            · -- c6T
              first | with_reducible (replace hb6 := nb_nt hb6) | with_reducible (replace hb6 := nb_nf hb6) | with_reducible (replace hb6 := nb_tt hb6) | with_reducible (replace hb6 := nb_tf hb6) | with_reducible (replace hb6 := nb_bt hb6) | with_reducible (replace hb6 := nb_bf hb6) | skip
              exact absurd rfl hb6
            · -- c6F
              first | with_reducible (replace hb6 := nb_nt hb6) | with_reducible (replace hb6 := nb_nf hb6) | with_reducible (replace hb6 := nb_tt hb6) | with_reducible (replace hb6 := nb_tf hb6) | with_reducible (replace hb6 := nb_bt hb6) | with_reducible (replace hb6 := nb_bf hb6) | skip
              refine wp_skip ?_
              refine th_n ?_
              refine hK21 _ _ ?_
              clear hK21 K21
              refine wp_seq_k fun K23 hK23 => ?_
              refine wp_region_lit ?_  -- region 22 exact.go:4646
              refine S_beg 36 rfl ?_
              refine S_val (Y_assign rfl) ?_
              refine S_nil (L' := (_ :: _ :: _ :: _ :: _ :: _ :: _ :: _ :: _ :: _ :: _ :: _ :: _ :: _ :: _ :: _ :: _ :: _ :: _ :: _ :: _ :: _ :: _ :: _ :: _ :: _ :: _ :: _ :: _ :: _ :: _ :: _ :: _ :: _ :: _ :: _ :: [])) rfl rfl ?_
              refine th_n ?_
              refine hK23 _ _ ?_
              clear hK23 K23
              refine wp_ret ?_
              refine ret_r1 rfl rfl ?_  -- r1
              exact ⟨rfl, G⟩

end Go.Proofs.Ytfcblicpfbfojaa
