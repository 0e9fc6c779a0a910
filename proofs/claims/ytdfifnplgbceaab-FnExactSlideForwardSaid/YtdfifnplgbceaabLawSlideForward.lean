/-
  The law FnExactSlideForward returns true.
  Conditions: those that each theorem states.
-/
import Derived.Test.YtdfifnplgbceaabTy
import Derived.Test.YtdfifnplgbceaabWalkT
namespace Go.Proofs.Ytdfifnplgbceaab
open Go Go.RowKit
attribute [local irreducible] wpList wpAnyH Code.wp dOp

set_option maxHeartbeats 400000 in
set_option maxRecDepth 20000 in
theorem laws_FnExactSlideForward_c (Pr : Nat → Prop) (A B : Option Addr) (h : LH) (c d : Nat) (w : World) (hA : RC Pr w A h.cells) (hB : R1 Pr w B (ints h.roots)) (hn : h.cells.length ≤ 9223372036854775807) (hN : ∀ x ∈ h.cells, x.refs.length ≤ 9223372036854775807) (hm : h.roots.length ≤ 9223372036854775807) :
    Calls Try.prog 4 #[.agg #[.slice A h.cells.length c, .slice B h.roots.length d]] w (Ret fun v w' => v = .bool true ∧ Grow w w') := by
  refine enter Try.func4 rfl Try.ntmps4 (L := (_ :: _ :: _ :: _ :: _ :: _ :: _ :: _ :: _ :: _ :: _ :: _ :: _ :: _ :: _ :: _ :: _ :: _ :: _ :: _ :: _ :: _ :: _ :: _ :: _ :: _ :: _ :: _ :: _ :: _ :: _ :: _ :: _ :: _ :: _ :: _ :: _ :: _ :: _ :: _ :: _ :: _ :: _ :: _ :: _ :: _ :: _ :: _ :: _ :: _ :: _ :: _ :: _ :: _ :: _ :: _ :: _ :: _ :: _ :: _ :: _ :: _ :: _ :: _ :: _ :: _ :: _ :: _ :: _ :: [])) rfl ?_
  have G := Mod.refl No w
  have hA0 := hA
  have hB0 := hB
  refine wp_seq_k fun K1 hK1 => ?_
  refine wp_region_lit ?_  -- region 0 exact.go:2032
  refine S_beg 69 rfl ?_
  refine S_box (cs := [_, _]) rfl rfl ?_
  intro b1 w1 fb1 g1 B1
  have lb1 := B1.lt
  replace hA := hA.grow g1
  replace hB := hB.grow g1
  replace G := G.grow g1
  have zg1 := g1.size
  refine S_val (Y_assign rfl) ?_
  refine S_nil (L' := (_ :: _ :: _ :: _ :: _ :: _ :: _ :: _ :: _ :: _ :: _ :: _ :: _ :: _ :: _ :: _ :: _ :: _ :: _ :: _ :: _ :: _ :: _ :: _ :: _ :: _ :: _ :: _ :: _ :: _ :: _ :: _ :: _ :: _ :: _ :: _ :: _ :: _ :: _ :: _ :: _ :: _ :: _ :: _ :: _ :: _ :: _ :: _ :: _ :: _ :: _ :: _ :: _ :: _ :: _ :: _ :: _ :: _ :: _ :: _ :: _ :: _ :: _ :: _ :: _ :: _ :: _ :: _ :: _ :: [])) rfl rfl ?_
  refine th_n ?_
  refine hK1 _ _ ?_
  clear hK1 K1
  refine wp_seq_k fun K2 hK2 => ?_
  refine wp_region_lit ?_  -- region 1 exact.go:2033
  refine S_beg 69 rfl ?_
  refine S_val (Y_assign rfl) ?_
  refine S_nil (L' := (_ :: _ :: _ :: _ :: _ :: _ :: _ :: _ :: _ :: _ :: _ :: _ :: _ :: _ :: _ :: _ :: _ :: _ :: _ :: _ :: _ :: _ :: _ :: _ :: _ :: _ :: _ :: _ :: _ :: _ :: _ :: _ :: _ :: _ :: _ :: _ :: _ :: _ :: _ :: _ :: _ :: _ :: _ :: _ :: _ :: _ :: _ :: _ :: _ :: _ :: _ :: _ :: _ :: _ :: _ :: _ :: _ :: _ :: _ :: _ :: _ :: _ :: _ :: _ :: _ :: _ :: _ :: _ :: _ :: [])) rfl rfl ?_
  refine th_n ?_
  refine hK2 _ _ ?_
  clear hK2 K2
  refine wp_seq_k fun K3 hK3 => ?_
  refine wp_region_lit ?_  -- region 2 exact.go:2034
  refine S_beg 69 rfl ?_
  refine S_val (Y_loadS Try.underlying25 rfl sz25 rfl (by first | assumption | exact B1.row (by rfl))) ?_  -- l1
  refine S_val (Y_move rfl) ?_
  refine S_call rfl en19 (laws_szHeap_c _ _ _ _ _ _ _ _ (by assumption) (by omega) (by assumption) (by omega) (by omega) (by omega)) ?_  -- k1 laws.szHeap
  rintro v2 w2 ⟨r2, rfl, hr2, g2⟩
  replace hA := hA.grow g2
  replace hB := hB.grow g2
  replace G := G.grow g2
  replace B1 := B1.grow g2
  have zg2 := g2.size
  refine S_val (Y_assign rfl) ?_
  refine S_nil (L' := (_ :: _ :: _ :: _ :: _ :: _ :: _ :: _ :: _ :: _ :: _ :: _ :: _ :: _ :: _ :: _ :: _ :: _ :: _ :: _ :: _ :: _ :: _ :: _ :: _ :: _ :: _ :: _ :: _ :: _ :: _ :: _ :: _ :: _ :: _ :: _ :: _ :: _ :: _ :: _ :: _ :: _ :: _ :: _ :: _ :: _ :: _ :: _ :: _ :: _ :: _ :: _ :: _ :: _ :: _ :: _ :: _ :: _ :: _ :: _ :: _ :: _ :: _ :: _ :: _ :: _ :: _ :: _ :: _ :: [])) rfl rfl ?_
  refine th_n ?_
  refine hK3 _ _ ?_
  clear hK3 K3
  refine wp_seq_k fun K4 hK4 => ?_
  refine wp_seq_k fun K5 hK5 => ?_
  refine wp_region_lit ?_  -- region 3 exact.go:2035
  refine S_beg 69 rfl ?_
  refine S_val (Y_move rfl) ?_
  refine S_val (Y_lss rfl rfl) ?_
  refine S_nil (L' := (_ :: _ :: _ :: _ :: _ :: _ :: _ :: _ :: _ :: _ :: _ :: _ :: _ :: _ :: _ :: _ :: _ :: _ :: _ :: _ :: _ :: _ :: _ :: _ :: _ :: _ :: _ :: _ :: _ :: _ :: _ :: _ :: _ :: _ :: _ :: _ :: _ :: _ :: _ :: _ :: _ :: _ :: _ :: _ :: _ :: _ :: _ :: _ :: _ :: _ :: _ :: _ :: _ :: _ :: _ :: _ :: _ :: _ :: _ :: _ :: _ :: _ :: _ :: _ :: _ :: _ :: _ :: _ :: _ :: [])) rfl rfl ?_
  refine th_n ?_
  refine hK5 _ _ ?_
  clear hK5 K5
  refine S_if rfl (fun hb1 => ?_) (fun hb1 => ?_)  -- c1
  · -- c1T
    first | with_reducible (replace hb1 := nb_nt hb1) | with_reducible (replace hb1 := nb_nf hb1) | with_reducible (replace hb1 := nb_tt hb1) | with_reducible (replace hb1 := nb_tf hb1) | with_reducible (replace hb1 := nb_bt hb1) | with_reducible (replace hb1 := nb_bf hb1) | skip
    refine wp_seq_k fun K6 hK6 => ?_
    refine wp_region_lit ?_  -- region 4 exact.go:2036
    refine S_beg 69 rfl ?_
    refine S_val (Y_assign rfl) ?_
    refine S_nil (L' := (_ :: _ :: _ :: _ :: _ :: _ :: _ :: _ :: _ :: _ :: _ :: _ :: _ :: _ :: _ :: _ :: _ :: _ :: _ :: _ :: _ :: _ :: _ :: _ :: _ :: _ :: _ :: _ :: _ :: _ :: _ :: _ :: _ :: _ :: _ :: _ :: _ :: _ :: _ :: _ :: _ :: _ :: _ :: _ :: _ :: _ :: _ :: _ :: _ :: _ :: _ :: _ :: _ :: _ :: _ :: _ :: _ :: _ :: _ :: _ :: _ :: _ :: _ :: _ :: _ :: _ :: _ :: _ :: _ :: [])) rfl rfl ?_
    refine th_n ?_
    refine hK6 _ _ ?_
    clear hK6 K6
    refine wp_ret ?_
    refine th_r ?_
    clear hK4 K4
    refine ret_r1 rfl rfl ?_  -- r1
    exact ⟨rfl, G⟩
  · -- c1F
    first | with_reducible (replace hb1 := nb_nt hb1) | with_reducible (replace hb1 := nb_nf hb1) | with_reducible (replace hb1 := nb_tt hb1) | with_reducible (replace hb1 := nb_tf hb1) | with_reducible (replace hb1 := nb_bt hb1) | with_reducible (replace hb1 := nb_bf hb1) | skip
    have hz : hsize h ≤ 1048576 := by omega
    have hbd : (sfwdV h).length ≤ 1048576 := by have := sfwdV_len h; have := hsize_cells h; omega
    refine wp_skip ?_
    refine th_n ?_
    refine hK4 _ _ ?_
    clear hK4 K4
    refine wp_seq_k fun K7 hK7 => ?_
    refine wp_region_lit ?_  -- region 5 exact.go:2038
    refine S_beg 69 rfl ?_
    refine S_val (Y_loadS Try.underlying25 rfl sz25 rfl (by first | assumption | exact B1.row (by rfl))) ?_  -- l2
    refine S_call rfl en21 (laws_toHeap_c _ _ _ _ _ _ _ (by assumption) (by assumption) (by omega)) ?_  -- k2 laws.toHeap
    rintro v3 w3 ⟨a3, b3, rs3, rfl, O3, g3⟩
    replace hA := hA.grow g3
    replace hB := hB.grow g3
    replace G := G.grow g3
    replace B1 := B1.grow g3
    have zg3 := g3.size
    replace O3 := O3.lt
    have hA3 := O3.rc
    have hB3 := O3.r1
    refine S_call rfl en20 (spec_SlideForward_c _ _ _ _ _ _ _ (by assumption) (by assumption) (by omega)) ?_  -- k3 spec.SlideForward
    rintro v4 w4 ⟨A4, q4, cap4, rfl, hq4, O4, g4⟩
    replace hA := hA.grow g4
    replace hB := hB.grow g4
    replace hA3 := hA3.grow g4
    replace hB3 := hB3.grow g4
    replace G := G.grow g4
    replace B1 := B1.grow g4
    have zg4 := g4.size
    subst hq4
    replace O4 := O4.lt
    have OXw := O4
    have hRw := OXw.r1
    refine S_val (Y_assign rfl) ?_
    refine S_nil (L' := (_ :: _ :: _ :: _ :: _ :: _ :: _ :: _ :: _ :: _ :: _ :: _ :: _ :: _ :: _ :: _ :: _ :: _ :: _ :: _ :: _ :: _ :: _ :: _ :: _ :: _ :: _ :: _ :: _ :: _ :: _ :: _ :: _ :: _ :: _ :: _ :: _ :: _ :: _ :: _ :: _ :: _ :: _ :: _ :: _ :: _ :: _ :: _ :: _ :: _ :: _ :: _ :: _ :: _ :: _ :: _ :: _ :: _ :: _ :: _ :: _ :: _ :: _ :: _ :: _ :: _ :: _ :: _ :: _ :: [])) rfl rfl ?_
    refine th_n ?_
    refine hK7 _ _ ?_
    clear hK7 K7
    refine wp_seq_k fun K8 hK8 => ?_
    refine wp_region_lit ?_  -- region 6 exact.go:2039
    refine S_beg 69 rfl ?_
    refine S_val (Y_loadS Try.underlying25 rfl sz25 rfl (by first | assumption | exact B1.row (by rfl))) ?_  -- l3
    refine S_call rfl en21 (laws_toHeap_c _ _ _ _ _ _ _ (by assumption) (by assumption) (by omega)) ?_  -- k4 laws.toHeap
    rintro v5 w5 ⟨a5, b5, rs5, rfl, O5, g5⟩
    replace hA := hA.grow g5
    replace hB := hB.grow g5
    replace hA3 := hA3.grow g5
    replace hB3 := hB3.grow g5
    replace OXw := OXw.grow g5
    replace hRw := hRw.grow g5
    replace G := G.grow g5
    replace B1 := B1.grow g5
    have zg5 := g5.size
    replace O5 := O5.lt
    have OH := O5
    have hXA := OH.rc
    have hXB := OH.r1
    refine S_alloc (cs := [_, _]) zr33 rfl ?_
    intro b6 w6 fb6 g6 B6
    have lb6 := B6.lt
    replace hA := hA.grow g6
    replace hB := hB.grow g6
    replace hA3 := hA3.grow g6
    replace hB3 := hB3.grow g6
    replace OXw := OXw.grow g6
    replace hRw := hRw.grow g6
    replace OH := OH.grow g6
    replace hXA := hXA.grow g6
    replace hXB := hXB.grow g6
    replace G := G.grow g6
    replace B1 := B1.grow g6
    have zg6 := g6.size
    refine S_stM (pre := []) (old := [_, _]) (post := []) (vs := [_, _]) sz33 rfl rfl rfl (by first | rfl | assumption) B6 rfl rfl ?_
    intro w7 m7 X7
    replace B6 := Blk.eq (ys := [_, _]) X7 rfl
    clear X7
    replace G := G.above m7 (by intro i h; first | omega | (dsimp only at h; omega))
    replace hA := hA0.grow G
    replace hB := hB0.grow G
    replace hA3 := hA3.mod m7 (by intro k hk h; first | omega | (dsimp only at hk h; omega) | (dsimp only at hk; omega))
    replace hB3 := hB3.mod m7 (by intro k hk h; first | omega | (dsimp only at hk h; omega) | (dsimp only at hk; omega))
    replace OXw := OXw.mod m7 (by intro k hk h; first | omega | (dsimp only at hk h; omega) | (dsimp only at hk; omega))
    replace hRw := hRw.mod m7 (by intro k hk h; first | omega | (dsimp only at hk h; omega) | (dsimp only at hk; omega))
    replace OH := OH.mod m7 (by intro k hk h; first | omega | (dsimp only at hk h; omega) | (dsimp only at hk; omega))
    replace hXA := hXA.mod m7 (by intro k hk h; first | omega | (dsimp only at hk h; omega) | (dsimp only at hk; omega))
    replace hXB := hXB.mod m7 (by intro k hk h; first | omega | (dsimp only at hk h; omega) | (dsimp only at hk; omega))
    replace B1 := B1.mod m7 (by intro h; first | omega | (dsimp only at h; omega))
    have zm7 := m7.size
    refine S_nil (L' := (_ :: _ :: _ :: _ :: _ :: _ :: _ :: _ :: _ :: _ :: _ :: _ :: _ :: _ :: _ :: _ :: _ :: _ :: _ :: _ :: _ :: _ :: _ :: _ :: _ :: _ :: _ :: _ :: _ :: _ :: _ :: _ :: _ :: _ :: _ :: _ :: _ :: _ :: _ :: _ :: _ :: _ :: _ :: _ :: _ :: _ :: _ :: _ :: _ :: _ :: _ :: _ :: _ :: _ :: _ :: _ :: _ :: _ :: _ :: _ :: _ :: _ :: _ :: _ :: _ :: _ :: _ :: _ :: _ :: [])) rfl rfl ?_
    refine th_n ?_
    refine hK8 _ _ ?_
    clear hK8 K8
    refine wp_seq_k fun K9 hK9 => ?_
    refine wp_region_lit ?_  -- region 7 exact.go:2040
    refine S_beg 69 rfl ?_
    refine S_val (Y_loadS Try.underlying33 rfl sz33 rfl (by first | assumption | exact B1.row (by rfl) | exact B6.row (by rfl))) ?_  -- l4
    refine S_call rfl en22 (impl_SlideForward_c _ _ _ _ _ _ _ (by assumption) (by assumption) (by omega)) ?_  -- k5 impl.SlideForward
    rintro v8 w8 ⟨A8, q8, cap8, rfl, hq8, O8, g8⟩
    replace hA := hA.grow g8
    replace hB := hB.grow g8
    replace hA3 := hA3.grow g8
    replace hB3 := hB3.grow g8
    replace OXw := OXw.grow g8
    replace hRw := hRw.grow g8
    replace OH := OH.grow g8
    replace hXA := hXA.grow g8
    replace hXB := hXB.grow g8
    replace G := G.grow g8
    replace B1 := B1.grow g8
    replace B6 := B6.grow g8
    have zg8 := g8.size
    subst hq8
    replace O8 := O8.lt
    have OXg := O8
    have hRg := OXg.r1
    refine S_val (Y_assign rfl) ?_
    refine S_nil (L' := (_ :: _ :: _ :: _ :: _ :: _ :: _ :: _ :: _ :: _ :: _ :: _ :: _ :: _ :: _ :: _ :: _ :: _ :: _ :: _ :: _ :: _ :: _ :: _ :: _ :: _ :: _ :: _ :: _ :: _ :: _ :: _ :: _ :: _ :: _ :: _ :: _ :: _ :: _ :: _ :: _ :: _ :: _ :: _ :: _ :: _ :: _ :: _ :: _ :: _ :: _ :: _ :: _ :: _ :: _ :: _ :: _ :: _ :: _ :: _ :: _ :: _ :: _ :: _ :: _ :: _ :: _ :: _ :: _ :: [])) rfl rfl ?_
    refine th_n ?_
    refine hK9 _ _ ?_
    clear hK9 K9
    refine wp_seq_k fun K10 hK10 => ?_
    refine wp_seq_k fun K11 hK11 => ?_
    refine wp_region_lit ?_  -- region 8 exact.go:2041
    refine S_beg 69 rfl ?_
    refine S_val (Y_move rfl) ?_
    refine S_val (Y_move rfl) ?_
    refine S_call rfl en23 (laws_eqIntS_c _ _ _ _ _ _ _ _ _ (by assumption) (by assumption) (by omega)) ?_  -- k6 laws.eqIntS
    rintro v9 w9 ⟨rfl, g9⟩
    replace hA := hA.grow g9
    replace hB := hB.grow g9
    replace hA3 := hA3.grow g9
    replace hB3 := hB3.grow g9
    replace OXw := OXw.grow g9
    replace hRw := hRw.grow g9
    replace OH := OH.grow g9
    replace hXA := hXA.grow g9
    replace hXB := hXB.grow g9
    replace OXg := OXg.grow g9
    replace hRg := hRg.grow g9
    replace G := G.grow g9
    replace B1 := B1.grow g9
    replace B6 := B6.grow g9
    have zg9 := g9.size
    refine S_val (Y_not rfl) ?_
    refine S_nil (L' := (_ :: _ :: _ :: _ :: _ :: _ :: _ :: _ :: _ :: _ :: _ :: _ :: _ :: _ :: _ :: _ :: _ :: _ :: _ :: _ :: _ :: _ :: _ :: _ :: _ :: _ :: _ :: _ :: _ :: _ :: _ :: _ :: _ :: _ :: _ :: _ :: _ :: _ :: _ :: _ :: _ :: _ :: _ :: _ :: _ :: _ :: _ :: _ :: _ :: _ :: _ :: _ :: _ :: _ :: _ :: _ :: _ :: _ :: _ :: _ :: _ :: _ :: _ :: _ :: _ :: _ :: _ :: _ :: _ :: [])) rfl rfl ?_
    refine th_n ?_
    refine hK11 _ _ ?_
    clear hK11 K11
    refine S_if rfl (fun hb2 => ?_) (fun hb2 => ?_)  -- c2
    · -- c2T
      first | with_reducible (replace hb2 := nb_nt hb2) | with_reducible (replace hb2 := nb_nf hb2) | with_reducible (replace hb2 := nb_tt hb2) | with_reducible (replace hb2 := nb_tf hb2) | with_reducible (replace hb2 := nb_bt hb2) | with_reducible (replace hb2 := nb_bf hb2) | skip
      exact absurd rfl hb2
    · -- c2F
      first | with_reducible (replace hb2 := nb_nt hb2) | with_reducible (replace hb2 := nb_nf hb2) | with_reducible (replace hb2 := nb_tt hb2) | with_reducible (replace hb2 := nb_tf hb2) | with_reducible (replace hb2 := nb_bt hb2) | with_reducible (replace hb2 := nb_bf hb2) | skip
      refine wp_skip ?_
      refine th_n ?_
      refine hK10 _ _ ?_
      clear hK10 K10
      refine wp_seq_k fun K12 hK12 => ?_
      refine wp_seq_k fun K13 hK13 => ?_
      refine D_start 5 69 (fun w => Mod (No) w) follows rfl rfl ?_  -- d1 region 10 exact.go:2044
      intro w10 g10
      replace hA := hA.grow g10
      replace hB := hB.grow g10
      replace hA3 := hA3.grow g10
      replace hB3 := hB3.grow g10
      replace OXw := OXw.grow g10
      replace hRw := hRw.grow g10
      replace OH := OH.grow g10
      replace hXA := hXA.grow g10
      replace hXB := hXB.grow g10
      replace OXg := OXg.grow g10
      replace hRg := hRg.grow g10
      replace G := G.grow g10
      replace B1 := B1.grow g10
      replace B6 := B6.grow g10
      have zg10 := g10.size
      have GS10 := Mod.refl (No) w10
      have B1d10 := B1
      have B6d10 := B6
      refine D_q (i := 0) rfl (by kernel_rfl) (fun _ _ _ h => h) GS10 (fun _ hs => Y_loadS Try.underlying33 rfl sz33 rfl (by first | exact hs.cells0 (by assumption) | exact hs.cells0 (B1.row (by rfl)) | exact hs.cells0 (B6.row (by rfl)) | exact hs.cells0 (B1d10.row (by rfl)) | exact hs.cells0 (B6d10.row (by rfl)))) ?_
      refine D_q (i := 1) rfl (by kernel_rfl) (fun _ _ _ h => h) GS10 (fun _ hs => Y_loadS Try.underlying25 rfl sz25 rfl (by first | exact hs.cells0 (by assumption) | exact hs.cells0 (B1.row (by rfl)) | exact hs.cells0 (B6.row (by rfl)) | exact hs.cells0 (B1d10.row (by rfl)) | exact hs.cells0 (B6d10.row (by rfl)))) ?_
      refine D_1 (i := 2) (by kernel_rfl) ?_
      refine E_call rfl rfl en21 (laws_toHeap_c _ _ _ _ _ _ _ (by assumption) (by assumption) (by omega)) ?_  -- k7 laws.toHeap
      rintro v11 w11 ⟨a11, b11, rs11, rfl, O11, g11⟩
      replace hA := hA.grow g11
      replace hB := hB.grow g11
      replace hA3 := hA3.grow g11
      replace hB3 := hB3.grow g11
      replace OXw := OXw.grow g11
      replace hRw := hRw.grow g11
      replace OH := OH.grow g11
      replace hXA := hXA.grow g11
      replace hXB := hXB.grow g11
      replace OXg := OXg.grow g11
      replace hRg := hRg.grow g11
      replace G := G.grow g11
      replace GS10 := GS10.grow g11
      replace B1 := B1.grow g11
      replace B6 := B6.grow g11
      have zg11 := g11.size
      replace O11 := O11.lt
      have hA11 := O11.rc
      have hB11 := O11.r1
      refine ⟨GS10, ?_⟩
      refine D_1 (i := 3) (by kernel_rfl) ?_
      refine E_call rfl rfl en24 (laws_eqHeap_c _ _ _ _ _ _ _ _ _ _ _ _ _ (by assumption) (by assumption) (by assumption) (by assumption) (by omega)) ?_  -- k8 laws.eqHeap
      rintro v12 w12 ⟨rfl, g12⟩
      replace hA := hA.grow g12
      replace hB := hB.grow g12
      replace hA3 := hA3.grow g12
      replace hB3 := hB3.grow g12
      replace OXw := OXw.grow g12
      replace hRw := hRw.grow g12
      replace OH := OH.grow g12
      replace hXA := hXA.grow g12
      replace hXB := hXB.grow g12
      replace OXg := OXg.grow g12
      replace hRg := hRg.grow g12
      replace hA11 := hA11.grow g12
      replace hB11 := hB11.grow g12
      replace G := G.grow g12
      replace GS10 := GS10.grow g12
      replace B1 := B1.grow g12
      replace B6 := B6.grow g12
      have zg12 := g12.size
      refine ⟨GS10, ?_⟩
      refine D_q (i := 4) rfl (by kernel_rfl) (fun _ _ _ h => h) GS10 (fun _ _ => Y_not rfl) ?_
      refine D_end (L' := (_ :: _ :: _ :: _ :: _ :: _ :: _ :: _ :: _ :: _ :: _ :: _ :: _ :: _ :: _ :: _ :: _ :: _ :: _ :: _ :: _ :: _ :: _ :: _ :: _ :: _ :: _ :: _ :: _ :: _ :: _ :: _ :: _ :: _ :: _ :: _ :: _ :: _ :: _ :: _ :: _ :: _ :: _ :: _ :: _ :: _ :: _ :: _ :: _ :: _ :: _ :: _ :: _ :: _ :: _ :: _ :: _ :: _ :: _ :: _ :: _ :: _ :: _ :: _ :: _ :: _ :: _ :: _ :: _ :: [])) (by kernel_rfl) rfl rfl ?_
      refine th_n ?_
      refine hK13 _ _ ?_
      clear hK13 K13
      refine S_if rfl (fun hb3 => ?_) (fun hb3 => ?_)  -- c3
      · -- c3T
        first | with_reducible (replace hb3 := nb_nt hb3) | with_reducible (replace hb3 := nb_nf hb3) | with_reducible (replace hb3 := nb_tt hb3) | with_reducible (replace hb3 := nb_tf hb3) | with_reducible (replace hb3 := nb_bt hb3) | with_reducible (replace hb3 := nb_bf hb3) | skip
        exact absurd rfl hb3
      · -- c3F
        first | with_reducible (replace hb3 := nb_nt hb3) | with_reducible (replace hb3 := nb_nf hb3) | with_reducible (replace hb3 := nb_tt hb3) | with_reducible (replace hb3 := nb_tf hb3) | with_reducible (replace hb3 := nb_bt hb3) | with_reducible (replace hb3 := nb_bf hb3) | skip
        refine wp_skip ?_
        refine th_n ?_
        refine hK12 _ _ ?_
        clear hK12 K12
        refine wp_seq_k fun K14 hK14 => ?_
        refine wp_region_lit ?_  -- region 12 exact.go:2047
        refine S_beg 69 rfl ?_
        refine S_val (Y_assign rfl) ?_
        refine S_nil (L' := (_ :: _ :: _ :: _ :: _ :: _ :: _ :: _ :: _ :: _ :: _ :: _ :: _ :: _ :: _ :: _ :: _ :: _ :: _ :: _ :: _ :: _ :: _ :: _ :: _ :: _ :: _ :: _ :: _ :: _ :: _ :: _ :: _ :: _ :: _ :: _ :: _ :: _ :: _ :: _ :: _ :: _ :: _ :: _ :: _ :: _ :: _ :: _ :: _ :: _ :: _ :: _ :: _ :: _ :: _ :: _ :: _ :: _ :: _ :: _ :: _ :: _ :: _ :: _ :: _ :: _ :: _ :: _ :: _ :: [])) rfl rfl ?_
        refine th_n ?_
        refine hK14 _ _ ?_
        clear hK14 K14
        refine wp_seq_k fun K15 hK15 => ?_
        refine wp_region_lit ?_  -- region 13 exact.go:2048
        refine S_beg 69 rfl ?_
        refine S_val (Y_loadS Try.underlying33 rfl sz33 rfl (by first | assumption | exact B1.row (by rfl) | exact B6.row (by rfl))) ?_  -- l7
        refine S_val (Y_move rfl) ?_
        refine S_call rfl en25 (laws_markHeap_c _ _ _ _ _ _ _ _ _ OH (by omega) ⟨by omega, by omega⟩) ?_  -- k9 laws.markHeap
        rintro v13 w13 ⟨rfl, O13, m13⟩
        replace G := G.above m13 (by intro i h; first | omega | (dsimp only at h; omega))
        replace hA := hA0.grow G
        replace hB := hB0.grow G
        replace hA3 := hA3.mod m13 (by intro k hk h; first | omega | (dsimp only at hk h; omega) | (dsimp only at hk; omega))
        replace hB3 := hB3.mod m13 (by intro k hk h; first | omega | (dsimp only at hk h; omega) | (dsimp only at hk; omega))
        replace OXw := OXw.mod m13 (by intro k hk h; first | omega | (dsimp only at hk h; omega) | (dsimp only at hk; omega))
        replace hRw := hRw.mod m13 (by intro k hk h; first | omega | (dsimp only at hk h; omega) | (dsimp only at hk; omega))
        replace OXg := OXg.mod m13 (by intro k hk h; first | omega | (dsimp only at hk h; omega) | (dsimp only at hk; omega))
        replace hRg := hRg.mod m13 (by intro k hk h; first | omega | (dsimp only at hk h; omega) | (dsimp only at hk; omega))
        replace hA11 := hA11.mod m13 (by intro k hk h; first | omega | (dsimp only at hk h; omega) | (dsimp only at hk; omega))
        replace hB11 := hB11.mod m13 (by intro k hk h; first | omega | (dsimp only at hk h; omega) | (dsimp only at hk; omega))
        replace B1 := B1.mod m13 (by intro h; first | omega | (dsimp only at h; omega))
        replace B6 := B6.mod m13 (by intro h; first | omega | (dsimp only at h; omega))
        have zm13 := m13.size
        refine S_val (Y_assign rfl) ?_
        refine S_nil (L' := (_ :: _ :: _ :: _ :: _ :: _ :: _ :: _ :: _ :: _ :: _ :: _ :: _ :: _ :: _ :: _ :: _ :: _ :: _ :: _ :: _ :: _ :: _ :: _ :: _ :: _ :: _ :: _ :: _ :: _ :: _ :: _ :: _ :: _ :: _ :: _ :: _ :: _ :: _ :: _ :: _ :: _ :: _ :: _ :: _ :: _ :: _ :: _ :: _ :: _ :: _ :: _ :: _ :: _ :: _ :: _ :: _ :: _ :: _ :: _ :: _ :: _ :: _ :: _ :: _ :: _ :: _ :: _ :: _ :: [])) rfl rfl ?_
        refine th_n ?_
        refine hK15 _ _ ?_
        clear hK15 K15
        refine wp_seq_k fun K16 hK16 => ?_
        refine wp_seq_k fun K17 hK17 => ?_
        refine wp_region_lit ?_  -- region 14 exact.go:2049
        refine S_beg 69 rfl ?_
        refine S_val (Y_move rfl) ?_
        refine S_val (Y_lss rfl rfl) ?_
        refine S_val (Y_move rfl) ?_
        refine S_g 37 rfl (fun hb4 => ?_) (fun hb4 => ?_)  -- g1
        · -- g1T
          first | with_reducible (replace hb4 := nb_nt hb4) | with_reducible (replace hb4 := nb_nf hb4) | with_reducible (replace hb4 := nb_tt hb4) | with_reducible (replace hb4 := nb_tf hb4) | with_reducible (replace hb4 := nb_bt hb4) | with_reducible (replace hb4 := nb_bf hb4) | skip
          have := kEnd_ge 1 h; omega
        · -- g1F
          first | with_reducible (replace hb4 := nb_nt hb4) | with_reducible (replace hb4 := nb_nf hb4) | with_reducible (replace hb4 := nb_tt hb4) | with_reducible (replace hb4 := nb_tf hb4) | with_reducible (replace hb4 := nb_bt hb4) | with_reducible (replace hb4 := nb_bf hb4) | skip
          refine S_on rfl rfl ?_
          refine S_val (Y_move rfl) ?_
          refine S_on rfl rfl ?_
          refine S_val (Y_move rfl) ?_
          refine S_on rfl rfl ?_
          refine S_call rfl en23 (laws_eqIntS_c _ _ _ _ _ _ _ _ _ (by assumption) (by assumption) (by omega)) ?_  -- k10 laws.eqIntS
          rintro v14 w14 ⟨rfl, g14⟩
          replace hA := hA.grow g14
          replace hB := hB.grow g14
          replace hA3 := hA3.grow g14
          replace hB3 := hB3.grow g14
          replace OXw := OXw.grow g14
          replace hRw := hRw.grow g14
          replace OXg := OXg.grow g14
          replace hRg := hRg.grow g14
          replace hA11 := hA11.grow g14
          replace hB11 := hB11.grow g14
          replace G := G.grow g14
          replace B1 := B1.grow g14
          replace B6 := B6.grow g14
          have zg14 := g14.size
          refine S_on rfl rfl ?_
          refine S_val (Y_not rfl) ?_
          refine S_val (Y_pickF rfl rfl) ?_
          refine S_nil (L' := (_ :: _ :: _ :: _ :: _ :: _ :: _ :: _ :: _ :: _ :: _ :: _ :: _ :: _ :: _ :: _ :: _ :: _ :: _ :: _ :: _ :: _ :: _ :: _ :: _ :: _ :: _ :: _ :: _ :: _ :: _ :: _ :: _ :: _ :: _ :: _ :: _ :: _ :: _ :: _ :: _ :: _ :: _ :: _ :: _ :: _ :: _ :: _ :: _ :: _ :: _ :: _ :: _ :: _ :: _ :: _ :: _ :: _ :: _ :: _ :: _ :: _ :: _ :: _ :: _ :: _ :: _ :: _ :: _ :: [])) rfl rfl ?_
          refine th_n ?_
          refine hK17 _ _ ?_
          clear hK17 K17
          refine S_if rfl (fun hb5 => ?_) (fun hb5 => ?_)  -- c4
          · -- c4T
            first | with_reducible (replace hb5 := nb_nt hb5) | with_reducible (replace hb5 := nb_nf hb5) | with_reducible (replace hb5 := nb_tt hb5) | with_reducible (replace hb5 := nb_tf hb5) | with_reducible (replace hb5 := nb_bt hb5) | with_reducible (replace hb5 := nb_bf hb5) | skip
            exact absurd rfl hb5
          · -- c4F
            first | with_reducible (replace hb5 := nb_nt hb5) | with_reducible (replace hb5 := nb_nf hb5) | with_reducible (replace hb5 := nb_tt hb5) | with_reducible (replace hb5 := nb_tf hb5) | with_reducible (replace hb5 := nb_bt hb5) | with_reducible (replace hb5 := nb_bf hb5) | skip
            refine wp_skip ?_
            refine th_n ?_
            refine hK16 _ _ ?_
            clear hK16 K16
            refine wp_seq_k fun K18 hK18 => ?_
            refine wp_region_lit ?_  -- region 16 exact.go:2052
            refine S_beg 69 rfl ?_
            refine S_val (Y_assign rfl) ?_
            refine S_nil (L' := (_ :: _ :: _ :: _ :: _ :: _ :: _ :: _ :: _ :: _ :: _ :: _ :: _ :: _ :: _ :: _ :: _ :: _ :: _ :: _ :: _ :: _ :: _ :: _ :: _ :: _ :: _ :: _ :: _ :: _ :: _ :: _ :: _ :: _ :: _ :: _ :: _ :: _ :: _ :: _ :: _ :: _ :: _ :: _ :: _ :: _ :: _ :: _ :: _ :: _ :: _ :: _ :: _ :: _ :: _ :: _ :: _ :: _ :: _ :: _ :: _ :: _ :: _ :: _ :: _ :: _ :: _ :: _ :: _ :: [])) rfl rfl ?_
            refine th_n ?_
            refine hK18 _ _ ?_
            clear hK18 K18
            refine wp_seq_k fun K19 hK19 => ?_
            refine wp_region_lit ?_  -- region 17 exact.go:2053
            refine S_beg 69 rfl ?_
            refine S_val (Y_move rfl) ?_
            refine S_val (Y_move rfl) ?_
            refine S_call rfl en26 (markIntS_p _ _ _ _ _ _ _ OXg rfl (by omega) ⟨by omega, by omega⟩) ?_  -- k11 laws.markIntS
            rintro v15 w15 ⟨rfl, O15, m15⟩
            replace G := G.above m15 (by intro i h; first | omega | (dsimp only at h; omega))
            replace hA := hA0.grow G
            replace hB := hB0.grow G
            replace hA3 := hA3.mod m15 (by intro k hk h; first | omega | (dsimp only at hk h; omega) | (dsimp only at hk; omega))
            replace hB3 := hB3.mod m15 (by intro k hk h; first | omega | (dsimp only at hk h; omega) | (dsimp only at hk; omega))
            replace OXw := OXw.mod m15 (by intro k hk h; first | omega | (dsimp only at hk h; omega) | (dsimp only at hk; omega))
            replace hRw := hRw.mod m15 (by intro k hk h; first | omega | (dsimp only at hk h; omega) | (dsimp only at hk; omega))
            replace hA11 := hA11.mod m15 (by intro k hk h; first | omega | (dsimp only at hk h; omega) | (dsimp only at hk; omega))
            replace hB11 := hB11.mod m15 (by intro k hk h; first | omega | (dsimp only at hk h; omega) | (dsimp only at hk; omega))
            replace B1 := B1.mod m15 (by intro h; first | omega | (dsimp only at h; omega))
            replace B6 := B6.mod m15 (by intro h; first | omega | (dsimp only at h; omega))
            have zm15 := m15.size
            have hM := O15.r1
            refine S_val (Y_assign rfl) ?_
            refine S_nil (L' := (_ :: _ :: _ :: _ :: _ :: _ :: _ :: _ :: _ :: _ :: _ :: _ :: _ :: _ :: _ :: _ :: _ :: _ :: _ :: _ :: _ :: _ :: _ :: _ :: _ :: _ :: _ :: _ :: _ :: _ :: _ :: _ :: _ :: _ :: _ :: _ :: _ :: _ :: _ :: _ :: _ :: _ :: _ :: _ :: _ :: _ :: _ :: _ :: _ :: _ :: _ :: _ :: _ :: _ :: _ :: _ :: _ :: _ :: _ :: _ :: _ :: _ :: _ :: _ :: _ :: _ :: _ :: _ :: _ :: [])) rfl rfl ?_
            refine th_n ?_
            refine hK19 _ _ ?_
            clear hK19 K19
            refine wp_seq_k fun K20 hK20 => ?_
            refine wp_region_lit ?_  -- region 18 exact.go:2054
            refine S_beg 69 rfl ?_
            refine S_val (Y_assign rfl) ?_
            refine S_nil (L' := (_ :: _ :: _ :: _ :: _ :: _ :: _ :: _ :: _ :: _ :: _ :: _ :: _ :: _ :: _ :: _ :: _ :: _ :: _ :: _ :: _ :: _ :: _ :: _ :: _ :: _ :: _ :: _ :: _ :: _ :: _ :: _ :: _ :: _ :: _ :: _ :: _ :: _ :: _ :: _ :: _ :: _ :: _ :: _ :: _ :: _ :: _ :: _ :: _ :: _ :: _ :: _ :: _ :: _ :: _ :: _ :: _ :: _ :: _ :: _ :: _ :: _ :: _ :: _ :: _ :: _ :: _ :: _ :: _ :: [])) rfl rfl ?_
            refine th_n ?_
            refine hK20 _ _ ?_
            clear hK20 K20
            refine wp_seq_k fun K21 hK21 => ?_
            refine wp_region_lit ?_  -- region 19 exact.go:2055
            refine S_beg 69 rfl ?_
            refine S_val (Y_move rfl) ?_
            refine S_val (Y_move rfl) ?_
            refine S_call rfl en27 (laws_heldIntS_c _ _ _ _ _ _ hM (by omega) ⟨by omega, by omega⟩) ?_  -- k12 laws.heldIntS
            rintro v16 w16 ⟨rfl, g16⟩
            replace hA := hA.grow g16
            replace hB := hB.grow g16
            replace hA3 := hA3.grow g16
            replace hB3 := hB3.grow g16
            replace OXw := OXw.grow g16
            replace hRw := hRw.grow g16
            replace hA11 := hA11.grow g16
            replace hB11 := hB11.grow g16
            replace hM := hM.grow g16
            replace G := G.grow g16
            replace B1 := B1.grow g16
            replace B6 := B6.grow g16
            have zg16 := g16.size
            refine S_val (Y_assign rfl) ?_
            refine S_nil (L' := (_ :: _ :: _ :: _ :: _ :: _ :: _ :: _ :: _ :: _ :: _ :: _ :: _ :: _ :: _ :: _ :: _ :: _ :: _ :: _ :: _ :: _ :: _ :: _ :: _ :: _ :: _ :: _ :: _ :: _ :: _ :: _ :: _ :: _ :: _ :: _ :: _ :: _ :: _ :: _ :: _ :: _ :: _ :: _ :: _ :: _ :: _ :: _ :: _ :: _ :: _ :: _ :: _ :: _ :: _ :: _ :: _ :: _ :: _ :: _ :: _ :: _ :: _ :: _ :: _ :: _ :: _ :: _ :: _ :: [])) rfl rfl ?_
            refine th_n ?_
            refine hK21 _ _ ?_
            clear hK21 K21
            refine wp_seq_k fun K22 hK22 => ?_
            refine wp_seq_k fun K23 hK23 => ?_
            refine wp_region_lit ?_  -- region 20 exact.go:2056
            refine S_beg 69 rfl ?_
            refine S_val (Y_move rfl) ?_
            refine S_val (Y_lss rfl rfl) ?_
            refine S_nil (L' := (_ :: _ :: _ :: _ :: _ :: _ :: _ :: _ :: _ :: _ :: _ :: _ :: _ :: _ :: _ :: _ :: _ :: _ :: _ :: _ :: _ :: _ :: _ :: _ :: _ :: _ :: _ :: _ :: _ :: _ :: _ :: _ :: _ :: _ :: _ :: _ :: _ :: _ :: _ :: _ :: _ :: _ :: _ :: _ :: _ :: _ :: _ :: _ :: _ :: _ :: _ :: _ :: _ :: _ :: _ :: _ :: _ :: _ :: _ :: _ :: _ :: _ :: _ :: _ :: _ :: _ :: _ :: _ :: _ :: [])) rfl rfl ?_
            refine th_n ?_
            refine hK23 _ _ ?_
            clear hK23 K23
            refine S_if rfl (fun hb6 => ?_) (fun hb6 => ?_)  -- c5
            · -- c5T
              first | with_reducible (replace hb6 := nb_nt hb6) | with_reducible (replace hb6 := nb_nf hb6) | with_reducible (replace hb6 := nb_tt hb6) | with_reducible (replace hb6 := nb_tf hb6) | with_reducible (replace hb6 := nb_bt hb6) | with_reducible (replace hb6 := nb_bf hb6) | skip
              omega
            · -- c5F
              first | with_reducible (replace hb6 := nb_nt hb6) | with_reducible (replace hb6 := nb_nf hb6) | with_reducible (replace hb6 := nb_tt hb6) | with_reducible (replace hb6 := nb_tf hb6) | with_reducible (replace hb6 := nb_bt hb6) | with_reducible (replace hb6 := nb_bf hb6) | skip
              refine wp_skip ?_
              refine th_n ?_
              refine hK22 _ _ ?_
              clear hK22 K22
              refine wp_seq_k fun K24 hK24 => ?_
              refine wp_seq_k fun K25 hK25 => ?_
              refine wp_region_lit ?_  -- region 22 exact.go:2059
              refine S_beg 69 rfl ?_
              refine S_val (Y_move rfl) ?_
              refine S_val (Y_move rfl) ?_
              refine S_val (Y_neq rfl rfl) ?_
              refine S_nil (L' := (_ :: _ :: _ :: _ :: _ :: _ :: _ :: _ :: _ :: _ :: _ :: _ :: _ :: _ :: _ :: _ :: _ :: _ :: _ :: _ :: _ :: _ :: _ :: _ :: _ :: _ :: _ :: _ :: _ :: _ :: _ :: _ :: _ :: _ :: _ :: _ :: _ :: _ :: _ :: _ :: _ :: _ :: _ :: _ :: _ :: _ :: _ :: _ :: _ :: _ :: _ :: _ :: _ :: _ :: _ :: _ :: _ :: _ :: _ :: _ :: _ :: _ :: _ :: _ :: _ :: _ :: _ :: _ :: _ :: [])) rfl rfl ?_
              refine th_n ?_
              refine hK25 _ _ ?_
              clear hK25 K25
              refine S_if rfl (fun hb7 => ?_) (fun hb7 => ?_)  -- c6
              · -- c6T
                first | with_reducible (replace hb7 := nb_nt hb7) | with_reducible (replace hb7 := nb_nf hb7) | with_reducible (replace hb7 := nb_tt hb7) | with_reducible (replace hb7 := nb_tf hb7) | with_reducible (replace hb7 := nb_bt hb7) | with_reducible (replace hb7 := nb_bf hb7) | skip
                exact absurd rfl hb7
              · -- c6F
                first | with_reducible (replace hb7 := nb_nt hb7) | with_reducible (replace hb7 := nb_nf hb7) | with_reducible (replace hb7 := nb_tt hb7) | with_reducible (replace hb7 := nb_tf hb7) | with_reducible (replace hb7 := nb_bt hb7) | with_reducible (replace hb7 := nb_bf hb7) | skip
                refine wp_skip ?_
                refine th_n ?_
                refine hK24 _ _ ?_
                clear hK24 K24
                refine wp_seq_k fun K26 hK26 => ?_
                refine wp_region_lit ?_  -- region 24 exact.go:2062
                refine S_beg 69 rfl ?_
                refine S_val (Y_loadS Try.underlying25 rfl sz25 rfl (by first | assumption | exact B1.row (by rfl) | exact B6.row (by rfl))) ?_  -- l8
                refine S_call rfl en21 (laws_toHeap_c _ _ _ _ _ _ _ (by assumption) (by assumption) (by omega)) ?_  -- k13 laws.toHeap
                rintro v17 w17 ⟨a17, b17, rs17, rfl, O17, g17⟩
                replace hA := hA.grow g17
                replace hB := hB.grow g17
                replace hA3 := hA3.grow g17
                replace hB3 := hB3.grow g17
                replace OXw := OXw.grow g17
                replace hRw := hRw.grow g17
                replace hA11 := hA11.grow g17
                replace hB11 := hB11.grow g17
                replace hM := hM.grow g17
                replace G := G.grow g17
                replace B1 := B1.grow g17
                replace B6 := B6.grow g17
                have zg17 := g17.size
                replace O17 := O17.lt
                have hA17 := O17.rc
                have hB17 := O17.r1
                refine S_call rfl en22 (impl_SlideForward_c _ _ _ _ _ _ _ (by assumption) (by assumption) (by omega)) ?_  -- k14 impl.SlideForward
                rintro v18 w18 ⟨A18, q18, cap18, rfl, hq18, O18, g18⟩
                replace hA := hA.grow g18
                replace hB := hB.grow g18
                replace hA3 := hA3.grow g18
                replace hB3 := hB3.grow g18
                replace OXw := OXw.grow g18
                replace hRw := hRw.grow g18
                replace hA11 := hA11.grow g18
                replace hB11 := hB11.grow g18
                replace hM := hM.grow g18
                replace hA17 := hA17.grow g18
                replace hB17 := hB17.grow g18
                replace G := G.grow g18
                replace B1 := B1.grow g18
                replace B6 := B6.grow g18
                have zg18 := g18.size
                subst hq18
                replace O18 := O18.lt
                have OXh := O18
                have hRh := OXh.r1
                refine S_val (Y_assign rfl) ?_
                refine S_nil (L' := (_ :: _ :: _ :: _ :: _ :: _ :: _ :: _ :: _ :: _ :: _ :: _ :: _ :: _ :: _ :: _ :: _ :: _ :: _ :: _ :: _ :: _ :: _ :: _ :: _ :: _ :: _ :: _ :: _ :: _ :: _ :: _ :: _ :: _ :: _ :: _ :: _ :: _ :: _ :: _ :: _ :: _ :: _ :: _ :: _ :: _ :: _ :: _ :: _ :: _ :: _ :: _ :: _ :: _ :: _ :: _ :: _ :: _ :: _ :: _ :: _ :: _ :: _ :: _ :: _ :: _ :: _ :: _ :: _ :: [])) rfl rfl ?_
                refine th_n ?_
                refine hK26 _ _ ?_
                clear hK26 K26
                refine wp_seq_k fun K27 hK27 => ?_
                refine wp_seq_k fun K28 hK28 => ?_
                refine wp_region_lit ?_  -- region 25 exact.go:2063
                refine S_beg 69 rfl ?_
                refine S_val (Y_move rfl) ?_
                refine S_val (Y_move rfl) ?_
                refine S_call rfl en23 (laws_eqIntS_c _ _ _ _ _ _ _ _ _ (by assumption) (by assumption) (by omega)) ?_  -- k15 laws.eqIntS
                rintro v19 w19 ⟨rfl, g19⟩
                replace hA := hA.grow g19
                replace hB := hB.grow g19
                replace hA3 := hA3.grow g19
                replace hB3 := hB3.grow g19
                replace OXw := OXw.grow g19
                replace hRw := hRw.grow g19
                replace hA11 := hA11.grow g19
                replace hB11 := hB11.grow g19
                replace hM := hM.grow g19
                replace hA17 := hA17.grow g19
                replace hB17 := hB17.grow g19
                replace OXh := OXh.grow g19
                replace hRh := hRh.grow g19
                replace G := G.grow g19
                replace B1 := B1.grow g19
                replace B6 := B6.grow g19
                have zg19 := g19.size
                refine S_val (Y_not rfl) ?_
                refine S_nil (L' := (_ :: _ :: _ :: _ :: _ :: _ :: _ :: _ :: _ :: _ :: _ :: _ :: _ :: _ :: _ :: _ :: _ :: _ :: _ :: _ :: _ :: _ :: _ :: _ :: _ :: _ :: _ :: _ :: _ :: _ :: _ :: _ :: _ :: _ :: _ :: _ :: _ :: _ :: _ :: _ :: _ :: _ :: _ :: _ :: _ :: _ :: _ :: _ :: _ :: _ :: _ :: _ :: _ :: _ :: _ :: _ :: _ :: _ :: _ :: _ :: _ :: _ :: _ :: _ :: _ :: _ :: _ :: _ :: _ :: [])) rfl rfl ?_
                refine th_n ?_
                refine hK28 _ _ ?_
                clear hK28 K28
                refine S_if rfl (fun hb8 => ?_) (fun hb8 => ?_)  -- c7
                · -- c7T
                  first | with_reducible (replace hb8 := nb_nt hb8) | with_reducible (replace hb8 := nb_nf hb8) | with_reducible (replace hb8 := nb_tt hb8) | with_reducible (replace hb8 := nb_tf hb8) | with_reducible (replace hb8 := nb_bt hb8) | with_reducible (replace hb8 := nb_bf hb8) | skip
                  exact absurd rfl hb8
                · -- c7F
                  first | with_reducible (replace hb8 := nb_nt hb8) | with_reducible (replace hb8 := nb_nf hb8) | with_reducible (replace hb8 := nb_tt hb8) | with_reducible (replace hb8 := nb_tf hb8) | with_reducible (replace hb8 := nb_bt hb8) | with_reducible (replace hb8 := nb_bf hb8) | skip
                  refine wp_skip ?_
                  refine th_n ?_
                  refine hK27 _ _ ?_
                  clear hK27 K27
                  refine wp_seq_k fun K29 hK29 => ?_
                  refine wp_region_lit ?_  -- region 27 exact.go:2066
                  refine S_beg 69 rfl ?_
                  refine S_val (Y_assign rfl) ?_
                  refine S_nil (L' := (_ :: _ :: _ :: _ :: _ :: _ :: _ :: _ :: _ :: _ :: _ :: _ :: _ :: _ :: _ :: _ :: _ :: _ :: _ :: _ :: _ :: _ :: _ :: _ :: _ :: _ :: _ :: _ :: _ :: _ :: _ :: _ :: _ :: _ :: _ :: _ :: _ :: _ :: _ :: _ :: _ :: _ :: _ :: _ :: _ :: _ :: _ :: _ :: _ :: _ :: _ :: _ :: _ :: _ :: _ :: _ :: _ :: _ :: _ :: _ :: _ :: _ :: _ :: _ :: _ :: _ :: _ :: _ :: _ :: [])) rfl rfl ?_
                  refine th_n ?_
                  refine hK29 _ _ ?_
                  clear hK29 K29
                  refine wp_seq_k fun K30 hK30 => ?_
                  refine wp_region_lit ?_  -- region 28 exact.go:2067
                  refine S_beg 69 rfl ?_
                  refine S_val (Y_move rfl) ?_
                  refine S_val (Y_move rfl) ?_
                  refine S_call rfl en27 (laws_heldIntS_c _ _ _ _ _ _ hM (by omega) ⟨by omega, by omega⟩) ?_  -- k16 laws.heldIntS
                  rintro v20 w20 ⟨rfl, g20⟩
                  replace hA := hA.grow g20
                  replace hB := hB.grow g20
                  replace hA3 := hA3.grow g20
                  replace hB3 := hB3.grow g20
                  replace OXw := OXw.grow g20
                  replace hRw := hRw.grow g20
                  replace hA11 := hA11.grow g20
                  replace hB11 := hB11.grow g20
                  replace hM := hM.grow g20
                  replace hA17 := hA17.grow g20
                  replace hB17 := hB17.grow g20
                  replace OXh := OXh.grow g20
                  replace hRh := hRh.grow g20
                  replace G := G.grow g20
                  replace B1 := B1.grow g20
                  replace B6 := B6.grow g20
                  have zg20 := g20.size
                  refine S_val (Y_assign rfl) ?_
                  refine S_nil (L' := (_ :: _ :: _ :: _ :: _ :: _ :: _ :: _ :: _ :: _ :: _ :: _ :: _ :: _ :: _ :: _ :: _ :: _ :: _ :: _ :: _ :: _ :: _ :: _ :: _ :: _ :: _ :: _ :: _ :: _ :: _ :: _ :: _ :: _ :: _ :: _ :: _ :: _ :: _ :: _ :: _ :: _ :: _ :: _ :: _ :: _ :: _ :: _ :: _ :: _ :: _ :: _ :: _ :: _ :: _ :: _ :: _ :: _ :: _ :: _ :: _ :: _ :: _ :: _ :: _ :: _ :: _ :: _ :: _ :: [])) rfl rfl ?_
                  refine th_n ?_
                  refine hK30 _ _ ?_
                  clear hK30 K30
                  refine wp_seq_k fun K31 hK31 => ?_
                  refine wp_seq_k fun K32 hK32 => ?_
                  refine wp_region_lit ?_  -- region 29 exact.go:2068
                  refine S_beg 69 rfl ?_
                  refine S_val (Y_move rfl) ?_
                  refine S_val (Y_lss rfl rfl) ?_
                  refine S_nil (L' := (_ :: _ :: _ :: _ :: _ :: _ :: _ :: _ :: _ :: _ :: _ :: _ :: _ :: _ :: _ :: _ :: _ :: _ :: _ :: _ :: _ :: _ :: _ :: _ :: _ :: _ :: _ :: _ :: _ :: _ :: _ :: _ :: _ :: _ :: _ :: _ :: _ :: _ :: _ :: _ :: _ :: _ :: _ :: _ :: _ :: _ :: _ :: _ :: _ :: _ :: _ :: _ :: _ :: _ :: _ :: _ :: _ :: _ :: _ :: _ :: _ :: _ :: _ :: _ :: _ :: _ :: _ :: _ :: _ :: [])) rfl rfl ?_
                  refine th_n ?_
                  refine hK32 _ _ ?_
                  clear hK32 K32
                  refine S_if rfl (fun hb9 => ?_) (fun hb9 => ?_)  -- c8
                  · -- c8T
                    first | with_reducible (replace hb9 := nb_nt hb9) | with_reducible (replace hb9 := nb_nf hb9) | with_reducible (replace hb9 := nb_tt hb9) | with_reducible (replace hb9 := nb_tf hb9) | with_reducible (replace hb9 := nb_bt hb9) | with_reducible (replace hb9 := nb_bf hb9) | skip
                    omega
                  · -- c8F
                    first | with_reducible (replace hb9 := nb_nt hb9) | with_reducible (replace hb9 := nb_nf hb9) | with_reducible (replace hb9 := nb_tt hb9) | with_reducible (replace hb9 := nb_tf hb9) | with_reducible (replace hb9 := nb_bt hb9) | with_reducible (replace hb9 := nb_bf hb9) | skip
                    refine wp_skip ?_
                    refine th_n ?_
                    refine hK31 _ _ ?_
                    clear hK31 K31
                    refine wp_seq_k fun K33 hK33 => ?_
                    refine wp_seq_k fun K34 hK34 => ?_
                    refine wp_region_lit ?_  -- region 31 exact.go:2071
                    refine S_beg 69 rfl ?_
                    refine S_val (Y_move rfl) ?_
                    refine S_val (Y_move rfl) ?_
                    refine S_val (Y_neq rfl rfl) ?_
                    refine S_nil (L' := (_ :: _ :: _ :: _ :: _ :: _ :: _ :: _ :: _ :: _ :: _ :: _ :: _ :: _ :: _ :: _ :: _ :: _ :: _ :: _ :: _ :: _ :: _ :: _ :: _ :: _ :: _ :: _ :: _ :: _ :: _ :: _ :: _ :: _ :: _ :: _ :: _ :: _ :: _ :: _ :: _ :: _ :: _ :: _ :: _ :: _ :: _ :: _ :: _ :: _ :: _ :: _ :: _ :: _ :: _ :: _ :: _ :: _ :: _ :: _ :: _ :: _ :: _ :: _ :: _ :: _ :: _ :: _ :: _ :: [])) rfl rfl ?_
                    refine th_n ?_
                    refine hK34 _ _ ?_
                    clear hK34 K34
                    refine S_if rfl (fun hb10 => ?_) (fun hb10 => ?_)  -- c9
                    · -- c9T
                      first | with_reducible (replace hb10 := nb_nt hb10) | with_reducible (replace hb10 := nb_nf hb10) | with_reducible (replace hb10 := nb_tt hb10) | with_reducible (replace hb10 := nb_tf hb10) | with_reducible (replace hb10 := nb_bt hb10) | with_reducible (replace hb10 := nb_bf hb10) | skip
                      exact absurd rfl hb10
                    · -- c9F
                      first | with_reducible (replace hb10 := nb_nt hb10) | with_reducible (replace hb10 := nb_nf hb10) | with_reducible (replace hb10 := nb_tt hb10) | with_reducible (replace hb10 := nb_tf hb10) | with_reducible (replace hb10 := nb_bt hb10) | with_reducible (replace hb10 := nb_bf hb10) | skip
                      refine wp_skip ?_
                      refine th_n ?_
                      refine hK33 _ _ ?_
                      clear hK33 K33
                      refine wp_seq_k fun K35 hK35 => ?_
                      refine wp_region_lit ?_  -- region 33 exact.go:2074
                      refine S_beg 69 rfl ?_
                      refine S_val (Y_assign rfl) ?_
                      refine S_nil (L' := (_ :: _ :: _ :: _ :: _ :: _ :: _ :: _ :: _ :: _ :: _ :: _ :: _ :: _ :: _ :: _ :: _ :: _ :: _ :: _ :: _ :: _ :: _ :: _ :: _ :: _ :: _ :: _ :: _ :: _ :: _ :: _ :: _ :: _ :: _ :: _ :: _ :: _ :: _ :: _ :: _ :: _ :: _ :: _ :: _ :: _ :: _ :: _ :: _ :: _ :: _ :: _ :: _ :: _ :: _ :: _ :: _ :: _ :: _ :: _ :: _ :: _ :: _ :: _ :: _ :: _ :: _ :: _ :: _ :: [])) rfl rfl ?_
                      refine th_n ?_
                      refine hK35 _ _ ?_
                      clear hK35 K35
                      refine wp_ret ?_
                      refine ret_r1 rfl rfl ?_  -- r2
                      exact ⟨rfl, G⟩

end Go.Proofs.Ytdfifnplgbceaab
