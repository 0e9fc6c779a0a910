/-
  The law FnExactSameView returns true.
  Conditions: those that each theorem states.
-/
import Derived.Test.YtdfifnplgbceaaaTy
import Derived.Test.YtdfifnplgbceaaaWalkV
namespace Go.Proofs.Ytdfifnplgbceaaa
open Go Go.RowKit
attribute [local irreducible] wpList wpAnyH Code.wp dOp

set_option maxHeartbeats 400000 in
set_option maxRecDepth 20000 in
theorem laws_FnExactSameView_c (Prx : Nat → Prop) (Ax Bx : Option Addr) (hx : LH) (cx dx : Nat) (Pry : Nat → Prop) (Ay By : Option Addr) (hy : LH) (cy dy : Nat) (w : World) (hAx : RC Prx w Ax hx.cells) (hBx : R1 Prx w Bx (ints hx.roots)) (hnx : hx.cells.length ≤ 9223372036854775807) (hNx : ∀ x ∈ hx.cells, x.refs.length ≤ 9223372036854775807) (hmx : hx.roots.length ≤ 9223372036854775807) (hAy : RC Pry w Ay hy.cells) (hBy : R1 Pry w By (ints hy.roots)) (hny : hy.cells.length ≤ 9223372036854775807) (hNy : ∀ x ∈ hy.cells, x.refs.length ≤ 9223372036854775807) (hmy : hy.roots.length ≤ 9223372036854775807) :
    Calls Try.prog 12 #[.agg #[.slice Ax hx.cells.length cx, .slice Bx hx.roots.length dx], .agg #[.slice Ay hy.cells.length cy, .slice By hy.roots.length dy]] w (Ret fun v w' => v = .bool true ∧ Grow w w') := by
  refine enter Try.func12 rfl Try.ntmps12 (L := (_ :: _ :: _ :: _ :: _ :: _ :: _ :: _ :: _ :: _ :: _ :: _ :: _ :: _ :: _ :: _ :: _ :: _ :: _ :: _ :: _ :: _ :: _ :: _ :: _ :: _ :: _ :: _ :: _ :: _ :: _ :: _ :: _ :: _ :: _ :: _ :: _ :: _ :: _ :: _ :: _ :: _ :: _ :: _ :: _ :: [])) rfl ?_
  have G := Mod.refl No w
  have hAx0 := hAx
  have hBx0 := hBx
  have hAy0 := hAy
  have hBy0 := hBy
  refine wp_seq_k fun K1 hK1 => ?_
  refine wp_region_lit ?_  -- region 0 exact.go:4993
  refine S_beg 45 rfl ?_
  refine S_box (cs := [_, _]) rfl rfl ?_
  intro b1 w1 fb1 g1 B1
  have lb1 := B1.lt
  replace hAx := hAx.grow g1
  replace hBx := hBx.grow g1
  replace hAy := hAy.grow g1
  replace hBy := hBy.grow g1
  replace G := G.grow g1
  have zg1 := g1.size
  refine S_box (cs := [_, _]) rfl rfl ?_
  intro b2 w2 fb2 g2 B2
  have lb2 := B2.lt
  replace hAx := hAx.grow g2
  replace hBx := hBx.grow g2
  replace hAy := hAy.grow g2
  replace hBy := hBy.grow g2
  replace G := G.grow g2
  replace B1 := B1.grow g2
  have zg2 := g2.size
  refine S_val (Y_assign rfl) ?_
  refine S_nil (L' := (_ :: _ :: _ :: _ :: _ :: _ :: _ :: _ :: _ :: _ :: _ :: _ :: _ :: _ :: _ :: _ :: _ :: _ :: _ :: _ :: _ :: _ :: _ :: _ :: _ :: _ :: _ :: _ :: _ :: _ :: _ :: _ :: _ :: _ :: _ :: _ :: _ :: _ :: _ :: _ :: _ :: _ :: _ :: _ :: _ :: [])) rfl rfl ?_
  refine th_n ?_
  refine hK1 _ _ ?_
  clear hK1 K1
  refine wp_seq_k fun K2 hK2 => ?_
  refine wp_region_lit ?_  -- region 1 exact.go:4994
  refine S_beg 45 rfl ?_
  refine S_val (Y_assign rfl) ?_
  refine S_nil (L' := (_ :: _ :: _ :: _ :: _ :: _ :: _ :: _ :: _ :: _ :: _ :: _ :: _ :: _ :: _ :: _ :: _ :: _ :: _ :: _ :: _ :: _ :: _ :: _ :: _ :: _ :: _ :: _ :: _ :: _ :: _ :: _ :: _ :: _ :: _ :: _ :: _ :: _ :: _ :: _ :: _ :: _ :: _ :: _ :: _ :: [])) rfl rfl ?_
  refine th_n ?_
  refine hK2 _ _ ?_
  clear hK2 K2
  refine wp_seq_k fun K3 hK3 => ?_
  refine wp_region_lit ?_  -- region 2 exact.go:4995
  refine S_beg 45 rfl ?_
  refine S_val (Y_loadS Try.underlying25 rfl sz25 rfl (by first | assumption | exact B1.row (by rfl) | exact B2.row (by rfl))) ?_  -- l1
  refine S_val (Y_move rfl) ?_
  refine S_call rfl en15 (laws_szHeap_c _ _ _ _ _ _ _ _ (by assumption) (by omega) (by assumption) (by omega) (by omega) (by omega)) ?_  -- k1 laws.szHeap
  rintro v3 w3 ⟨r3, rfl, hr3, g3⟩
  replace hAx := hAx.grow g3
  replace hBx := hBx.grow g3
  replace hAy := hAy.grow g3
  replace hBy := hBy.grow g3
  replace G := G.grow g3
  replace B1 := B1.grow g3
  replace B2 := B2.grow g3
  have zg3 := g3.size
  refine S_val (Y_assign rfl) ?_
  refine S_nil (L' := (_ :: _ :: _ :: _ :: _ :: _ :: _ :: _ :: _ :: _ :: _ :: _ :: _ :: _ :: _ :: _ :: _ :: _ :: _ :: _ :: _ :: _ :: _ :: _ :: _ :: _ :: _ :: _ :: _ :: _ :: _ :: _ :: _ :: _ :: _ :: _ :: _ :: _ :: _ :: _ :: _ :: _ :: _ :: _ :: _ :: [])) rfl rfl ?_
  refine th_n ?_
  refine hK3 _ _ ?_
  clear hK3 K3
  refine wp_seq_k fun K4 hK4 => ?_
  refine wp_seq_k fun K5 hK5 => ?_
  refine wp_region_lit ?_  -- region 3 exact.go:4996
  refine S_beg 45 rfl ?_
  refine S_val (Y_move rfl) ?_
  refine S_val (Y_lss rfl rfl) ?_
  refine S_nil (L' := (_ :: _ :: _ :: _ :: _ :: _ :: _ :: _ :: _ :: _ :: _ :: _ :: _ :: _ :: _ :: _ :: _ :: _ :: _ :: _ :: _ :: _ :: _ :: _ :: _ :: _ :: _ :: _ :: _ :: _ :: _ :: _ :: _ :: _ :: _ :: _ :: _ :: _ :: _ :: _ :: _ :: _ :: _ :: _ :: _ :: [])) rfl rfl ?_
  refine th_n ?_
  refine hK5 _ _ ?_
  clear hK5 K5
  refine S_if rfl (fun hb1 => ?_) (fun hb1 => ?_)  -- c1
  · -- c1T
    first | with_reducible (replace hb1 := nb_nt hb1) | with_reducible (replace hb1 := nb_nf hb1) | with_reducible (replace hb1 := nb_tt hb1) | with_reducible (replace hb1 := nb_tf hb1) | with_reducible (replace hb1 := nb_bt hb1) | with_reducible (replace hb1 := nb_bf hb1) | skip
    refine wp_seq_k fun K6 hK6 => ?_
    refine wp_region_lit ?_  -- region 4 exact.go:4997
    refine S_beg 45 rfl ?_
    refine S_val (Y_assign rfl) ?_
    refine S_nil (L' := (_ :: _ :: _ :: _ :: _ :: _ :: _ :: _ :: _ :: _ :: _ :: _ :: _ :: _ :: _ :: _ :: _ :: _ :: _ :: _ :: _ :: _ :: _ :: _ :: _ :: _ :: _ :: _ :: _ :: _ :: _ :: _ :: _ :: _ :: _ :: _ :: _ :: _ :: _ :: _ :: _ :: _ :: _ :: _ :: _ :: [])) rfl rfl ?_
    refine th_n ?_
    refine hK6 _ _ ?_
    clear hK6 K6
    refine wp_ret ?_
    refine th_r ?_
    clear hK4 K4
    refine ret_r1 rfl rfl ?_  -- r1
    exact ⟨rfl, G⟩
  · -- c1F
    first | with_reducible (replace hb1 := nb_nt hb1) | with_reducible (replace hb1 := nb_nf hb1) | with_reducible (replace hb1 := nb_tt hb1) | with_reducible (replace hb1 := nb_tf hb1) | with_reducible (replace hb1 := nb_bt hb1) | with_reducible (replace hb1 := nb_bf hb1) | skip
    refine wp_skip ?_
    refine th_n ?_
    refine hK4 _ _ ?_
    clear hK4 K4
    refine wp_seq_k fun K7 hK7 => ?_
    refine wp_region_lit ?_  -- region 5 exact.go:4999
    refine S_beg 45 rfl ?_
    refine S_val (Y_loadS Try.underlying25 rfl sz25 rfl (by first | assumption | exact B1.row (by rfl) | exact B2.row (by rfl))) ?_  -- l2
    refine S_val (Y_move rfl) ?_
    refine S_call rfl en15 (laws_szHeap_c _ _ _ _ _ _ _ _ (by assumption) (by omega) (by assumption) (by omega) (by omega) (by omega)) ?_  -- k2 laws.szHeap
    rintro v4 w4 ⟨r4, rfl, hr4, g4⟩
    replace hAx := hAx.grow g4
    replace hBx := hBx.grow g4
    replace hAy := hAy.grow g4
    replace hBy := hBy.grow g4
    replace G := G.grow g4
    replace B1 := B1.grow g4
    replace B2 := B2.grow g4
    have zg4 := g4.size
    refine S_val (Y_assign rfl) ?_
    refine S_nil (L' := (_ :: _ :: _ :: _ :: _ :: _ :: _ :: _ :: _ :: _ :: _ :: _ :: _ :: _ :: _ :: _ :: _ :: _ :: _ :: _ :: _ :: _ :: _ :: _ :: _ :: _ :: _ :: _ :: _ :: _ :: _ :: _ :: _ :: _ :: _ :: _ :: _ :: _ :: _ :: _ :: _ :: _ :: _ :: _ :: _ :: [])) rfl rfl ?_
    refine th_n ?_
    refine hK7 _ _ ?_
    clear hK7 K7
    refine wp_seq_k fun K8 hK8 => ?_
    refine wp_seq_k fun K9 hK9 => ?_
    refine wp_region_lit ?_  -- region 6 exact.go:5000
    refine S_beg 45 rfl ?_
    refine S_val (Y_move rfl) ?_
    refine S_val (Y_lss rfl rfl) ?_
    refine S_nil (L' := (_ :: _ :: _ :: _ :: _ :: _ :: _ :: _ :: _ :: _ :: _ :: _ :: _ :: _ :: _ :: _ :: _ :: _ :: _ :: _ :: _ :: _ :: _ :: _ :: _ :: _ :: _ :: _ :: _ :: _ :: _ :: _ :: _ :: _ :: _ :: _ :: _ :: _ :: _ :: _ :: _ :: _ :: _ :: _ :: _ :: [])) rfl rfl ?_
    refine th_n ?_
    refine hK9 _ _ ?_
    clear hK9 K9
    refine S_if rfl (fun hb2 => ?_) (fun hb2 => ?_)  -- c2
    · -- c2T
      first | with_reducible (replace hb2 := nb_nt hb2) | with_reducible (replace hb2 := nb_nf hb2) | with_reducible (replace hb2 := nb_tt hb2) | with_reducible (replace hb2 := nb_tf hb2) | with_reducible (replace hb2 := nb_bt hb2) | with_reducible (replace hb2 := nb_bf hb2) | skip
      refine wp_seq_k fun K10 hK10 => ?_
      refine wp_region_lit ?_  -- region 7 exact.go:5001
      refine S_beg 45 rfl ?_
      refine S_val (Y_assign rfl) ?_
      refine S_nil (L' := (_ :: _ :: _ :: _ :: _ :: _ :: _ :: _ :: _ :: _ :: _ :: _ :: _ :: _ :: _ :: _ :: _ :: _ :: _ :: _ :: _ :: _ :: _ :: _ :: _ :: _ :: _ :: _ :: _ :: _ :: _ :: _ :: _ :: _ :: _ :: _ :: _ :: _ :: _ :: _ :: _ :: _ :: _ :: _ :: _ :: [])) rfl rfl ?_
      refine th_n ?_
      refine hK10 _ _ ?_
      clear hK10 K10
      refine wp_ret ?_
      refine th_r ?_
      clear hK8 K8
      refine ret_r1 rfl rfl ?_  -- r2
      exact ⟨rfl, G⟩
    · -- c2F
      first | with_reducible (replace hb2 := nb_nt hb2) | with_reducible (replace hb2 := nb_nf hb2) | with_reducible (replace hb2 := nb_tt hb2) | with_reducible (replace hb2 := nb_tf hb2) | with_reducible (replace hb2 := nb_bt hb2) | with_reducible (replace hb2 := nb_bf hb2) | skip
      have hzx : hsize hx ≤ 1048576 := by omega
      have hzy : hsize hy ≤ 1048576 := by omega
      refine wp_skip ?_
      refine th_n ?_
      refine hK8 _ _ ?_
      clear hK8 K8
      refine wp_seq_k fun K11 hK11 => ?_
      refine D_start 6 45 (fun w => Mod (No) w) follows rfl rfl ?_  -- d1 region 8 exact.go:5003
      intro w5 g5
      replace hAx := hAx.grow g5
      replace hBx := hBx.grow g5
      replace hAy := hAy.grow g5
      replace hBy := hBy.grow g5
      replace G := G.grow g5
      replace B1 := B1.grow g5
      replace B2 := B2.grow g5
      have zg5 := g5.size
      have GS5 := Mod.refl (No) w5
      have B1d5 := B1
      have B2d5 := B2
      refine D_q (i := 0) rfl (by kernel_rfl) (fun _ _ _ h => h) GS5 (fun _ hs => Y_loadS Try.underlying25 rfl sz25 rfl (by first | exact hs.cells0 (by assumption) | exact hs.cells0 (B1.row (by rfl)) | exact hs.cells0 (B2.row (by rfl)) | exact hs.cells0 (B1d5.row (by rfl)) | exact hs.cells0 (B2d5.row (by rfl)))) ?_
      refine D_q (i := 2) rfl (by kernel_rfl) (fun _ _ _ h => h) GS5 (fun _ hs => Y_loadS Try.underlying25 rfl sz25 rfl (by first | exact hs.cells0 (by assumption) | exact hs.cells0 (B1.row (by rfl)) | exact hs.cells0 (B2.row (by rfl)) | exact hs.cells0 (B1d5.row (by rfl)) | exact hs.cells0 (B2d5.row (by rfl)))) ?_
      refine D_1 (i := 1) (by kernel_rfl) ?_
      refine E_call rfl rfl en17 (laws_toHeap_c _ _ _ _ _ _ _ (by assumption) (by assumption) (by omega)) ?_  -- k3 laws.toHeap
      rintro v6 w6 ⟨a6, b6, rs6, rfl, O6, g6⟩
      replace hAx := hAx.grow g6
      replace hBx := hBx.grow g6
      replace hAy := hAy.grow g6
      replace hBy := hBy.grow g6
      replace G := G.grow g6
      replace GS5 := GS5.grow g6
      replace B1 := B1.grow g6
      replace B2 := B2.grow g6
      have zg6 := g6.size
      replace O6 := O6.lt
      have hA6 := O6.rc
      have hB6 := O6.r1
      refine ⟨GS5, ?_⟩
      refine D_1 (i := 3) (by kernel_rfl) ?_
      refine E_call rfl rfl en17 (laws_toHeap_c _ _ _ _ _ _ _ (by assumption) (by assumption) (by omega)) ?_  -- k4 laws.toHeap
      rintro v7 w7 ⟨a7, b7, rs7, rfl, O7, g7⟩
      replace hAx := hAx.grow g7
      replace hBx := hBx.grow g7
      replace hAy := hAy.grow g7
      replace hBy := hBy.grow g7
      replace O6 := O6.grow g7
      replace hA6 := hA6.grow g7
      replace hB6 := hB6.grow g7
      replace G := G.grow g7
      replace GS5 := GS5.grow g7
      replace B1 := B1.grow g7
      replace B2 := B2.grow g7
      have zg7 := g7.size
      replace O7 := O7.lt
      have hA7 := O7.rc
      have hB7 := O7.r1
      refine ⟨GS5, ?_⟩
      refine D_1 (i := 4) (by kernel_rfl) ?_
      refine E_call rfl rfl en47 (spec_SameView_c _ _ _ _ _ _ _ _ _ _ _ _ _ (by assumption) (by assumption) (by assumption) (by assumption) (by omega) (by omega)) ?_  -- k5 spec.SameView
      rintro v8 w8 ⟨rfl, g8⟩
      replace hAx := hAx.grow g8
      replace hBx := hBx.grow g8
      replace hAy := hAy.grow g8
      replace hBy := hBy.grow g8
      replace O6 := O6.grow g8
      replace hA6 := hA6.grow g8
      replace hB6 := hB6.grow g8
      replace O7 := O7.grow g8
      replace hA7 := hA7.grow g8
      replace hB7 := hB7.grow g8
      replace G := G.grow g8
      replace GS5 := GS5.grow g8
      replace B1 := B1.grow g8
      replace B2 := B2.grow g8
      have zg8 := g8.size
      refine ⟨GS5, ?_⟩
      refine D_q (i := 5) rfl (by kernel_rfl) (fun _ _ _ h => h) GS5 (fun _ _ => Y_assign rfl) ?_
      refine D_end (L' := (_ :: _ :: _ :: _ :: _ :: _ :: _ :: _ :: _ :: _ :: _ :: _ :: _ :: _ :: _ :: _ :: _ :: _ :: _ :: _ :: _ :: _ :: _ :: _ :: _ :: _ :: _ :: _ :: _ :: _ :: _ :: _ :: _ :: _ :: _ :: _ :: _ :: _ :: _ :: _ :: _ :: _ :: _ :: _ :: _ :: [])) (by kernel_rfl) rfl rfl ?_
      refine th_n ?_
      refine hK11 _ _ ?_
      clear hK11 K11
      refine wp_seq_k fun K12 hK12 => ?_
      refine wp_region_lit ?_  -- region 9 exact.go:5004
      refine S_beg 45 rfl ?_
      refine S_val (Y_loadS Try.underlying25 rfl sz25 rfl (by first | assumption | exact B1.row (by rfl) | exact B2.row (by rfl))) ?_  -- l5
      refine S_call rfl en17 (laws_toHeap_c _ _ _ _ _ _ _ (by assumption) (by assumption) (by omega)) ?_  -- k6 laws.toHeap
      rintro v9 w9 ⟨a9, b9, rs9, rfl, O9, g9⟩
      replace hAx := hAx.grow g9
      replace hBx := hBx.grow g9
      replace hAy := hAy.grow g9
      replace hBy := hBy.grow g9
      replace O6 := O6.grow g9
      replace hA6 := hA6.grow g9
      replace hB6 := hB6.grow g9
      replace O7 := O7.grow g9
      replace hA7 := hA7.grow g9
      replace hB7 := hB7.grow g9
      replace G := G.grow g9
      replace B1 := B1.grow g9
      replace B2 := B2.grow g9
      have zg9 := g9.size
      replace O9 := O9.lt
      have hA9 := O9.rc
      have hB9 := O9.r1
      refine S_alloc (cs := [_, _]) zr30 rfl ?_
      intro b10 w10 fb10 g10 B10
      have lb10 := B10.lt
      replace hAx := hAx.grow g10
      replace hBx := hBx.grow g10
      replace hAy := hAy.grow g10
      replace hBy := hBy.grow g10
      replace O6 := O6.grow g10
      replace hA6 := hA6.grow g10
      replace hB6 := hB6.grow g10
      replace O7 := O7.grow g10
      replace hA7 := hA7.grow g10
      replace hB7 := hB7.grow g10
      replace O9 := O9.grow g10
      replace hA9 := hA9.grow g10
      replace hB9 := hB9.grow g10
      replace G := G.grow g10
      replace B1 := B1.grow g10
      replace B2 := B2.grow g10
      have zg10 := g10.size
      refine S_stM (pre := []) (old := [_, _]) (post := []) (vs := [_, _]) sz30 rfl rfl rfl (by first | rfl | assumption) B10 rfl rfl ?_
      intro w11 m11 X11
      replace B10 := Blk.eq (ys := [_, _]) X11 rfl
      clear X11
      replace G := G.above m11 (by intro i h; first | omega | (dsimp only at h; omega))
      replace hAx := hAx0.grow G
      replace hBx := hBx0.grow G
      replace hAy := hAy0.grow G
      replace hBy := hBy0.grow G
      replace O6 := O6.mod m11 (by intro k hk h; first | omega | (dsimp only at hk h; omega) | (dsimp only at hk; omega))
      replace hA6 := hA6.mod m11 (by intro k hk h; first | omega | (dsimp only at hk h; omega) | (dsimp only at hk; omega))
      replace hB6 := hB6.mod m11 (by intro k hk h; first | omega | (dsimp only at hk h; omega) | (dsimp only at hk; omega))
      replace O7 := O7.mod m11 (by intro k hk h; first | omega | (dsimp only at hk h; omega) | (dsimp only at hk; omega))
      replace hA7 := hA7.mod m11 (by intro k hk h; first | omega | (dsimp only at hk h; omega) | (dsimp only at hk; omega))
      replace hB7 := hB7.mod m11 (by intro k hk h; first | omega | (dsimp only at hk h; omega) | (dsimp only at hk; omega))
      replace O9 := O9.mod m11 (by intro k hk h; first | omega | (dsimp only at hk h; omega) | (dsimp only at hk; omega))
      replace hA9 := hA9.mod m11 (by intro k hk h; first | omega | (dsimp only at hk h; omega) | (dsimp only at hk; omega))
      replace hB9 := hB9.mod m11 (by intro k hk h; first | omega | (dsimp only at hk h; omega) | (dsimp only at hk; omega))
      replace B1 := B1.mod m11 (by intro h; first | omega | (dsimp only at h; omega))
      replace B2 := B2.mod m11 (by intro h; first | omega | (dsimp only at h; omega))
      have zm11 := m11.size
      refine S_nil (L' := (_ :: _ :: _ :: _ :: _ :: _ :: _ :: _ :: _ :: _ :: _ :: _ :: _ :: _ :: _ :: _ :: _ :: _ :: _ :: _ :: _ :: _ :: _ :: _ :: _ :: _ :: _ :: _ :: _ :: _ :: _ :: _ :: _ :: _ :: _ :: _ :: _ :: _ :: _ :: _ :: _ :: _ :: _ :: _ :: _ :: [])) rfl rfl ?_
      refine th_n ?_
      refine hK12 _ _ ?_
      clear hK12 K12
      refine wp_seq_k fun K13 hK13 => ?_
      refine wp_region_lit ?_  -- region 10 exact.go:5005
      refine S_beg 45 rfl ?_
      refine S_val (Y_loadS Try.underlying25 rfl sz25 rfl (by first | assumption | exact B1.row (by rfl) | exact B2.row (by rfl) | exact B10.row (by rfl))) ?_  -- l6
      refine S_call rfl en17 (laws_toHeap_c _ _ _ _ _ _ _ (by assumption) (by assumption) (by omega)) ?_  -- k7 laws.toHeap
      rintro v12 w12 ⟨a12, b12, rs12, rfl, O12, g12⟩
      replace hAx := hAx.grow g12
      replace hBx := hBx.grow g12
      replace hAy := hAy.grow g12
      replace hBy := hBy.grow g12
      replace O6 := O6.grow g12
      replace hA6 := hA6.grow g12
      replace hB6 := hB6.grow g12
      replace O7 := O7.grow g12
      replace hA7 := hA7.grow g12
      replace hB7 := hB7.grow g12
      replace O9 := O9.grow g12
      replace hA9 := hA9.grow g12
      replace hB9 := hB9.grow g12
      replace G := G.grow g12
      replace B1 := B1.grow g12
      replace B2 := B2.grow g12
      replace B10 := B10.grow g12
      have zg12 := g12.size
      replace O12 := O12.lt
      have hA12 := O12.rc
      have hB12 := O12.r1
      refine S_alloc (cs := [_, _]) zr30 rfl ?_
      intro b13 w13 fb13 g13 B13
      have lb13 := B13.lt
      replace hAx := hAx.grow g13
      replace hBx := hBx.grow g13
      replace hAy := hAy.grow g13
      replace hBy := hBy.grow g13
      replace O6 := O6.grow g13
      replace hA6 := hA6.grow g13
      replace hB6 := hB6.grow g13
      replace O7 := O7.grow g13
      replace hA7 := hA7.grow g13
      replace hB7 := hB7.grow g13
      replace O9 := O9.grow g13
      replace hA9 := hA9.grow g13
      replace hB9 := hB9.grow g13
      replace O12 := O12.grow g13
      replace hA12 := hA12.grow g13
      replace hB12 := hB12.grow g13
      replace G := G.grow g13
      replace B1 := B1.grow g13
      replace B2 := B2.grow g13
      replace B10 := B10.grow g13
      have zg13 := g13.size
      refine S_stM (pre := []) (old := [_, _]) (post := []) (vs := [_, _]) sz30 rfl rfl rfl (by first | rfl | assumption) B13 rfl rfl ?_
      intro w14 m14 X14
      replace B13 := Blk.eq (ys := [_, _]) X14 rfl
      clear X14
      replace G := G.above m14 (by intro i h; first | omega | (dsimp only at h; omega))
      replace hAx := hAx0.grow G
      replace hBx := hBx0.grow G
      replace hAy := hAy0.grow G
      replace hBy := hBy0.grow G
      replace O6 := O6.mod m14 (by intro k hk h; first | omega | (dsimp only at hk h; omega) | (dsimp only at hk; omega))
      replace hA6 := hA6.mod m14 (by intro k hk h; first | omega | (dsimp only at hk h; omega) | (dsimp only at hk; omega))
      replace hB6 := hB6.mod m14 (by intro k hk h; first | omega | (dsimp only at hk h; omega) | (dsimp only at hk; omega))
      replace O7 := O7.mod m14 (by intro k hk h; first | omega | (dsimp only at hk h; omega) | (dsimp only at hk; omega))
      replace hA7 := hA7.mod m14 (by intro k hk h; first | omega | (dsimp only at hk h; omega) | (dsimp only at hk; omega))
      replace hB7 := hB7.mod m14 (by intro k hk h; first | omega | (dsimp only at hk h; omega) | (dsimp only at hk; omega))
      replace O9 := O9.mod m14 (by intro k hk h; first | omega | (dsimp only at hk h; omega) | (dsimp only at hk; omega))
      replace hA9 := hA9.mod m14 (by intro k hk h; first | omega | (dsimp only at hk h; omega) | (dsimp only at hk; omega))
      replace hB9 := hB9.mod m14 (by intro k hk h; first | omega | (dsimp only at hk h; omega) | (dsimp only at hk; omega))
      replace O12 := O12.mod m14 (by intro k hk h; first | omega | (dsimp only at hk h; omega) | (dsimp only at hk; omega))
      replace hA12 := hA12.mod m14 (by intro k hk h; first | omega | (dsimp only at hk h; omega) | (dsimp only at hk; omega))
      replace hB12 := hB12.mod m14 (by intro k hk h; first | omega | (dsimp only at hk h; omega) | (dsimp only at hk; omega))
      replace B1 := B1.mod m14 (by intro h; first | omega | (dsimp only at h; omega))
      replace B2 := B2.mod m14 (by intro h; first | omega | (dsimp only at h; omega))
      replace B10 := B10.mod m14 (by intro h; first | omega | (dsimp only at h; omega))
      have zm14 := m14.size
      refine S_nil (L' := (_ :: _ :: _ :: _ :: _ :: _ :: _ :: _ :: _ :: _ :: _ :: _ :: _ :: _ :: _ :: _ :: _ :: _ :: _ :: _ :: _ :: _ :: _ :: _ :: _ :: _ :: _ :: _ :: _ :: _ :: _ :: _ :: _ :: _ :: _ :: _ :: _ :: _ :: _ :: _ :: _ :: _ :: _ :: _ :: _ :: [])) rfl rfl ?_
      refine th_n ?_
      refine hK13 _ _ ?_
      clear hK13 K13
      refine wp_seq_k fun K14 hK14 => ?_
      refine wp_region_lit ?_  -- region 11 exact.go:5006
      refine S_beg 45 rfl ?_
      refine S_val (Y_loadS Try.underlying30 rfl sz30 rfl (by first | assumption | exact B1.row (by rfl) | exact B2.row (by rfl) | exact B10.row (by rfl) | exact B13.row (by rfl))) ?_  -- l7
      refine S_val (Y_loadS Try.underlying30 rfl sz30 rfl (by first | assumption | exact B1.row (by rfl) | exact B2.row (by rfl) | exact B10.row (by rfl) | exact B13.row (by rfl))) ?_  -- l8
      refine S_call rfl en48 (impl_SameView_c _ _ _ _ _ _ _ _ _ _ _ _ _ (by assumption) (by assumption) (by assumption) (by assumption) (by omega) (by omega)) ?_  -- k8 impl.SameView
      rintro v15 w15 ⟨rfl, g15⟩
      replace hAx := hAx.grow g15
      replace hBx := hBx.grow g15
      replace hAy := hAy.grow g15
      replace hBy := hBy.grow g15
      replace O6 := O6.grow g15
      replace hA6 := hA6.grow g15
      replace hB6 := hB6.grow g15
      replace O7 := O7.grow g15
      replace hA7 := hA7.grow g15
      replace hB7 := hB7.grow g15
      replace O9 := O9.grow g15
      replace hA9 := hA9.grow g15
      replace hB9 := hB9.grow g15
      replace O12 := O12.grow g15
      replace hA12 := hA12.grow g15
      replace hB12 := hB12.grow g15
      replace G := G.grow g15
      replace B1 := B1.grow g15
      replace B2 := B2.grow g15
      replace B10 := B10.grow g15
      replace B13 := B13.grow g15
      have zg15 := g15.size
      refine S_val (Y_assign rfl) ?_
      refine S_nil (L' := (_ :: _ :: _ :: _ :: _ :: _ :: _ :: _ :: _ :: _ :: _ :: _ :: _ :: _ :: _ :: _ :: _ :: _ :: _ :: _ :: _ :: _ :: _ :: _ :: _ :: _ :: _ :: _ :: _ :: _ :: _ :: _ :: _ :: _ :: _ :: _ :: _ :: _ :: _ :: _ :: _ :: _ :: _ :: _ :: _ :: [])) rfl rfl ?_
      refine th_n ?_
      refine hK14 _ _ ?_
      clear hK14 K14
      refine wp_seq_k fun K15 hK15 => ?_
      refine wp_seq_k fun K16 hK16 => ?_
      refine wp_region_lit ?_  -- region 12 exact.go:5007
      refine S_beg 45 rfl ?_
      refine S_val (Y_move rfl) ?_
      refine S_val (Y_move rfl) ?_
      refine S_val (Y_neb Try.underlying4 rfl rfl) ?_
      refine S_nil (L' := (_ :: _ :: _ :: _ :: _ :: _ :: _ :: _ :: _ :: _ :: _ :: _ :: _ :: _ :: _ :: _ :: _ :: _ :: _ :: _ :: _ :: _ :: _ :: _ :: _ :: _ :: _ :: _ :: _ :: _ :: _ :: _ :: _ :: _ :: _ :: _ :: _ :: _ :: _ :: _ :: _ :: _ :: _ :: _ :: _ :: [])) rfl rfl ?_
      refine th_n ?_
      refine hK16 _ _ ?_
      clear hK16 K16
      refine S_if rfl (fun hb3 => ?_) (fun hb3 => ?_)  -- c3
      · -- c3T
        first | with_reducible (replace hb3 := nb_nt hb3) | with_reducible (replace hb3 := nb_nf hb3) | with_reducible (replace hb3 := nb_tt hb3) | with_reducible (replace hb3 := nb_tf hb3) | with_reducible (replace hb3 := nb_bt hb3) | with_reducible (replace hb3 := nb_bf hb3) | skip
        exact absurd rfl hb3
      · -- c3F
        first | with_reducible (replace hb3 := nb_nt hb3) | with_reducible (replace hb3 := nb_nf hb3) | with_reducible (replace hb3 := nb_tt hb3) | with_reducible (replace hb3 := nb_tf hb3) | with_reducible (replace hb3 := nb_bt hb3) | with_reducible (replace hb3 := nb_bf hb3) | skip
        refine wp_skip ?_
        refine th_n ?_
        refine hK15 _ _ ?_
        clear hK15 K15
        refine wp_seq_k fun K17 hK17 => ?_
        refine wp_seq_k fun K18 hK18 => ?_
        refine D_start 5 45 (fun w => Mod (No) w) follows rfl rfl ?_  -- d2 region 14 exact.go:5010
        intro w16 g16
        replace hAx := hAx.grow g16
        replace hBx := hBx.grow g16
        replace hAy := hAy.grow g16
        replace hBy := hBy.grow g16
        replace O6 := O6.grow g16
        replace hA6 := hA6.grow g16
        replace hB6 := hB6.grow g16
        replace O7 := O7.grow g16
        replace hA7 := hA7.grow g16
        replace hB7 := hB7.grow g16
        replace O9 := O9.grow g16
        replace hA9 := hA9.grow g16
        replace hB9 := hB9.grow g16
        replace O12 := O12.grow g16
        replace hA12 := hA12.grow g16
        replace hB12 := hB12.grow g16
        replace G := G.grow g16
        replace B1 := B1.grow g16
        replace B2 := B2.grow g16
        replace B10 := B10.grow g16
        replace B13 := B13.grow g16
        have zg16 := g16.size
        have GS16 := Mod.refl (No) w16
        have B1d16 := B1
        have B2d16 := B2
        have B10d16 := B10
        have B13d16 := B13
        refine D_q (i := 0) rfl (by kernel_rfl) (fun _ _ _ h => h) GS16 (fun _ hs => Y_loadS Try.underlying30 rfl sz30 rfl (by first | exact hs.cells0 (by assumption) | exact hs.cells0 (B1.row (by rfl)) | exact hs.cells0 (B2.row (by rfl)) | exact hs.cells0 (B10.row (by rfl)) | exact hs.cells0 (B13.row (by rfl)) | exact hs.cells0 (B1d16.row (by rfl)) | exact hs.cells0 (B2d16.row (by rfl)) | exact hs.cells0 (B10d16.row (by rfl)) | exact hs.cells0 (B13d16.row (by rfl)))) ?_
        refine D_q (i := 1) rfl (by kernel_rfl) (fun _ _ _ h => h) GS16 (fun _ hs => Y_loadS Try.underlying25 rfl sz25 rfl (by first | exact hs.cells0 (by assumption) | exact hs.cells0 (B1.row (by rfl)) | exact hs.cells0 (B2.row (by rfl)) | exact hs.cells0 (B10.row (by rfl)) | exact hs.cells0 (B13.row (by rfl)) | exact hs.cells0 (B1d16.row (by rfl)) | exact hs.cells0 (B2d16.row (by rfl)) | exact hs.cells0 (B10d16.row (by rfl)) | exact hs.cells0 (B13d16.row (by rfl)))) ?_
        refine D_1 (i := 2) (by kernel_rfl) ?_
        refine E_call rfl rfl en17 (laws_toHeap_c _ _ _ _ _ _ _ (by assumption) (by assumption) (by omega)) ?_  -- k9 laws.toHeap
        rintro v17 w17 ⟨a17, b17, rs17, rfl, O17, g17⟩
        replace hAx := hAx.grow g17
        replace hBx := hBx.grow g17
        replace hAy := hAy.grow g17
        replace hBy := hBy.grow g17
        replace O6 := O6.grow g17
        replace hA6 := hA6.grow g17
        replace hB6 := hB6.grow g17
        replace O7 := O7.grow g17
        replace hA7 := hA7.grow g17
        replace hB7 := hB7.grow g17
        replace O9 := O9.grow g17
        replace hA9 := hA9.grow g17
        replace hB9 := hB9.grow g17
        replace O12 := O12.grow g17
        replace hA12 := hA12.grow g17
        replace hB12 := hB12.grow g17
        replace G := G.grow g17
        replace GS16 := GS16.grow g17
        replace B1 := B1.grow g17
        replace B2 := B2.grow g17
        replace B10 := B10.grow g17
        replace B13 := B13.grow g17
        have zg17 := g17.size
        replace O17 := O17.lt
        have hA17 := O17.rc
        have hB17 := O17.r1
        refine ⟨GS16, ?_⟩
        refine D_1 (i := 3) (by kernel_rfl) ?_
        refine E_call rfl rfl en20 (laws_eqHeap_c _ _ _ _ _ _ _ _ _ _ _ _ _ (by assumption) (by assumption) (by assumption) (by assumption) (by omega)) ?_  -- k10 laws.eqHeap
        rintro v18 w18 ⟨rfl, g18⟩
        replace hAx := hAx.grow g18
        replace hBx := hBx.grow g18
        replace hAy := hAy.grow g18
        replace hBy := hBy.grow g18
        replace O6 := O6.grow g18
        replace hA6 := hA6.grow g18
        replace hB6 := hB6.grow g18
        replace O7 := O7.grow g18
        replace hA7 := hA7.grow g18
        replace hB7 := hB7.grow g18
        replace O9 := O9.grow g18
        replace hA9 := hA9.grow g18
        replace hB9 := hB9.grow g18
        replace O12 := O12.grow g18
        replace hA12 := hA12.grow g18
        replace hB12 := hB12.grow g18
        replace O17 := O17.grow g18
        replace hA17 := hA17.grow g18
        replace hB17 := hB17.grow g18
        replace G := G.grow g18
        replace GS16 := GS16.grow g18
        replace B1 := B1.grow g18
        replace B2 := B2.grow g18
        replace B10 := B10.grow g18
        replace B13 := B13.grow g18
        have zg18 := g18.size
        refine ⟨GS16, ?_⟩
        refine D_q (i := 4) rfl (by kernel_rfl) (fun _ _ _ h => h) GS16 (fun _ _ => Y_not rfl) ?_
        refine D_end (L' := (_ :: _ :: _ :: _ :: _ :: _ :: _ :: _ :: _ :: _ :: _ :: _ :: _ :: _ :: _ :: _ :: _ :: _ :: _ :: _ :: _ :: _ :: _ :: _ :: _ :: _ :: _ :: _ :: _ :: _ :: _ :: _ :: _ :: _ :: _ :: _ :: _ :: _ :: _ :: _ :: _ :: _ :: _ :: _ :: _ :: [])) (by kernel_rfl) rfl rfl ?_
        refine th_n ?_
        refine hK18 _ _ ?_
        clear hK18 K18
        refine S_if rfl (fun hb4 => ?_) (fun hb4 => ?_)  -- c4
        · -- c4T
          first | with_reducible (replace hb4 := nb_nt hb4) | with_reducible (replace hb4 := nb_nf hb4) | with_reducible (replace hb4 := nb_tt hb4) | with_reducible (replace hb4 := nb_tf hb4) | with_reducible (replace hb4 := nb_bt hb4) | with_reducible (replace hb4 := nb_bf hb4) | skip
          exact absurd rfl hb4
        · -- c4F
          first | with_reducible (replace hb4 := nb_nt hb4) | with_reducible (replace hb4 := nb_nf hb4) | with_reducible (replace hb4 := nb_tt hb4) | with_reducible (replace hb4 := nb_tf hb4) | with_reducible (replace hb4 := nb_bt hb4) | with_reducible (replace hb4 := nb_bf hb4) | skip
          refine wp_skip ?_
          refine th_n ?_
          refine hK17 _ _ ?_
          clear hK17 K17
          refine wp_seq_k fun K19 hK19 => ?_
          refine wp_seq_k fun K20 hK20 => ?_
          refine D_start 5 45 (fun w => Mod (No) w) follows rfl rfl ?_  -- d3 region 16 exact.go:5013
          intro w19 g19
          replace hAx := hAx.grow g19
          replace hBx := hBx.grow g19
          replace hAy := hAy.grow g19
          replace hBy := hBy.grow g19
          replace O6 := O6.grow g19
          replace hA6 := hA6.grow g19
          replace hB6 := hB6.grow g19
          replace O7 := O7.grow g19
          replace hA7 := hA7.grow g19
          replace hB7 := hB7.grow g19
          replace O9 := O9.grow g19
          replace hA9 := hA9.grow g19
          replace hB9 := hB9.grow g19
          replace O12 := O12.grow g19
          replace hA12 := hA12.grow g19
          replace hB12 := hB12.grow g19
          replace O17 := O17.grow g19
          replace hA17 := hA17.grow g19
          replace hB17 := hB17.grow g19
          replace G := G.grow g19
          replace B1 := B1.grow g19
          replace B2 := B2.grow g19
          replace B10 := B10.grow g19
          replace B13 := B13.grow g19
          have zg19 := g19.size
          have GS19 := Mod.refl (No) w19
          have B1d19 := B1
          have B2d19 := B2
          have B10d19 := B10
          have B13d19 := B13
          refine D_q (i := 0) rfl (by kernel_rfl) (fun _ _ _ h => h) GS19 (fun _ hs => Y_loadS Try.underlying30 rfl sz30 rfl (by first | exact hs.cells0 (by assumption) | exact hs.cells0 (B1.row (by rfl)) | exact hs.cells0 (B2.row (by rfl)) | exact hs.cells0 (B10.row (by rfl)) | exact hs.cells0 (B13.row (by rfl)) | exact hs.cells0 (B1d19.row (by rfl)) | exact hs.cells0 (B2d19.row (by rfl)) | exact hs.cells0 (B10d19.row (by rfl)) | exact hs.cells0 (B13d19.row (by rfl)))) ?_
          refine D_q (i := 1) rfl (by kernel_rfl) (fun _ _ _ h => h) GS19 (fun _ hs => Y_loadS Try.underlying25 rfl sz25 rfl (by first | exact hs.cells0 (by assumption) | exact hs.cells0 (B1.row (by rfl)) | exact hs.cells0 (B2.row (by rfl)) | exact hs.cells0 (B10.row (by rfl)) | exact hs.cells0 (B13.row (by rfl)) | exact hs.cells0 (B1d19.row (by rfl)) | exact hs.cells0 (B2d19.row (by rfl)) | exact hs.cells0 (B10d19.row (by rfl)) | exact hs.cells0 (B13d19.row (by rfl)))) ?_
          refine D_1 (i := 2) (by kernel_rfl) ?_
          refine E_call rfl rfl en17 (laws_toHeap_c _ _ _ _ _ _ _ (by assumption) (by assumption) (by omega)) ?_  -- k11 laws.toHeap
          rintro v20 w20 ⟨a20, b20, rs20, rfl, O20, g20⟩
          replace hAx := hAx.grow g20
          replace hBx := hBx.grow g20
          replace hAy := hAy.grow g20
          replace hBy := hBy.grow g20
          replace O6 := O6.grow g20
          replace hA6 := hA6.grow g20
          replace hB6 := hB6.grow g20
          replace O7 := O7.grow g20
          replace hA7 := hA7.grow g20
          replace hB7 := hB7.grow g20
          replace O9 := O9.grow g20
          replace hA9 := hA9.grow g20
          replace hB9 := hB9.grow g20
          replace O12 := O12.grow g20
          replace hA12 := hA12.grow g20
          replace hB12 := hB12.grow g20
          replace O17 := O17.grow g20
          replace hA17 := hA17.grow g20
          replace hB17 := hB17.grow g20
          replace G := G.grow g20
          replace GS19 := GS19.grow g20
          replace B1 := B1.grow g20
          replace B2 := B2.grow g20
          replace B10 := B10.grow g20
          replace B13 := B13.grow g20
          have zg20 := g20.size
          replace O20 := O20.lt
          have hA20 := O20.rc
          have hB20 := O20.r1
          refine ⟨GS19, ?_⟩
          refine D_1 (i := 3) (by kernel_rfl) ?_
          refine E_call rfl rfl en20 (laws_eqHeap_c _ _ _ _ _ _ _ _ _ _ _ _ _ (by assumption) (by assumption) (by assumption) (by assumption) (by omega)) ?_  -- k12 laws.eqHeap
          rintro v21 w21 ⟨rfl, g21⟩
          replace hAx := hAx.grow g21
          replace hBx := hBx.grow g21
          replace hAy := hAy.grow g21
          replace hBy := hBy.grow g21
          replace O6 := O6.grow g21
          replace hA6 := hA6.grow g21
          replace hB6 := hB6.grow g21
          replace O7 := O7.grow g21
          replace hA7 := hA7.grow g21
          replace hB7 := hB7.grow g21
          replace O9 := O9.grow g21
          replace hA9 := hA9.grow g21
          replace hB9 := hB9.grow g21
          replace O12 := O12.grow g21
          replace hA12 := hA12.grow g21
          replace hB12 := hB12.grow g21
          replace O17 := O17.grow g21
          replace hA17 := hA17.grow g21
          replace hB17 := hB17.grow g21
          replace O20 := O20.grow g21
          replace hA20 := hA20.grow g21
          replace hB20 := hB20.grow g21
          replace G := G.grow g21
          replace GS19 := GS19.grow g21
          replace B1 := B1.grow g21
          replace B2 := B2.grow g21
          replace B10 := B10.grow g21
          replace B13 := B13.grow g21
          have zg21 := g21.size
          refine ⟨GS19, ?_⟩
          refine D_q (i := 4) rfl (by kernel_rfl) (fun _ _ _ h => h) GS19 (fun _ _ => Y_not rfl) ?_
          refine D_end (L' := (_ :: _ :: _ :: _ :: _ :: _ :: _ :: _ :: _ :: _ :: _ :: _ :: _ :: _ :: _ :: _ :: _ :: _ :: _ :: _ :: _ :: _ :: _ :: _ :: _ :: _ :: _ :: _ :: _ :: _ :: _ :: _ :: _ :: _ :: _ :: _ :: _ :: _ :: _ :: _ :: _ :: _ :: _ :: _ :: _ :: [])) (by kernel_rfl) rfl rfl ?_
          refine th_n ?_
          refine hK20 _ _ ?_
          clear hK20 K20
          refine S_if rfl (fun hb5 => ?_) (fun hb5 => ?_)  -- c5
          · -- c5T
            first | with_reducible (replace hb5 := nb_nt hb5) | with_reducible (replace hb5 := nb_nf hb5) | with_reducible (replace hb5 := nb_tt hb5) | with_reducible (replace hb5 := nb_tf hb5) | with_reducible (replace hb5 := nb_bt hb5) | with_reducible (replace hb5 := nb_bf hb5) | skip
            exact absurd rfl hb5
          · -- c5F
            first | with_reducible (replace hb5 := nb_nt hb5) | with_reducible (replace hb5 := nb_nf hb5) | with_reducible (replace hb5 := nb_tt hb5) | with_reducible (replace hb5 := nb_tf hb5) | with_reducible (replace hb5 := nb_bt hb5) | with_reducible (replace hb5 := nb_bf hb5) | skip
            refine wp_skip ?_
            refine th_n ?_
            refine hK19 _ _ ?_
            clear hK19 K19
            refine wp_seq_k fun K21 hK21 => ?_
            refine wp_region_lit ?_  -- region 18 exact.go:5016
            refine S_beg 45 rfl ?_
            refine S_val (Y_assign rfl) ?_
            refine S_nil (L' := (_ :: _ :: _ :: _ :: _ :: _ :: _ :: _ :: _ :: _ :: _ :: _ :: _ :: _ :: _ :: _ :: _ :: _ :: _ :: _ :: _ :: _ :: _ :: _ :: _ :: _ :: _ :: _ :: _ :: _ :: _ :: _ :: _ :: _ :: _ :: _ :: _ :: _ :: _ :: _ :: _ :: _ :: _ :: _ :: _ :: [])) rfl rfl ?_
            refine th_n ?_
            refine hK21 _ _ ?_
            clear hK21 K21
            refine wp_ret ?_
            refine ret_r1 rfl rfl ?_  -- r3
            exact ⟨rfl, G⟩

end Go.Proofs.Ytdfifnplgbceaaa
