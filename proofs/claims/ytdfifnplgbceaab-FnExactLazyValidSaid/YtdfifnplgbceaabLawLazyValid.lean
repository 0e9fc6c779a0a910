/-
  The law FnExactLazyValid returns true.
  Conditions: those that each theorem states.
-/
import Derived.Test.YtdfifnplgbceaabTy
import Derived.Test.YtdfifnplgbceaabWalkL
namespace Go.Proofs.Ytdfifnplgbceaab
open Go Go.RowKit
attribute [local irreducible] wpList wpAnyH Code.wp dOp

set_option maxHeartbeats 400000 in
set_option maxRecDepth 20000 in
theorem laws_FnExactLazyValid_c (Pr : Nat → Prop) (A B C : Option Addr) (h : LH) (ms : List Bool) (x : Int) (c d e : Nat) (w : World) (hA : RC Pr w A h.cells) (hB : R1 Pr w B (ints h.roots)) (hC : R1 Pr w C (bools ms)) (hn : h.cells.length ≤ 9223372036854775807) (hN : ∀ x ∈ h.cells, x.refs.length ≤ 9223372036854775807) (hm : h.roots.length ≤ 9223372036854775807) (hk : ms.length ≤ 9223372036854775807) (hx : -9223372036854775808 ≤ x ∧ x ≤ 9223372036854775807) :
    Calls Try.prog 3 #[.agg #[.slice A h.cells.length c, .slice B h.roots.length d, .slice C ms.length e, .int .i64 x]] w (Ret fun v w' => v = .bool true ∧ Grow w w') := by
  refine enter Try.func3 rfl Try.ntmps3 (L := (_ :: _ :: _ :: _ :: _ :: _ :: _ :: _ :: _ :: _ :: _ :: _ :: _ :: _ :: _ :: _ :: _ :: _ :: _ :: _ :: _ :: _ :: _ :: _ :: _ :: _ :: _ :: [])) rfl ?_
  have G := Mod.refl No w
  have hA0 := hA
  have hB0 := hB
  have hC0 := hC
  refine wp_seq_k fun K1 hK1 => ?_
  refine wp_region_lit ?_  -- region 0 exact.go:1764
  refine S_beg 27 rfl ?_
  refine S_box (cs := [_, _, _, _]) rfl rfl ?_
  intro b1 w1 fb1 g1 B1
  have lb1 := B1.lt
  replace hA := hA.grow g1
  replace hB := hB.grow g1
  replace hC := hC.grow g1
  replace G := G.grow g1
  have zg1 := g1.size
  refine S_val (Y_assign rfl) ?_
  refine S_nil (L' := (_ :: _ :: _ :: _ :: _ :: _ :: _ :: _ :: _ :: _ :: _ :: _ :: _ :: _ :: _ :: _ :: _ :: _ :: _ :: _ :: _ :: _ :: _ :: _ :: _ :: _ :: _ :: [])) rfl rfl ?_
  refine th_n ?_
  refine hK1 _ _ ?_
  clear hK1 K1
  refine wp_seq_k fun K2 hK2 => ?_
  refine wp_region_lit ?_  -- region 1 exact.go:1765
  refine S_beg 27 rfl ?_
  refine S_val (Y_assign rfl) ?_
  refine S_nil (L' := (_ :: _ :: _ :: _ :: _ :: _ :: _ :: _ :: _ :: _ :: _ :: _ :: _ :: _ :: _ :: _ :: _ :: _ :: _ :: _ :: _ :: _ :: _ :: _ :: _ :: _ :: _ :: [])) rfl rfl ?_
  refine th_n ?_
  refine hK2 _ _ ?_
  clear hK2 K2
  refine wp_seq_k fun K3 hK3 => ?_
  refine wp_region_lit ?_  -- region 2 exact.go:1766
  refine S_beg 27 rfl ?_
  refine S_val (Y_loadS Try.underlying28 rfl sz28 rfl (by first | assumption | exact B1.row (by rfl))) ?_  -- l1
  refine S_val (Y_move rfl) ?_
  refine S_call rfl en14 (laws_szLazy_c _ _ _ _ _ _ _ _ _ _ _ _ (by assumption) (by omega) (by assumption) (by omega) (by omega) (by omega) (by omega)) ?_  -- k1 laws.szLazy
  rintro v2 w2 ⟨r2, rfl, hr2, g2⟩
  replace hA := hA.grow g2
  replace hB := hB.grow g2
  replace hC := hC.grow g2
  replace G := G.grow g2
  replace B1 := B1.grow g2
  have zg2 := g2.size
  refine S_val (Y_assign rfl) ?_
  refine S_nil (L' := (_ :: _ :: _ :: _ :: _ :: _ :: _ :: _ :: _ :: _ :: _ :: _ :: _ :: _ :: _ :: _ :: _ :: _ :: _ :: _ :: _ :: _ :: _ :: _ :: _ :: _ :: _ :: [])) rfl rfl ?_
  refine th_n ?_
  refine hK3 _ _ ?_
  clear hK3 K3
  refine wp_seq_k fun K4 hK4 => ?_
  refine wp_seq_k fun K5 hK5 => ?_
  refine wp_region_lit ?_  -- region 3 exact.go:1767
  refine S_beg 27 rfl ?_
  refine S_val (Y_move rfl) ?_
  refine S_val (Y_lss rfl rfl) ?_
  refine S_nil (L' := (_ :: _ :: _ :: _ :: _ :: _ :: _ :: _ :: _ :: _ :: _ :: _ :: _ :: _ :: _ :: _ :: _ :: _ :: _ :: _ :: _ :: _ :: _ :: _ :: _ :: _ :: _ :: [])) rfl rfl ?_
  refine th_n ?_
  refine hK5 _ _ ?_
  clear hK5 K5
  refine S_if rfl (fun hb1 => ?_) (fun hb1 => ?_)  -- c1
  · -- c1T
    first | with_reducible (replace hb1 := nb_nt hb1) | with_reducible (replace hb1 := nb_nf hb1) | with_reducible (replace hb1 := nb_tt hb1) | with_reducible (replace hb1 := nb_tf hb1) | with_reducible (replace hb1 := nb_bt hb1) | with_reducible (replace hb1 := nb_bf hb1) | skip
    refine wp_seq_k fun K6 hK6 => ?_
    refine wp_region_lit ?_  -- region 4 exact.go:1768
    refine S_beg 27 rfl ?_
    refine S_val (Y_assign rfl) ?_
    refine S_nil (L' := (_ :: _ :: _ :: _ :: _ :: _ :: _ :: _ :: _ :: _ :: _ :: _ :: _ :: _ :: _ :: _ :: _ :: _ :: _ :: _ :: _ :: _ :: _ :: _ :: _ :: _ :: _ :: [])) rfl rfl ?_
    refine th_n ?_
    refine hK6 _ _ ?_
    clear hK6 K6
    refine wp_ret ?_
    refine th_r ?_
    clear hK4 K4
    refine ret_r1 rfl rfl ?_  -- r1
    exact ⟨rfl, G⟩
  · -- c1F
    first | with_reducible (replace hb1 := nb_nt hb1) | with_reducible (replace hb1 := nb_nf hb1) | with_reducible (replace hb1 := nb_tt hb1) | with_reducible (replace hb1 := nb_tf hb1) | with_reducible (replace hb1 := nb_bt hb1) | with_reducible (replace hb1 := nb_bf hb1) | skip
    have hz : hsize h ≤ 1048576 := by omega
    have hxz : ms.length ≤ 1048576 := by omega
    refine wp_skip ?_
    refine th_n ?_
    refine hK4 _ _ ?_
    clear hK4 K4
    refine wp_seq_k fun K7 hK7 => ?_
    refine wp_region_lit ?_  -- region 5 exact.go:1770
    refine S_beg 27 rfl ?_
    refine S_val (Y_loadS Try.underlying28 rfl sz28 rfl (by first | assumption | exact B1.row (by rfl))) ?_  -- l2
    refine S_call rfl en16 (laws_toLazy_c _ _ _ _ _ _ _ _ _ _ _ (by assumption) (by assumption) (by assumption) (by omega) (by omega) (by omega)) ?_  -- k2 laws.toLazy
    rintro v3 w3 ⟨a3, b3, f3, rs3, rfl, O3, ff3, B3, g3⟩
    replace hA := hA.grow g3
    replace hB := hB.grow g3
    replace hC := hC.grow g3
    replace G := G.grow g3
    replace B1 := B1.grow g3
    have zg3 := g3.size
    have hA3 := O3.rc.below
    have hB3 := O3.r1.below
    have hC3 := (R1.of_blkE B3).below
    refine S_call rfl en15 (spec_LazyValid_c _ _ _ _ _ _ _ _ _ _ _ (by assumption) (by assumption) (by assumption) (by omega) (by omega) (by omega)) ?_  -- k3 spec.LazyValid
    rintro v4 w4 ⟨rfl, g4⟩
    replace hA := hA.grow g4
    replace hB := hB.grow g4
    replace hC := hC.grow g4
    replace hA3 := hA3.grow g4
    replace hB3 := hB3.grow g4
    replace hC3 := hC3.grow g4
    replace G := G.grow g4
    replace B1 := B1.grow g4
    have zg4 := g4.size
    refine S_val (Y_assign rfl) ?_
    refine S_nil (L' := (_ :: _ :: _ :: _ :: _ :: _ :: _ :: _ :: _ :: _ :: _ :: _ :: _ :: _ :: _ :: _ :: _ :: _ :: _ :: _ :: _ :: _ :: _ :: _ :: _ :: _ :: _ :: [])) rfl rfl ?_
    refine th_n ?_
    refine hK7 _ _ ?_
    clear hK7 K7
    refine wp_seq_k fun K8 hK8 => ?_
    refine wp_region_lit ?_  -- region 6 exact.go:1771
    refine S_beg 27 rfl ?_
    refine S_val (Y_loadS Try.underlying28 rfl sz28 rfl (by first | assumption | exact B1.row (by rfl))) ?_  -- l3
    refine S_call rfl en16 (laws_toLazy_c _ _ _ _ _ _ _ _ _ _ _ (by assumption) (by assumption) (by assumption) (by omega) (by omega) (by omega)) ?_  -- k4 laws.toLazy
    rintro v5 w5 ⟨a5, b5, f5, rs5, rfl, O5, ff5, B5, g5⟩
    replace hA := hA.grow g5
    replace hB := hB.grow g5
    replace hC := hC.grow g5
    replace hA3 := hA3.grow g5
    replace hB3 := hB3.grow g5
    replace hC3 := hC3.grow g5
    replace G := G.grow g5
    replace B1 := B1.grow g5
    have zg5 := g5.size
    have hA5 := O5.rc.below
    have hB5 := O5.r1.below
    have hC5 := (R1.of_blkE B5).below
    refine S_alloc (cs := [_, _, _, _]) zr35 rfl ?_
    intro b6 w6 fb6 g6 B6
    have lb6 := B6.lt
    replace hA := hA.grow g6
    replace hB := hB.grow g6
    replace hC := hC.grow g6
    replace hA3 := hA3.grow g6
    replace hB3 := hB3.grow g6
    replace hC3 := hC3.grow g6
    replace hA5 := hA5.grow g6
    replace hB5 := hB5.grow g6
    replace hC5 := hC5.grow g6
    replace G := G.grow g6
    replace B1 := B1.grow g6
    have zg6 := g6.size
    refine S_stM (pre := []) (old := [_, _, _, _]) (post := []) (vs := [_, _, _, _]) sz35 rfl rfl rfl (by first | rfl | assumption) B6 rfl rfl ?_
    intro w7 m7 X7
    replace B6 := Blk.eq (ys := [_, _, _, _]) X7 rfl
    clear X7
    replace G := G.above m7 (by intro i h; first | omega | (dsimp only at h; omega))
    replace hA := hA0.grow G
    replace hB := hB0.grow G
    replace hC := hC0.grow G
    replace hA3 := hA3.mod m7 (by intro k hk h; first | omega | (dsimp only at hk h; omega) | (dsimp only at hk; omega))
    replace hB3 := hB3.mod m7 (by intro k hk h; first | omega | (dsimp only at hk h; omega) | (dsimp only at hk; omega))
    replace hC3 := hC3.mod m7 (by intro k hk h; first | omega | (dsimp only at hk h; omega) | (dsimp only at hk; omega))
    replace hA5 := hA5.mod m7 (by intro k hk h; first | omega | (dsimp only at hk h; omega) | (dsimp only at hk; omega))
    replace hB5 := hB5.mod m7 (by intro k hk h; first | omega | (dsimp only at hk h; omega) | (dsimp only at hk; omega))
    replace hC5 := hC5.mod m7 (by intro k hk h; first | omega | (dsimp only at hk h; omega) | (dsimp only at hk; omega))
    replace B1 := B1.mod m7 (by intro h; first | omega | (dsimp only at h; omega))
    have zm7 := m7.size
    refine S_nil (L' := (_ :: _ :: _ :: _ :: _ :: _ :: _ :: _ :: _ :: _ :: _ :: _ :: _ :: _ :: _ :: _ :: _ :: _ :: _ :: _ :: _ :: _ :: _ :: _ :: _ :: _ :: _ :: [])) rfl rfl ?_
    refine th_n ?_
    refine hK8 _ _ ?_
    clear hK8 K8
    refine wp_seq_k fun K9 hK9 => ?_
    refine wp_region_lit ?_  -- region 7 exact.go:1772
    refine S_beg 27 rfl ?_
    refine S_val (Y_loadS Try.underlying35 rfl sz35 rfl (by first | assumption | exact B1.row (by rfl) | exact B6.row (by rfl))) ?_  -- l4
    refine S_call rfl en17 (impl_LazyValid_c _ _ _ _ _ _ _ _ _ _ _ (by assumption) (by assumption) (by assumption) (by omega) (by omega) (by omega)) ?_  -- k5 impl.LazyValid
    rintro v8 w8 ⟨rfl, g8⟩
    replace hA := hA.grow g8
    replace hB := hB.grow g8
    replace hC := hC.grow g8
    replace hA3 := hA3.grow g8
    replace hB3 := hB3.grow g8
    replace hC3 := hC3.grow g8
    replace hA5 := hA5.grow g8
    replace hB5 := hB5.grow g8
    replace hC5 := hC5.grow g8
    replace G := G.grow g8
    replace B1 := B1.grow g8
    replace B6 := B6.grow g8
    have zg8 := g8.size
    refine S_val (Y_assign rfl) ?_
    refine S_nil (L' := (_ :: _ :: _ :: _ :: _ :: _ :: _ :: _ :: _ :: _ :: _ :: _ :: _ :: _ :: _ :: _ :: _ :: _ :: _ :: _ :: _ :: _ :: _ :: _ :: _ :: _ :: _ :: [])) rfl rfl ?_
    refine th_n ?_
    refine hK9 _ _ ?_
    clear hK9 K9
    refine wp_seq_k fun K10 hK10 => ?_
    refine wp_seq_k fun K11 hK11 => ?_
    refine wp_region_lit ?_  -- region 8 exact.go:1773
    refine S_beg 27 rfl ?_
    refine S_val (Y_move rfl) ?_
    refine S_val (Y_move rfl) ?_
    refine S_val (Y_neb Try.underlying4 rfl rfl) ?_
    refine S_nil (L' := (_ :: _ :: _ :: _ :: _ :: _ :: _ :: _ :: _ :: _ :: _ :: _ :: _ :: _ :: _ :: _ :: _ :: _ :: _ :: _ :: _ :: _ :: _ :: _ :: _ :: _ :: _ :: [])) rfl rfl ?_
    refine th_n ?_
    refine hK11 _ _ ?_
    clear hK11 K11
    refine S_if rfl (fun hb2 => ?_) (fun hb2 => ?_)  -- c2
    · -- c2T
      first | with_reducible (replace hb2 := nb_nt hb2) | with_reducible (replace hb2 := nb_nf hb2) | with_reducible (replace hb2 := nb_tt hb2) | with_reducible (replace hb2 := nb_tf hb2) | with_reducible (replace hb2 := nb_bt hb2) | with_reducible (replace hb2 := nb_bf hb2) | skip
      exact absurd rfl hb2
    · -- c2F
      first | with_reducible (replace hb2 := nb_nt hb2) | with_reducible (replace hb2 := nb_nf hb2) | with_reducible (replace hb2 := nb_tt hb2) | with_reducible (replace hb2 := nb_tf hb2) | with_reducible (replace hb2 := nb_bt hb2) | with_reducible (replace hb2 := nb_bf hb2) | skip
      refine wp_skip ?_
      refine th_n ?_
      refine hK10 _ _ ?_
      clear hK10 K10
      refine wp_seq_k fun K12 hK12 => ?_
      refine wp_seq_k fun K13 hK13 => ?_
      refine D_start 5 27 (fun w => Mod (No) w) follows rfl rfl ?_  -- d1 region 10 exact.go:1776
      intro w9 g9
      replace hA := hA.grow g9
      replace hB := hB.grow g9
      replace hC := hC.grow g9
      replace hA3 := hA3.grow g9
      replace hB3 := hB3.grow g9
      replace hC3 := hC3.grow g9
      replace hA5 := hA5.grow g9
      replace hB5 := hB5.grow g9
      replace hC5 := hC5.grow g9
      replace G := G.grow g9
      replace B1 := B1.grow g9
      replace B6 := B6.grow g9
      have zg9 := g9.size
      have GS9 := Mod.refl (No) w9
      have B1d9 := B1
      have B6d9 := B6
      refine D_q (i := 0) rfl (by kernel_rfl) (fun _ _ _ h => h) GS9 (fun _ hs => Y_loadS Try.underlying35 rfl sz35 rfl (by first | exact hs.cells0 (by assumption) | exact hs.cells0 (B1.row (by rfl)) | exact hs.cells0 (B6.row (by rfl)) | exact hs.cells0 (B1d9.row (by rfl)) | exact hs.cells0 (B6d9.row (by rfl)))) ?_
      refine D_q (i := 1) rfl (by kernel_rfl) (fun _ _ _ h => h) GS9 (fun _ hs => Y_loadS Try.underlying28 rfl sz28 rfl (by first | exact hs.cells0 (by assumption) | exact hs.cells0 (B1.row (by rfl)) | exact hs.cells0 (B6.row (by rfl)) | exact hs.cells0 (B1d9.row (by rfl)) | exact hs.cells0 (B6d9.row (by rfl)))) ?_
      refine D_1 (i := 2) (by kernel_rfl) ?_
      refine E_call rfl rfl en16 (laws_toLazy_c _ _ _ _ _ _ _ _ _ _ _ (by assumption) (by assumption) (by assumption) (by omega) (by omega) (by omega)) ?_  -- k6 laws.toLazy
      rintro v10 w10 ⟨a10, b10, f10, rs10, rfl, O10, ff10, B10, g10⟩
      replace hA := hA.grow g10
      replace hB := hB.grow g10
      replace hC := hC.grow g10
      replace hA3 := hA3.grow g10
      replace hB3 := hB3.grow g10
      replace hC3 := hC3.grow g10
      replace hA5 := hA5.grow g10
      replace hB5 := hB5.grow g10
      replace hC5 := hC5.grow g10
      replace G := G.grow g10
      replace GS9 := GS9.grow g10
      replace B1 := B1.grow g10
      replace B6 := B6.grow g10
      have zg10 := g10.size
      have hA10 := O10.rc.below
      have hB10 := O10.r1.below
      have hC10 := (R1.of_blkE B10).below
      refine ⟨GS9, ?_⟩
      refine D_1 (i := 3) (by kernel_rfl) ?_
      refine E_call rfl rfl en18 (laws_eqLazy_c _ _ _ _ _ _ _ _ _ _ _ _ _ _ _ _ _ _ _ _ _ (by assumption) (by assumption) (by assumption) (by assumption) (by assumption) (by assumption) (by omega) (by omega)) ?_  -- k7 laws.eqLazy
      rintro v11 w11 ⟨rfl, g11⟩
      replace hA := hA.grow g11
      replace hB := hB.grow g11
      replace hC := hC.grow g11
      replace hA3 := hA3.grow g11
      replace hB3 := hB3.grow g11
      replace hC3 := hC3.grow g11
      replace hA5 := hA5.grow g11
      replace hB5 := hB5.grow g11
      replace hC5 := hC5.grow g11
      replace hA10 := hA10.grow g11
      replace hB10 := hB10.grow g11
      replace hC10 := hC10.grow g11
      replace G := G.grow g11
      replace GS9 := GS9.grow g11
      replace B1 := B1.grow g11
      replace B6 := B6.grow g11
      have zg11 := g11.size
      refine ⟨GS9, ?_⟩
      refine D_q (i := 4) rfl (by kernel_rfl) (fun _ _ _ h => h) GS9 (fun _ _ => Y_not rfl) ?_
      refine D_end (L' := (_ :: _ :: _ :: _ :: _ :: _ :: _ :: _ :: _ :: _ :: _ :: _ :: _ :: _ :: _ :: _ :: _ :: _ :: _ :: _ :: _ :: _ :: _ :: _ :: _ :: _ :: _ :: [])) (by kernel_rfl) rfl rfl ?_
      refine th_n ?_
      refine hK13 _ _ ?_
      clear hK13 K13
      refine S_if rfl (fun hb3 => ?_) (fun hb3 => ?_)  -- c3
      · -- c3T
        first | with_reducible (replace hb3 := nb_nt hb3) | with_reducible (replace hb3 := nb_nf hb3) | with_reducible (replace hb3 := nb_tt hb3) | with_reducible (replace hb3 := nb_tf hb3) | with_reducible (replace hb3 := nb_bt hb3) | with_reducible (replace hb3 := nb_bf hb3) | skip
        simp at hb3
      · -- c3F
        first | with_reducible (replace hb3 := nb_nt hb3) | with_reducible (replace hb3 := nb_nf hb3) | with_reducible (replace hb3 := nb_tt hb3) | with_reducible (replace hb3 := nb_tf hb3) | with_reducible (replace hb3 := nb_bt hb3) | with_reducible (replace hb3 := nb_bf hb3) | skip
        refine wp_skip ?_
        refine th_n ?_
        refine hK12 _ _ ?_
        clear hK12 K12
        refine wp_seq_k fun K14 hK14 => ?_
        refine wp_region_lit ?_  -- region 12 exact.go:1779
        refine S_beg 27 rfl ?_
        refine S_val (Y_assign rfl) ?_
        refine S_nil (L' := (_ :: _ :: _ :: _ :: _ :: _ :: _ :: _ :: _ :: _ :: _ :: _ :: _ :: _ :: _ :: _ :: _ :: _ :: _ :: _ :: _ :: _ :: _ :: _ :: _ :: _ :: _ :: [])) rfl rfl ?_
        refine th_n ?_
        refine hK14 _ _ ?_
        clear hK14 K14
        refine wp_ret ?_
        refine ret_r1 rfl rfl ?_  -- r2
        exact ⟨rfl, G⟩

end Go.Proofs.Ytdfifnplgbceaab
