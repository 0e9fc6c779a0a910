/-
  The law FnExactTrialCounts returns true.
  Conditions: those that each theorem states.
-/
import Derived.Test.YtdfifnplgbceaaaTy
import Derived.Test.YtdfifnplgbceaaaWalkZ
namespace Go.Proofs.Ytdfifnplgbceaaa
open Go Go.RowKit
attribute [local irreducible] wpList wpAnyH Code.wp dOp

set_option maxHeartbeats 400000 in
set_option maxRecDepth 20000 in
theorem laws_FnExactTrialCounts_c (Pr : Nat → Prop) (A B : Option Addr) (h : LH) (c d : Nat) (P2 : Nat → Prop) (C : Option Addr) (bs : List Bool) (e : Nat) (w : World) (hA : RC Pr w A h.cells) (hB : R1 Pr w B (ints h.roots)) (hn : h.cells.length ≤ 9223372036854775807) (hN : ∀ x ∈ h.cells, x.refs.length ≤ 9223372036854775807) (hm : h.roots.length ≤ 9223372036854775807) (hC : R1 P2 w C (bools bs)) (hk : bs.length ≤ 9223372036854775807) :
    Calls Try.prog 14 #[.agg #[.slice A h.cells.length c, .slice B h.roots.length d], .slice C bs.length e] w (Ret fun v w' => v = .bool true ∧ Grow w w') := by
  refine enter Try.func14 rfl Try.ntmps14 (L := (_ :: _ :: _ :: _ :: _ :: _ :: _ :: _ :: _ :: _ :: _ :: _ :: _ :: _ :: _ :: _ :: _ :: _ :: _ :: _ :: _ :: _ :: _ :: _ :: _ :: _ :: _ :: _ :: _ :: _ :: _ :: _ :: _ :: _ :: _ :: _ :: _ :: _ :: _ :: _ :: _ :: _ :: _ :: _ :: _ :: _ :: _ :: _ :: _ :: _ :: _ :: _ :: _ :: _ :: _ :: _ :: _ :: _ :: _ :: _ :: _ :: _ :: _ :: _ :: _ :: _ :: _ :: _ :: _ :: _ :: _ :: _ :: _ :: _ :: _ :: _ :: _ :: _ :: _ :: _ :: _ :: _ :: _ :: _ :: _ :: _ :: _ :: _ :: _ :: _ :: [])) rfl ?_
  have G := Mod.refl No w
  have hA0 := hA
  have hB0 := hB
  have hC0 := hC
  refine wp_seq_k fun K1 hK1 => ?_
  refine wp_region_lit ?_  -- region 0 exact.go:1223
  refine S_beg 90 rfl ?_
  refine S_box (cs := [_, _]) rfl rfl ?_
  intro b1 w1 fb1 g1 B1
  have lb1 := B1.lt
  replace hA := hA.grow g1
  replace hB := hB.grow g1
  replace hC := hC.grow g1
  replace G := G.grow g1
  have zg1 := g1.size
  refine S_val (Y_assign rfl) ?_
  refine S_nil (L' := (_ :: _ :: _ :: _ :: _ :: _ :: _ :: _ :: _ :: _ :: _ :: _ :: _ :: _ :: _ :: _ :: _ :: _ :: _ :: _ :: _ :: _ :: _ :: _ :: _ :: _ :: _ :: _ :: _ :: _ :: _ :: _ :: _ :: _ :: _ :: _ :: _ :: _ :: _ :: _ :: _ :: _ :: _ :: _ :: _ :: _ :: _ :: _ :: _ :: _ :: _ :: _ :: _ :: _ :: _ :: _ :: _ :: _ :: _ :: _ :: _ :: _ :: _ :: _ :: _ :: _ :: _ :: _ :: _ :: _ :: _ :: _ :: _ :: _ :: _ :: _ :: _ :: _ :: _ :: _ :: _ :: _ :: _ :: _ :: _ :: _ :: _ :: _ :: _ :: _ :: [])) rfl rfl ?_
  refine th_n ?_
  refine hK1 _ _ ?_
  clear hK1 K1
  refine wp_seq_k fun K2 hK2 => ?_
  refine wp_seq_k fun K3 hK3 => ?_
  refine wp_region_lit ?_  -- region 1 exact.go:1224
  refine S_beg 90 rfl ?_
  refine S_val (Y_move rfl) ?_
  refine S_val (Y_len Try.underlying55 rfl) ?_
  refine S_val (Y_gtr rfl rfl) ?_
  refine S_nil (L' := (_ :: _ :: _ :: _ :: _ :: _ :: _ :: _ :: _ :: _ :: _ :: _ :: _ :: _ :: _ :: _ :: _ :: _ :: _ :: _ :: _ :: _ :: _ :: _ :: _ :: _ :: _ :: _ :: _ :: _ :: _ :: _ :: _ :: _ :: _ :: _ :: _ :: _ :: _ :: _ :: _ :: _ :: _ :: _ :: _ :: _ :: _ :: _ :: _ :: _ :: _ :: _ :: _ :: _ :: _ :: _ :: _ :: _ :: _ :: _ :: _ :: _ :: _ :: _ :: _ :: _ :: _ :: _ :: _ :: _ :: _ :: _ :: _ :: _ :: _ :: _ :: _ :: _ :: _ :: _ :: _ :: _ :: _ :: _ :: _ :: _ :: _ :: _ :: _ :: _ :: [])) rfl rfl ?_
  refine th_n ?_
  refine hK3 _ _ ?_
  clear hK3 K3
  refine S_if rfl (fun hb1 => ?_) (fun hb1 => ?_)  -- c1
  · -- c1T
    first | with_reducible (replace hb1 := nb_nt hb1) | with_reducible (replace hb1 := nb_nf hb1) | with_reducible (replace hb1 := nb_tt hb1) | with_reducible (replace hb1 := nb_tf hb1) | with_reducible (replace hb1 := nb_bt hb1) | with_reducible (replace hb1 := nb_bf hb1) | skip
    refine wp_seq_k fun K4 hK4 => ?_
    refine wp_region_lit ?_  -- region 2 exact.go:1225
    refine S_beg 90 rfl ?_
    refine S_val (Y_assign rfl) ?_
    refine S_nil (L' := (_ :: _ :: _ :: _ :: _ :: _ :: _ :: _ :: _ :: _ :: _ :: _ :: _ :: _ :: _ :: _ :: _ :: _ :: _ :: _ :: _ :: _ :: _ :: _ :: _ :: _ :: _ :: _ :: _ :: _ :: _ :: _ :: _ :: _ :: _ :: _ :: _ :: _ :: _ :: _ :: _ :: _ :: _ :: _ :: _ :: _ :: _ :: _ :: _ :: _ :: _ :: _ :: _ :: _ :: _ :: _ :: _ :: _ :: _ :: _ :: _ :: _ :: _ :: _ :: _ :: _ :: _ :: _ :: _ :: _ :: _ :: _ :: _ :: _ :: _ :: _ :: _ :: _ :: _ :: _ :: _ :: _ :: _ :: _ :: _ :: _ :: _ :: _ :: _ :: _ :: [])) rfl rfl ?_
    refine th_n ?_
    refine hK4 _ _ ?_
    clear hK4 K4
    refine wp_ret ?_
    refine th_r ?_
    clear hK2 K2
    refine ret_r1 rfl rfl ?_  -- r1
    exact ⟨rfl, G⟩
  · -- c1F
    first | with_reducible (replace hb1 := nb_nt hb1) | with_reducible (replace hb1 := nb_nf hb1) | with_reducible (replace hb1 := nb_tt hb1) | with_reducible (replace hb1 := nb_tf hb1) | with_reducible (replace hb1 := nb_bt hb1) | with_reducible (replace hb1 := nb_bf hb1) | skip
    refine wp_skip ?_
    refine th_n ?_
    refine hK2 _ _ ?_
    clear hK2 K2
    refine wp_seq_k fun K5 hK5 => ?_
    refine wp_region_lit ?_  -- region 3 exact.go:1227
    refine S_beg 90 rfl ?_
    refine S_val (Y_assign rfl) ?_
    refine S_nil (L' := (_ :: _ :: _ :: _ :: _ :: _ :: _ :: _ :: _ :: _ :: _ :: _ :: _ :: _ :: _ :: _ :: _ :: _ :: _ :: _ :: _ :: _ :: _ :: _ :: _ :: _ :: _ :: _ :: _ :: _ :: _ :: _ :: _ :: _ :: _ :: _ :: _ :: _ :: _ :: _ :: _ :: _ :: _ :: _ :: _ :: _ :: _ :: _ :: _ :: _ :: _ :: _ :: _ :: _ :: _ :: _ :: _ :: _ :: _ :: _ :: _ :: _ :: _ :: _ :: _ :: _ :: _ :: _ :: _ :: _ :: _ :: _ :: _ :: _ :: _ :: _ :: _ :: _ :: _ :: _ :: _ :: _ :: _ :: _ :: _ :: _ :: _ :: _ :: _ :: _ :: [])) rfl rfl ?_
    refine th_n ?_
    refine hK5 _ _ ?_
    clear hK5 K5
    refine wp_seq_k fun K6 hK6 => ?_
    refine wp_region_lit ?_  -- region 4 exact.go:1228
    refine S_beg 90 rfl ?_
    refine S_val (Y_loadS Try.underlying25 rfl sz25 rfl (by first | assumption | exact B1.row (by rfl))) ?_  -- l1
    refine S_val (Y_move rfl) ?_
    refine S_call rfl en15 (laws_szHeap_c _ _ _ _ _ _ _ _ (by assumption) (by omega) (by assumption) (by omega) (by omega) (by omega)) ?_  -- k1 laws.szHeap
    rintro v2 w2 ⟨r2, rfl, hr2, g2⟩
    replace hA := hA.grow g2
    replace hB := hB.grow g2
    replace hC := hC.grow g2
    replace G := G.grow g2
    replace B1 := B1.grow g2
    have zg2 := g2.size
    refine S_val (Y_assign rfl) ?_
    refine S_nil (L' := (_ :: _ :: _ :: _ :: _ :: _ :: _ :: _ :: _ :: _ :: _ :: _ :: _ :: _ :: _ :: _ :: _ :: _ :: _ :: _ :: _ :: _ :: _ :: _ :: _ :: _ :: _ :: _ :: _ :: _ :: _ :: _ :: _ :: _ :: _ :: _ :: _ :: _ :: _ :: _ :: _ :: _ :: _ :: _ :: _ :: _ :: _ :: _ :: _ :: _ :: _ :: _ :: _ :: _ :: _ :: _ :: _ :: _ :: _ :: _ :: _ :: _ :: _ :: _ :: _ :: _ :: _ :: _ :: _ :: _ :: _ :: _ :: _ :: _ :: _ :: _ :: _ :: _ :: _ :: _ :: _ :: _ :: _ :: _ :: _ :: _ :: _ :: _ :: _ :: _ :: [])) rfl rfl ?_
    refine th_n ?_
    refine hK6 _ _ ?_
    clear hK6 K6
    refine wp_seq_k fun K7 hK7 => ?_
    refine wp_seq_k fun K8 hK8 => ?_
    refine wp_region_lit ?_  -- region 5 exact.go:1229
    refine S_beg 90 rfl ?_
    refine S_val (Y_move rfl) ?_
    refine S_val (Y_lss rfl rfl) ?_
    refine S_nil (L' := (_ :: _ :: _ :: _ :: _ :: _ :: _ :: _ :: _ :: _ :: _ :: _ :: _ :: _ :: _ :: _ :: _ :: _ :: _ :: _ :: _ :: _ :: _ :: _ :: _ :: _ :: _ :: _ :: _ :: _ :: _ :: _ :: _ :: _ :: _ :: _ :: _ :: _ :: _ :: _ :: _ :: _ :: _ :: _ :: _ :: _ :: _ :: _ :: _ :: _ :: _ :: _ :: _ :: _ :: _ :: _ :: _ :: _ :: _ :: _ :: _ :: _ :: _ :: _ :: _ :: _ :: _ :: _ :: _ :: _ :: _ :: _ :: _ :: _ :: _ :: _ :: _ :: _ :: _ :: _ :: _ :: _ :: _ :: _ :: _ :: _ :: _ :: _ :: _ :: _ :: [])) rfl rfl ?_
    refine th_n ?_
    refine hK8 _ _ ?_
    clear hK8 K8
    refine S_if rfl (fun hb2 => ?_) (fun hb2 => ?_)  -- c2
    · -- c2T
      first | with_reducible (replace hb2 := nb_nt hb2) | with_reducible (replace hb2 := nb_nf hb2) | with_reducible (replace hb2 := nb_tt hb2) | with_reducible (replace hb2 := nb_tf hb2) | with_reducible (replace hb2 := nb_bt hb2) | with_reducible (replace hb2 := nb_bf hb2) | skip
      refine wp_seq_k fun K9 hK9 => ?_
      refine wp_region_lit ?_  -- region 6 exact.go:1230
      refine S_beg 90 rfl ?_
      refine S_val (Y_assign rfl) ?_
      refine S_nil (L' := (_ :: _ :: _ :: _ :: _ :: _ :: _ :: _ :: _ :: _ :: _ :: _ :: _ :: _ :: _ :: _ :: _ :: _ :: _ :: _ :: _ :: _ :: _ :: _ :: _ :: _ :: _ :: _ :: _ :: _ :: _ :: _ :: _ :: _ :: _ :: _ :: _ :: _ :: _ :: _ :: _ :: _ :: _ :: _ :: _ :: _ :: _ :: _ :: _ :: _ :: _ :: _ :: _ :: _ :: _ :: _ :: _ :: _ :: _ :: _ :: _ :: _ :: _ :: _ :: _ :: _ :: _ :: _ :: _ :: _ :: _ :: _ :: _ :: _ :: _ :: _ :: _ :: _ :: _ :: _ :: _ :: _ :: _ :: _ :: _ :: _ :: _ :: _ :: _ :: _ :: [])) rfl rfl ?_
      refine th_n ?_
      refine hK9 _ _ ?_
      clear hK9 K9
      refine wp_ret ?_
      refine th_r ?_
      clear hK7 K7
      refine ret_r1 rfl rfl ?_  -- r2
      exact ⟨rfl, G⟩
    · -- c2F
      first | with_reducible (replace hb2 := nb_nt hb2) | with_reducible (replace hb2 := nb_nf hb2) | with_reducible (replace hb2 := nb_tt hb2) | with_reducible (replace hb2 := nb_tf hb2) | with_reducible (replace hb2 := nb_bt hb2) | with_reducible (replace hb2 := nb_bf hb2) | skip
      have hz : hsize h ≤ 1048576 := by omega
      have hbz : bs.length ≤ 1048576 := by omega
      have hbd : (triV h bs).length ≤ 1048576 := by have := triV_len h bs; have := hsize_cells h; omega
      have hk9 : kEnd 1 h ≤ 4194304 := by
        have := kAt_le (k := 1) (cs := h.cells) (Nat.le_refl _)
        unfold kEnd
        unfold hsize at hz
        omega
      have hk8 := kEnd_ge 1 h
      refine wp_skip ?_
      refine th_n ?_
      refine hK7 _ _ ?_
      clear hK7 K7
      refine wp_seq_k fun K10 hK10 => ?_
      refine wp_region_lit ?_  -- region 7 exact.go:1232
      refine S_beg 90 rfl ?_
      refine S_val (Y_loadS Try.underlying25 rfl sz25 rfl (by first | assumption | exact B1.row (by rfl))) ?_  -- l2
      refine S_call rfl en17 (laws_toHeap_c _ _ _ _ _ _ _ (by assumption) (by assumption) (by omega)) ?_  -- k2 laws.toHeap
      rintro v3 w3 ⟨a3, b3, rs3, rfl, O3, g3⟩
      replace hA := hA.grow g3
      replace hB := hB.grow g3
      replace hC := hC.grow g3
      replace G := G.grow g3
      replace B1 := B1.grow g3
      have zg3 := g3.size
      replace O3 := O3.lt
      have hA3 := O3.rc
      have hB3 := O3.r1
      refine S_val (Y_move rfl) ?_
      refine S_call rfl en52 (laws_toBoolS_c _ _ _ _ _ (by assumption) (by omega)) ?_  -- k3 laws.toBoolS
      rintro v4 w4 ⟨b4, rfl, fb4, B4, g4⟩
      replace hA := hA.grow g4
      replace hB := hB.grow g4
      replace hC := hC.grow g4
      replace hA3 := hA3.grow g4
      replace hB3 := hB3.grow g4
      replace G := G.grow g4
      replace B1 := B1.grow g4
      have zg4 := g4.size
      have lb4 := B4.lt
      have hS4 := R1.of_blkE B4
      refine S_call rfl en51 (spec_TrialCounts_c _ _ _ _ _ _ _ _ _ _ _ (by assumption) (by assumption) (by assumption) (by omega) (by omega)) ?_  -- k4 spec.TrialCounts
      rintro v5 w5 ⟨A5, q5, cap5, rfl, hq5, O5, g5⟩
      replace hA := hA.grow g5
      replace hB := hB.grow g5
      replace hC := hC.grow g5
      replace hA3 := hA3.grow g5
      replace hB3 := hB3.grow g5
      replace hS4 := hS4.grow g5
      replace G := G.grow g5
      replace B1 := B1.grow g5
      replace B4 := B4.grow g5
      have zg5 := g5.size
      subst hq5
      replace O5 := O5.lt
      have OXw := O5
      have hRw := OXw.r1
      refine S_val (Y_assign rfl) ?_
      refine S_nil (L' := (_ :: _ :: _ :: _ :: _ :: _ :: _ :: _ :: _ :: _ :: _ :: _ :: _ :: _ :: _ :: _ :: _ :: _ :: _ :: _ :: _ :: _ :: _ :: _ :: _ :: _ :: _ :: _ :: _ :: _ :: _ :: _ :: _ :: _ :: _ :: _ :: _ :: _ :: _ :: _ :: _ :: _ :: _ :: _ :: _ :: _ :: _ :: _ :: _ :: _ :: _ :: _ :: _ :: _ :: _ :: _ :: _ :: _ :: _ :: _ :: _ :: _ :: _ :: _ :: _ :: _ :: _ :: _ :: _ :: _ :: _ :: _ :: _ :: _ :: _ :: _ :: _ :: _ :: _ :: _ :: _ :: _ :: _ :: _ :: _ :: _ :: _ :: _ :: _ :: _ :: [])) rfl rfl ?_
      refine th_n ?_
      refine hK10 _ _ ?_
      clear hK10 K10
      refine wp_seq_k fun K11 hK11 => ?_
      refine wp_region_lit ?_  -- region 8 exact.go:1233
      refine S_beg 90 rfl ?_
      refine S_val (Y_loadS Try.underlying25 rfl sz25 rfl (by first | assumption | exact B1.row (by rfl) | exact B4.row (by rfl))) ?_  -- l3
      refine S_call rfl en17 (laws_toHeap_c _ _ _ _ _ _ _ (by assumption) (by assumption) (by omega)) ?_  -- k5 laws.toHeap
      rintro v6 w6 ⟨a6, b6, rs6, rfl, O6, g6⟩
      replace hA := hA.grow g6
      replace hB := hB.grow g6
      replace hC := hC.grow g6
      replace hA3 := hA3.grow g6
      replace hB3 := hB3.grow g6
      replace hS4 := hS4.grow g6
      replace OXw := OXw.grow g6
      replace hRw := hRw.grow g6
      replace G := G.grow g6
      replace B1 := B1.grow g6
      replace B4 := B4.grow g6
      have zg6 := g6.size
      replace O6 := O6.lt
      have OH := O6
      have hXA := OH.rc
      have hXB := OH.r1
      refine S_alloc (cs := [_, _]) zr30 rfl ?_
      intro b7 w7 fb7 g7 B7
      have lb7 := B7.lt
      replace hA := hA.grow g7
      replace hB := hB.grow g7
      replace hC := hC.grow g7
      replace hA3 := hA3.grow g7
      replace hB3 := hB3.grow g7
      replace hS4 := hS4.grow g7
      replace OXw := OXw.grow g7
      replace hRw := hRw.grow g7
      replace OH := OH.grow g7
      replace hXA := hXA.grow g7
      replace hXB := hXB.grow g7
      replace G := G.grow g7
      replace B1 := B1.grow g7
      replace B4 := B4.grow g7
      have zg7 := g7.size
      refine S_stM (pre := []) (old := [_, _]) (post := []) (vs := [_, _]) sz30 rfl rfl rfl (by first | rfl | assumption) B7 rfl rfl ?_
      intro w8 m8 X8
      replace B7 := Blk.eq (ys := [_, _]) X8 rfl
      clear X8
      replace G := G.above m8 (by intro i h; first | omega | (dsimp only at h; omega))
      replace hA := hA0.grow G
      replace hB := hB0.grow G
      replace hC := hC0.grow G
      replace hA3 := hA3.mod m8 (by intro k hk h; first | omega | (dsimp only at hk h; omega) | (dsimp only at hk; omega))
      replace hB3 := hB3.mod m8 (by intro k hk h; first | omega | (dsimp only at hk h; omega) | (dsimp only at hk; omega))
      replace hS4 := hS4.mod m8 (by intro k hk h; first | omega | (dsimp only at hk h; omega) | (dsimp only at hk; omega))
      replace OXw := OXw.mod m8 (by intro k hk h; first | omega | (dsimp only at hk h; omega) | (dsimp only at hk; omega))
      replace hRw := hRw.mod m8 (by intro k hk h; first | omega | (dsimp only at hk h; omega) | (dsimp only at hk; omega))
      replace OH := OH.mod m8 (by intro k hk h; first | omega | (dsimp only at hk h; omega) | (dsimp only at hk; omega))
      replace hXA := hXA.mod m8 (by intro k hk h; first | omega | (dsimp only at hk h; omega) | (dsimp only at hk; omega))
      replace hXB := hXB.mod m8 (by intro k hk h; first | omega | (dsimp only at hk h; omega) | (dsimp only at hk; omega))
      replace B1 := B1.mod m8 (by intro h; first | omega | (dsimp only at h; omega))
      replace B4 := B4.mod m8 (by intro h; first | omega | (dsimp only at h; omega))
      have zm8 := m8.size
      refine S_nil (L' := (_ :: _ :: _ :: _ :: _ :: _ :: _ :: _ :: _ :: _ :: _ :: _ :: _ :: _ :: _ :: _ :: _ :: _ :: _ :: _ :: _ :: _ :: _ :: _ :: _ :: _ :: _ :: _ :: _ :: _ :: _ :: _ :: _ :: _ :: _ :: _ :: _ :: _ :: _ :: _ :: _ :: _ :: _ :: _ :: _ :: _ :: _ :: _ :: _ :: _ :: _ :: _ :: _ :: _ :: _ :: _ :: _ :: _ :: _ :: _ :: _ :: _ :: _ :: _ :: _ :: _ :: _ :: _ :: _ :: _ :: _ :: _ :: _ :: _ :: _ :: _ :: _ :: _ :: _ :: _ :: _ :: _ :: _ :: _ :: _ :: _ :: _ :: _ :: _ :: _ :: [])) rfl rfl ?_
      refine th_n ?_
      refine hK11 _ _ ?_
      clear hK11 K11
      refine wp_seq_k fun K12 hK12 => ?_
      refine wp_region_lit ?_  -- region 9 exact.go:1234
      refine S_beg 90 rfl ?_
      refine S_val (Y_move rfl) ?_
      refine S_call rfl en52 (laws_toBoolS_c _ _ _ _ _ (by assumption) (by omega)) ?_  -- k6 laws.toBoolS
      rintro v9 w9 ⟨b9, rfl, fb9, B9, g9⟩
      replace hA := hA.grow g9
      replace hB := hB.grow g9
      replace hC := hC.grow g9
      replace hA3 := hA3.grow g9
      replace hB3 := hB3.grow g9
      replace hS4 := hS4.grow g9
      replace OXw := OXw.grow g9
      replace hRw := hRw.grow g9
      replace OH := OH.grow g9
      replace hXA := hXA.grow g9
      replace hXB := hXB.grow g9
      replace G := G.grow g9
      replace B1 := B1.grow g9
      replace B4 := B4.grow g9
      replace B7 := B7.grow g9
      have zg9 := g9.size
      have lb9 := B9.lt
      have OS : OI (fun i => i = b9) w9 4 (some ⟨b9, 0, none⟩) (bools bs) := OI.of_blk' B9 rfl
      have hSS := OS.r1
      refine S_val (Y_assign rfl) ?_
      refine S_nil (L' := (_ :: _ :: _ :: _ :: _ :: _ :: _ :: _ :: _ :: _ :: _ :: _ :: _ :: _ :: _ :: _ :: _ :: _ :: _ :: _ :: _ :: _ :: _ :: _ :: _ :: _ :: _ :: _ :: _ :: _ :: _ :: _ :: _ :: _ :: _ :: _ :: _ :: _ :: _ :: _ :: _ :: _ :: _ :: _ :: _ :: _ :: _ :: _ :: _ :: _ :: _ :: _ :: _ :: _ :: _ :: _ :: _ :: _ :: _ :: _ :: _ :: _ :: _ :: _ :: _ :: _ :: _ :: _ :: _ :: _ :: _ :: _ :: _ :: _ :: _ :: _ :: _ :: _ :: _ :: _ :: _ :: _ :: _ :: _ :: _ :: _ :: _ :: _ :: _ :: _ :: [])) rfl rfl ?_
      refine th_n ?_
      refine hK12 _ _ ?_
      clear hK12 K12
      refine wp_seq_k fun K13 hK13 => ?_
      refine wp_region_lit ?_  -- region 10 exact.go:1235
      refine S_beg 90 rfl ?_
      refine S_val (Y_loadS Try.underlying30 rfl sz30 rfl (by first | assumption | exact B1.row (by rfl) | exact B4.row (by rfl) | exact B7.row (by rfl))) ?_  -- l4
      refine S_val (Y_move rfl) ?_
      refine S_call rfl en53 (impl_TrialCounts_c _ _ _ _ _ _ _ _ _ _ _ (by assumption) (by assumption) (by assumption) (by omega) (by omega)) ?_  -- k7 impl.TrialCounts
      rintro v10 w10 ⟨A10, q10, cap10, rfl, hq10, O10, g10⟩
      replace hA := hA.grow g10
      replace hB := hB.grow g10
      replace hC := hC.grow g10
      replace hA3 := hA3.grow g10
      replace hB3 := hB3.grow g10
      replace hS4 := hS4.grow g10
      replace OXw := OXw.grow g10
      replace hRw := hRw.grow g10
      replace OH := OH.grow g10
      replace hXA := hXA.grow g10
      replace hXB := hXB.grow g10
      replace OS := OS.grow g10
      replace hSS := hSS.grow g10
      replace G := G.grow g10
      replace B1 := B1.grow g10
      replace B4 := B4.grow g10
      replace B7 := B7.grow g10
      have zg10 := g10.size
      subst hq10
      replace O10 := O10.lt
      have OXg := O10
      have hRg := OXg.r1
      refine S_val (Y_assign rfl) ?_
      refine S_nil (L' := (_ :: _ :: _ :: _ :: _ :: _ :: _ :: _ :: _ :: _ :: _ :: _ :: _ :: _ :: _ :: _ :: _ :: _ :: _ :: _ :: _ :: _ :: _ :: _ :: _ :: _ :: _ :: _ :: _ :: _ :: _ :: _ :: _ :: _ :: _ :: _ :: _ :: _ :: _ :: _ :: _ :: _ :: _ :: _ :: _ :: _ :: _ :: _ :: _ :: _ :: _ :: _ :: _ :: _ :: _ :: _ :: _ :: _ :: _ :: _ :: _ :: _ :: _ :: _ :: _ :: _ :: _ :: _ :: _ :: _ :: _ :: _ :: _ :: _ :: _ :: _ :: _ :: _ :: _ :: _ :: _ :: _ :: _ :: _ :: _ :: _ :: _ :: _ :: _ :: _ :: [])) rfl rfl ?_
      refine th_n ?_
      refine hK13 _ _ ?_
      clear hK13 K13
      refine wp_seq_k fun K14 hK14 => ?_
      refine wp_seq_k fun K15 hK15 => ?_
      refine wp_region_lit ?_  -- region 11 exact.go:1236
      refine S_beg 90 rfl ?_
      refine S_val (Y_move rfl) ?_
      refine S_val (Y_move rfl) ?_
      refine S_call rfl en19 (laws_eqIntS_c _ _ _ _ _ _ _ _ _ (by assumption) (by assumption) (by omega)) ?_  -- k8 laws.eqIntS
      rintro v11 w11 ⟨rfl, g11⟩
      replace hA := hA.grow g11
      replace hB := hB.grow g11
      replace hC := hC.grow g11
      replace hA3 := hA3.grow g11
      replace hB3 := hB3.grow g11
      replace hS4 := hS4.grow g11
      replace OXw := OXw.grow g11
      replace hRw := hRw.grow g11
      replace OH := OH.grow g11
      replace hXA := hXA.grow g11
      replace hXB := hXB.grow g11
      replace OS := OS.grow g11
      replace hSS := hSS.grow g11
      replace OXg := OXg.grow g11
      replace hRg := hRg.grow g11
      replace G := G.grow g11
      replace B1 := B1.grow g11
      replace B4 := B4.grow g11
      replace B7 := B7.grow g11
      have zg11 := g11.size
      refine S_val (Y_not rfl) ?_
      refine S_nil (L' := (_ :: _ :: _ :: _ :: _ :: _ :: _ :: _ :: _ :: _ :: _ :: _ :: _ :: _ :: _ :: _ :: _ :: _ :: _ :: _ :: _ :: _ :: _ :: _ :: _ :: _ :: _ :: _ :: _ :: _ :: _ :: _ :: _ :: _ :: _ :: _ :: _ :: _ :: _ :: _ :: _ :: _ :: _ :: _ :: _ :: _ :: _ :: _ :: _ :: _ :: _ :: _ :: _ :: _ :: _ :: _ :: _ :: _ :: _ :: _ :: _ :: _ :: _ :: _ :: _ :: _ :: _ :: _ :: _ :: _ :: _ :: _ :: _ :: _ :: _ :: _ :: _ :: _ :: _ :: _ :: _ :: _ :: _ :: _ :: _ :: _ :: _ :: _ :: _ :: _ :: [])) rfl rfl ?_
      refine th_n ?_
      refine hK15 _ _ ?_
      clear hK15 K15
      refine S_if rfl (fun hb3 => ?_) (fun hb3 => ?_)  -- c3
      · -- c3T
        first | with_reducible (replace hb3 := nb_nt hb3) | with_reducible (replace hb3 := nb_nf hb3) | with_reducible (replace hb3 := nb_tt hb3) | with_reducible (replace hb3 := nb_tf hb3) | with_reducible (replace hb3 := nb_bt hb3) | with_reducible (replace hb3 := nb_bf hb3) | skip
        exact absurd rfl hb3
      · -- c3F
        first | with_reducible (replace hb3 := nb_nt hb3) | with_reducible (replace hb3 := nb_nf hb3) | with_reducible (replace hb3 := nb_tt hb3) | with_reducible (replace hb3 := nb_tf hb3) | with_reducible (replace hb3 := nb_bt hb3) | with_reducible (replace hb3 := nb_bf hb3) | skip
        refine wp_skip ?_
        refine th_n ?_
        refine hK14 _ _ ?_
        clear hK14 K14
        refine wp_seq_k fun K16 hK16 => ?_
        refine wp_seq_k fun K17 hK17 => ?_
        refine D_start 5 90 (fun w => Mod (No) w) follows rfl rfl ?_  -- d1 region 13 exact.go:1239
        intro w12 g12
        replace hA := hA.grow g12
        replace hB := hB.grow g12
        replace hC := hC.grow g12
        replace hA3 := hA3.grow g12
        replace hB3 := hB3.grow g12
        replace hS4 := hS4.grow g12
        replace OXw := OXw.grow g12
        replace hRw := hRw.grow g12
        replace OH := OH.grow g12
        replace hXA := hXA.grow g12
        replace hXB := hXB.grow g12
        replace OS := OS.grow g12
        replace hSS := hSS.grow g12
        replace OXg := OXg.grow g12
        replace hRg := hRg.grow g12
        replace G := G.grow g12
        replace B1 := B1.grow g12
        replace B4 := B4.grow g12
        replace B7 := B7.grow g12
        have zg12 := g12.size
        have GS12 := Mod.refl (No) w12
        have B1d12 := B1
        have B4d12 := B4
        have B7d12 := B7
        refine D_q (i := 0) rfl (by kernel_rfl) (fun _ _ _ h => h) GS12 (fun _ hs => Y_loadS Try.underlying30 rfl sz30 rfl (by first | exact hs.cells0 (by assumption) | exact hs.cells0 (B1.row (by rfl)) | exact hs.cells0 (B4.row (by rfl)) | exact hs.cells0 (B7.row (by rfl)) | exact hs.cells0 (B1d12.row (by rfl)) | exact hs.cells0 (B4d12.row (by rfl)) | exact hs.cells0 (B7d12.row (by rfl)))) ?_
        refine D_q (i := 1) rfl (by kernel_rfl) (fun _ _ _ h => h) GS12 (fun _ hs => Y_loadS Try.underlying25 rfl sz25 rfl (by first | exact hs.cells0 (by assumption) | exact hs.cells0 (B1.row (by rfl)) | exact hs.cells0 (B4.row (by rfl)) | exact hs.cells0 (B7.row (by rfl)) | exact hs.cells0 (B1d12.row (by rfl)) | exact hs.cells0 (B4d12.row (by rfl)) | exact hs.cells0 (B7d12.row (by rfl)))) ?_
        refine D_1 (i := 2) (by kernel_rfl) ?_
        refine E_call rfl rfl en17 (laws_toHeap_c _ _ _ _ _ _ _ (by assumption) (by assumption) (by omega)) ?_  -- k9 laws.toHeap
        rintro v13 w13 ⟨a13, b13, rs13, rfl, O13, g13⟩
        replace hA := hA.grow g13
        replace hB := hB.grow g13
        replace hC := hC.grow g13
        replace hA3 := hA3.grow g13
        replace hB3 := hB3.grow g13
        replace hS4 := hS4.grow g13
        replace OXw := OXw.grow g13
        replace hRw := hRw.grow g13
        replace OH := OH.grow g13
        replace hXA := hXA.grow g13
        replace hXB := hXB.grow g13
        replace OS := OS.grow g13
        replace hSS := hSS.grow g13
        replace OXg := OXg.grow g13
        replace hRg := hRg.grow g13
        replace G := G.grow g13
        replace GS12 := GS12.grow g13
        replace B1 := B1.grow g13
        replace B4 := B4.grow g13
        replace B7 := B7.grow g13
        have zg13 := g13.size
        replace O13 := O13.lt
        have hA13 := O13.rc
        have hB13 := O13.r1
        refine ⟨GS12, ?_⟩
        refine D_1 (i := 3) (by kernel_rfl) ?_
        refine E_call rfl rfl en20 (laws_eqHeap_c _ _ _ _ _ _ _ _ _ _ _ _ _ (by assumption) (by assumption) (by assumption) (by assumption) (by omega)) ?_  -- k10 laws.eqHeap
        rintro v14 w14 ⟨rfl, g14⟩
        replace hA := hA.grow g14
        replace hB := hB.grow g14
        replace hC := hC.grow g14
        replace hA3 := hA3.grow g14
        replace hB3 := hB3.grow g14
        replace hS4 := hS4.grow g14
        replace OXw := OXw.grow g14
        replace hRw := hRw.grow g14
        replace OH := OH.grow g14
        replace hXA := hXA.grow g14
        replace hXB := hXB.grow g14
        replace OS := OS.grow g14
        replace hSS := hSS.grow g14
        replace OXg := OXg.grow g14
        replace hRg := hRg.grow g14
        replace hA13 := hA13.grow g14
        replace hB13 := hB13.grow g14
        replace G := G.grow g14
        replace GS12 := GS12.grow g14
        replace B1 := B1.grow g14
        replace B4 := B4.grow g14
        replace B7 := B7.grow g14
        have zg14 := g14.size
        refine ⟨GS12, ?_⟩
        refine D_q (i := 4) rfl (by kernel_rfl) (fun _ _ _ h => h) GS12 (fun _ _ => Y_not rfl) ?_
        refine D_end (L' := (_ :: _ :: _ :: _ :: _ :: _ :: _ :: _ :: _ :: _ :: _ :: _ :: _ :: _ :: _ :: _ :: _ :: _ :: _ :: _ :: _ :: _ :: _ :: _ :: _ :: _ :: _ :: _ :: _ :: _ :: _ :: _ :: _ :: _ :: _ :: _ :: _ :: _ :: _ :: _ :: _ :: _ :: _ :: _ :: _ :: _ :: _ :: _ :: _ :: _ :: _ :: _ :: _ :: _ :: _ :: _ :: _ :: _ :: _ :: _ :: _ :: _ :: _ :: _ :: _ :: _ :: _ :: _ :: _ :: _ :: _ :: _ :: _ :: _ :: _ :: _ :: _ :: _ :: _ :: _ :: _ :: _ :: _ :: _ :: _ :: _ :: _ :: _ :: _ :: _ :: [])) (by kernel_rfl) rfl rfl ?_
        refine th_n ?_
        refine hK17 _ _ ?_
        clear hK17 K17
        refine S_if rfl (fun hb4 => ?_) (fun hb4 => ?_)  -- c4
        · -- c4T
          first | with_reducible (replace hb4 := nb_nt hb4) | with_reducible (replace hb4 := nb_nf hb4) | with_reducible (replace hb4 := nb_tt hb4) | with_reducible (replace hb4 := nb_tf hb4) | with_reducible (replace hb4 := nb_bt hb4) | with_reducible (replace hb4 := nb_bf hb4) | skip
          exact absurd rfl hb4
        · -- c4F
          first | with_reducible (replace hb4 := nb_nt hb4) | with_reducible (replace hb4 := nb_nf hb4) | with_reducible (replace hb4 := nb_tt hb4) | with_reducible (replace hb4 := nb_tf hb4) | with_reducible (replace hb4 := nb_bt hb4) | with_reducible (replace hb4 := nb_bf hb4) | skip
          refine wp_skip ?_
          refine th_n ?_
          refine hK16 _ _ ?_
          clear hK16 K16
          refine wp_seq_k fun K18 hK18 => ?_
          refine wp_seq_k fun K19 hK19 => ?_
          refine wp_region_lit ?_  -- region 15 exact.go:1242
          refine S_beg 90 rfl ?_
          refine S_val (Y_move rfl) ?_
          refine S_val (Y_move rfl) ?_
          refine S_call rfl en52 (laws_toBoolS_c _ _ _ _ _ (by assumption) (by omega)) ?_  -- k11 laws.toBoolS
          rintro v15 w15 ⟨b15, rfl, fb15, B15, g15⟩
          replace hA := hA.grow g15
          replace hB := hB.grow g15
          replace hC := hC.grow g15
          replace hA3 := hA3.grow g15
          replace hB3 := hB3.grow g15
          replace hS4 := hS4.grow g15
          replace OXw := OXw.grow g15
          replace hRw := hRw.grow g15
          replace OH := OH.grow g15
          replace hXA := hXA.grow g15
          replace hXB := hXB.grow g15
          replace OS := OS.grow g15
          replace hSS := hSS.grow g15
          replace OXg := OXg.grow g15
          replace hRg := hRg.grow g15
          replace hA13 := hA13.grow g15
          replace hB13 := hB13.grow g15
          replace G := G.grow g15
          replace B1 := B1.grow g15
          replace B4 := B4.grow g15
          replace B7 := B7.grow g15
          have zg15 := g15.size
          have lb15 := B15.lt
          have hS15 := R1.of_blkE B15
          refine S_call rfl en42 (laws_eqBoolS_c _ _ _ _ _ _ _ _ _ (by assumption) (by assumption) (by omega)) ?_  -- k12 laws.eqBoolS
          rintro v16 w16 ⟨rfl, g16⟩
          replace hA := hA.grow g16
          replace hB := hB.grow g16
          replace hC := hC.grow g16
          replace hA3 := hA3.grow g16
          replace hB3 := hB3.grow g16
          replace hS4 := hS4.grow g16
          replace OXw := OXw.grow g16
          replace hRw := hRw.grow g16
          replace OH := OH.grow g16
          replace hXA := hXA.grow g16
          replace hXB := hXB.grow g16
          replace OS := OS.grow g16
          replace hSS := hSS.grow g16
          replace OXg := OXg.grow g16
          replace hRg := hRg.grow g16
          replace hA13 := hA13.grow g16
          replace hB13 := hB13.grow g16
          replace hS15 := hS15.grow g16
          replace G := G.grow g16
          replace B1 := B1.grow g16
          replace B4 := B4.grow g16
          replace B7 := B7.grow g16
          replace B15 := B15.grow g16
          have zg16 := g16.size
          refine S_val (Y_not rfl) ?_
          refine S_nil (L' := (_ :: _ :: _ :: _ :: _ :: _ :: _ :: _ :: _ :: _ :: _ :: _ :: _ :: _ :: _ :: _ :: _ :: _ :: _ :: _ :: _ :: _ :: _ :: _ :: _ :: _ :: _ :: _ :: _ :: _ :: _ :: _ :: _ :: _ :: _ :: _ :: _ :: _ :: _ :: _ :: _ :: _ :: _ :: _ :: _ :: _ :: _ :: _ :: _ :: _ :: _ :: _ :: _ :: _ :: _ :: _ :: _ :: _ :: _ :: _ :: _ :: _ :: _ :: _ :: _ :: _ :: _ :: _ :: _ :: _ :: _ :: _ :: _ :: _ :: _ :: _ :: _ :: _ :: _ :: _ :: _ :: _ :: _ :: _ :: _ :: _ :: _ :: _ :: _ :: _ :: [])) rfl rfl ?_
          refine th_n ?_
          refine hK19 _ _ ?_
          clear hK19 K19
          refine S_if rfl (fun hb5 => ?_) (fun hb5 => ?_)  -- c5
          · -- c5T
            first | with_reducible (replace hb5 := nb_nt hb5) | with_reducible (replace hb5 := nb_nf hb5) | with_reducible (replace hb5 := nb_tt hb5) | with_reducible (replace hb5 := nb_tf hb5) | with_reducible (replace hb5 := nb_bt hb5) | with_reducible (replace hb5 := nb_bf hb5) | skip
            exact absurd rfl hb5
          · -- c5F
            first | with_reducible (replace hb5 := nb_nt hb5) | with_reducible (replace hb5 := nb_nf hb5) | with_reducible (replace hb5 := nb_tt hb5) | with_reducible (replace hb5 := nb_tf hb5) | with_reducible (replace hb5 := nb_bt hb5) | with_reducible (replace hb5 := nb_bf hb5) | skip
            refine wp_skip ?_
            refine th_n ?_
            refine hK18 _ _ ?_
            clear hK18 K18
            refine wp_seq_k fun K20 hK20 => ?_
            refine wp_region_lit ?_  -- region 17 exact.go:1245
            refine S_beg 90 rfl ?_
            refine S_val (Y_assign rfl) ?_
            refine S_nil (L' := (_ :: _ :: _ :: _ :: _ :: _ :: _ :: _ :: _ :: _ :: _ :: _ :: _ :: _ :: _ :: _ :: _ :: _ :: _ :: _ :: _ :: _ :: _ :: _ :: _ :: _ :: _ :: _ :: _ :: _ :: _ :: _ :: _ :: _ :: _ :: _ :: _ :: _ :: _ :: _ :: _ :: _ :: _ :: _ :: _ :: _ :: _ :: _ :: _ :: _ :: _ :: _ :: _ :: _ :: _ :: _ :: _ :: _ :: _ :: _ :: _ :: _ :: _ :: _ :: _ :: _ :: _ :: _ :: _ :: _ :: _ :: _ :: _ :: _ :: _ :: _ :: _ :: _ :: _ :: _ :: _ :: _ :: _ :: _ :: _ :: _ :: _ :: _ :: _ :: _ :: [])) rfl rfl ?_
            refine th_n ?_
            refine hK20 _ _ ?_
            clear hK20 K20
            refine wp_seq_k fun K21 hK21 => ?_
            refine wp_region_lit ?_  -- region 18 exact.go:1246
            refine S_beg 90 rfl ?_
            refine S_val (Y_loadS Try.underlying30 rfl sz30 rfl (by first | assumption | exact B1.row (by rfl) | exact B4.row (by rfl) | exact B7.row (by rfl) | exact B15.row (by rfl))) ?_  -- l7
            refine S_val (Y_move rfl) ?_
            refine S_call rfl en21 (laws_markHeap_c _ _ _ _ _ _ _ _ _ OH (by omega) ⟨by omega, by omega⟩) ?_  -- k13 laws.markHeap
            rintro v17 w17 ⟨rfl, O17, m17⟩
            replace G := G.above m17 (by intro i h; first | omega | (dsimp only at h; omega))
            replace hA := hA0.grow G
            replace hB := hB0.grow G
            replace hC := hC0.grow G
            replace hA3 := hA3.mod m17 (by intro k hk h; first | omega | (dsimp only at hk h; omega) | (dsimp only at hk; omega))
            replace hB3 := hB3.mod m17 (by intro k hk h; first | omega | (dsimp only at hk h; omega) | (dsimp only at hk; omega))
            replace hS4 := hS4.mod m17 (by intro k hk h; first | omega | (dsimp only at hk h; omega) | (dsimp only at hk; omega))
            replace OXw := OXw.mod m17 (by intro k hk h; first | omega | (dsimp only at hk h; omega) | (dsimp only at hk; omega))
            replace hRw := hRw.mod m17 (by intro k hk h; first | omega | (dsimp only at hk h; omega) | (dsimp only at hk; omega))
            replace OS := OS.mod m17 (by intro k hk h; first | omega | (dsimp only at hk h; omega) | (dsimp only at hk; omega))
            replace hSS := hSS.mod m17 (by intro k hk h; first | omega | (dsimp only at hk h; omega) | (dsimp only at hk; omega))
            replace OXg := OXg.mod m17 (by intro k hk h; first | omega | (dsimp only at hk h; omega) | (dsimp only at hk; omega))
            replace hRg := hRg.mod m17 (by intro k hk h; first | omega | (dsimp only at hk h; omega) | (dsimp only at hk; omega))
            replace hA13 := hA13.mod m17 (by intro k hk h; first | omega | (dsimp only at hk h; omega) | (dsimp only at hk; omega))
            replace hB13 := hB13.mod m17 (by intro k hk h; first | omega | (dsimp only at hk h; omega) | (dsimp only at hk; omega))
            replace hS15 := hS15.mod m17 (by intro k hk h; first | omega | (dsimp only at hk h; omega) | (dsimp only at hk; omega))
            replace B1 := B1.mod m17 (by intro h; first | omega | (dsimp only at h; omega))
            replace B4 := B4.mod m17 (by intro h; first | omega | (dsimp only at h; omega))
            replace B7 := B7.mod m17 (by intro h; first | omega | (dsimp only at h; omega))
            replace B15 := B15.mod m17 (by intro h; first | omega | (dsimp only at h; omega))
            have zm17 := m17.size
            refine S_val (Y_assign rfl) ?_
            refine S_nil (L' := (_ :: _ :: _ :: _ :: _ :: _ :: _ :: _ :: _ :: _ :: _ :: _ :: _ :: _ :: _ :: _ :: _ :: _ :: _ :: _ :: _ :: _ :: _ :: _ :: _ :: _ :: _ :: _ :: _ :: _ :: _ :: _ :: _ :: _ :: _ :: _ :: _ :: _ :: _ :: _ :: _ :: _ :: _ :: _ :: _ :: _ :: _ :: _ :: _ :: _ :: _ :: _ :: _ :: _ :: _ :: _ :: _ :: _ :: _ :: _ :: _ :: _ :: _ :: _ :: _ :: _ :: _ :: _ :: _ :: _ :: _ :: _ :: _ :: _ :: _ :: _ :: _ :: _ :: _ :: _ :: _ :: _ :: _ :: _ :: _ :: _ :: _ :: _ :: _ :: _ :: [])) rfl rfl ?_
            refine th_n ?_
            refine hK21 _ _ ?_
            clear hK21 K21
            refine wp_seq_k fun K22 hK22 => ?_
            refine wp_region_lit ?_  -- region 19 exact.go:1247
            refine S_beg 90 rfl ?_
            refine S_val (Y_move rfl) ?_
            refine S_val (Y_move rfl) ?_
            refine S_call rfl en43 (markBoolS_p _ _ _ _ _ _ _ OS rfl (by omega) ⟨by omega, by omega⟩) ?_  -- k14 laws.markBoolS
            rintro v18 w18 ⟨rfl, O18, m18⟩
            replace G := G.above m18 (by intro i h; first | omega | (dsimp only at h; omega))
            replace hA := hA0.grow G
            replace hB := hB0.grow G
            replace hC := hC0.grow G
            replace hA3 := hA3.mod m18 (by intro k hk h; first | omega | (dsimp only at hk h; omega) | (dsimp only at hk; omega))
            replace hB3 := hB3.mod m18 (by intro k hk h; first | omega | (dsimp only at hk h; omega) | (dsimp only at hk; omega))
            replace hS4 := hS4.mod m18 (by intro k hk h; first | omega | (dsimp only at hk h; omega) | (dsimp only at hk; omega))
            replace OXw := OXw.mod m18 (by intro k hk h; first | omega | (dsimp only at hk h; omega) | (dsimp only at hk; omega))
            replace hRw := hRw.mod m18 (by intro k hk h; first | omega | (dsimp only at hk h; omega) | (dsimp only at hk; omega))
            replace OXg := OXg.mod m18 (by intro k hk h; first | omega | (dsimp only at hk h; omega) | (dsimp only at hk; omega))
            replace hRg := hRg.mod m18 (by intro k hk h; first | omega | (dsimp only at hk h; omega) | (dsimp only at hk; omega))
            replace hA13 := hA13.mod m18 (by intro k hk h; first | omega | (dsimp only at hk h; omega) | (dsimp only at hk; omega))
            replace hB13 := hB13.mod m18 (by intro k hk h; first | omega | (dsimp only at hk h; omega) | (dsimp only at hk; omega))
            replace hS15 := hS15.mod m18 (by intro k hk h; first | omega | (dsimp only at hk h; omega) | (dsimp only at hk; omega))
            replace B1 := B1.mod m18 (by intro h; first | omega | (dsimp only at h; omega))
            replace B4 := B4.mod m18 (by intro h; first | omega | (dsimp only at h; omega))
            replace B7 := B7.mod m18 (by intro h; first | omega | (dsimp only at h; omega))
            replace B15 := B15.mod m18 (by intro h; first | omega | (dsimp only at h; omega))
            have zm18 := m18.size
            refine S_val (Y_assign rfl) ?_
            refine S_nil (L' := (_ :: _ :: _ :: _ :: _ :: _ :: _ :: _ :: _ :: _ :: _ :: _ :: _ :: _ :: _ :: _ :: _ :: _ :: _ :: _ :: _ :: _ :: _ :: _ :: _ :: _ :: _ :: _ :: _ :: _ :: _ :: _ :: _ :: _ :: _ :: _ :: _ :: _ :: _ :: _ :: _ :: _ :: _ :: _ :: _ :: _ :: _ :: _ :: _ :: _ :: _ :: _ :: _ :: _ :: _ :: _ :: _ :: _ :: _ :: _ :: _ :: _ :: _ :: _ :: _ :: _ :: _ :: _ :: _ :: _ :: _ :: _ :: _ :: _ :: _ :: _ :: _ :: _ :: _ :: _ :: _ :: _ :: _ :: _ :: _ :: _ :: _ :: _ :: _ :: _ :: [])) rfl rfl ?_
            refine th_n ?_
            refine hK22 _ _ ?_
            clear hK22 K22
            refine wp_seq_k fun K23 hK23 => ?_
            refine wp_seq_k fun K24 hK24 => ?_
            refine wp_region_lit ?_  -- region 20 exact.go:1248
            refine S_beg 90 rfl ?_
            refine S_val (Y_move rfl) ?_
            refine S_val (Y_lss rfl rfl) ?_
            refine S_val (Y_move rfl) ?_
            refine S_g 56 rfl (fun hb6 => ?_) (fun hb6 => ?_)  -- g1
            · -- g1T
              first | with_reducible (replace hb6 := nb_nt hb6) | with_reducible (replace hb6 := nb_nf hb6) | with_reducible (replace hb6 := nb_tt hb6) | with_reducible (replace hb6 := nb_tf hb6) | with_reducible (replace hb6 := nb_bt hb6) | with_reducible (replace hb6 := nb_bf hb6) | skip
              omega
            · -- g1F
              first | with_reducible (replace hb6 := nb_nt hb6) | with_reducible (replace hb6 := nb_nf hb6) | with_reducible (replace hb6 := nb_tt hb6) | with_reducible (replace hb6 := nb_tf hb6) | with_reducible (replace hb6 := nb_bt hb6) | with_reducible (replace hb6 := nb_bf hb6) | skip
              refine S_on rfl rfl ?_
              refine S_val (Y_move rfl) ?_
              refine S_on rfl rfl ?_
              refine S_val (Y_move rfl) ?_
              refine S_on rfl rfl ?_
              refine S_call rfl en19 (laws_eqIntS_c _ _ _ _ _ _ _ _ _ (by assumption) (by assumption) (by omega)) ?_  -- k15 laws.eqIntS
              rintro v19 w19 ⟨rfl, g19⟩
              replace hA := hA.grow g19
              replace hB := hB.grow g19
              replace hC := hC.grow g19
              replace hA3 := hA3.grow g19
              replace hB3 := hB3.grow g19
              replace hS4 := hS4.grow g19
              replace OXw := OXw.grow g19
              replace hRw := hRw.grow g19
              replace OXg := OXg.grow g19
              replace hRg := hRg.grow g19
              replace hA13 := hA13.grow g19
              replace hB13 := hB13.grow g19
              replace hS15 := hS15.grow g19
              replace G := G.grow g19
              replace B1 := B1.grow g19
              replace B4 := B4.grow g19
              replace B7 := B7.grow g19
              replace B15 := B15.grow g19
              have zg19 := g19.size
              refine S_on rfl rfl ?_
              refine S_val (Y_not rfl) ?_
              refine S_val (Y_pickF rfl rfl) ?_
              refine S_nil (L' := (_ :: _ :: _ :: _ :: _ :: _ :: _ :: _ :: _ :: _ :: _ :: _ :: _ :: _ :: _ :: _ :: _ :: _ :: _ :: _ :: _ :: _ :: _ :: _ :: _ :: _ :: _ :: _ :: _ :: _ :: _ :: _ :: _ :: _ :: _ :: _ :: _ :: _ :: _ :: _ :: _ :: _ :: _ :: _ :: _ :: _ :: _ :: _ :: _ :: _ :: _ :: _ :: _ :: _ :: _ :: _ :: _ :: _ :: _ :: _ :: _ :: _ :: _ :: _ :: _ :: _ :: _ :: _ :: _ :: _ :: _ :: _ :: _ :: _ :: _ :: _ :: _ :: _ :: _ :: _ :: _ :: _ :: _ :: _ :: _ :: _ :: _ :: _ :: _ :: _ :: [])) rfl rfl ?_
              refine th_n ?_
              refine hK24 _ _ ?_
              clear hK24 K24
              refine S_if rfl (fun hb7 => ?_) (fun hb7 => ?_)  -- c6
              · -- c6T
                first | with_reducible (replace hb7 := nb_nt hb7) | with_reducible (replace hb7 := nb_nf hb7) | with_reducible (replace hb7 := nb_tt hb7) | with_reducible (replace hb7 := nb_tf hb7) | with_reducible (replace hb7 := nb_bt hb7) | with_reducible (replace hb7 := nb_bf hb7) | skip
                exact absurd rfl hb7
              · -- c6F
                first | with_reducible (replace hb7 := nb_nt hb7) | with_reducible (replace hb7 := nb_nf hb7) | with_reducible (replace hb7 := nb_tt hb7) | with_reducible (replace hb7 := nb_tf hb7) | with_reducible (replace hb7 := nb_bt hb7) | with_reducible (replace hb7 := nb_bf hb7) | skip
                refine wp_skip ?_
                refine th_n ?_
                refine hK23 _ _ ?_
                clear hK23 K23
                refine wp_seq_k fun K25 hK25 => ?_
                refine wp_region_lit ?_  -- region 22 exact.go:1251
                refine S_beg 90 rfl ?_
                refine S_val (Y_assign rfl) ?_
                refine S_nil (L' := (_ :: _ :: _ :: _ :: _ :: _ :: _ :: _ :: _ :: _ :: _ :: _ :: _ :: _ :: _ :: _ :: _ :: _ :: _ :: _ :: _ :: _ :: _ :: _ :: _ :: _ :: _ :: _ :: _ :: _ :: _ :: _ :: _ :: _ :: _ :: _ :: _ :: _ :: _ :: _ :: _ :: _ :: _ :: _ :: _ :: _ :: _ :: _ :: _ :: _ :: _ :: _ :: _ :: _ :: _ :: _ :: _ :: _ :: _ :: _ :: _ :: _ :: _ :: _ :: _ :: _ :: _ :: _ :: _ :: _ :: _ :: _ :: _ :: _ :: _ :: _ :: _ :: _ :: _ :: _ :: _ :: _ :: _ :: _ :: _ :: _ :: _ :: _ :: _ :: _ :: [])) rfl rfl ?_
                refine th_n ?_
                refine hK25 _ _ ?_
                clear hK25 K25
                refine wp_seq_k fun K26 hK26 => ?_
                refine wp_region_lit ?_  -- region 23 exact.go:1252
                refine S_beg 90 rfl ?_
                refine S_val (Y_move rfl) ?_
                refine S_val (Y_move rfl) ?_
                refine S_call rfl en22 (markIntS_p _ _ _ _ _ _ _ OXg rfl (by omega) ⟨by omega, by omega⟩) ?_  -- k16 laws.markIntS
                rintro v20 w20 ⟨rfl, O20, m20⟩
                replace G := G.above m20 (by intro i h; first | omega | (dsimp only at h; omega))
                replace hA := hA0.grow G
                replace hB := hB0.grow G
                replace hC := hC0.grow G
                replace hA3 := hA3.mod m20 (by intro k hk h; first | omega | (dsimp only at hk h; omega) | (dsimp only at hk; omega))
                replace hB3 := hB3.mod m20 (by intro k hk h; first | omega | (dsimp only at hk h; omega) | (dsimp only at hk; omega))
                replace hS4 := hS4.mod m20 (by intro k hk h; first | omega | (dsimp only at hk h; omega) | (dsimp only at hk; omega))
                replace OXw := OXw.mod m20 (by intro k hk h; first | omega | (dsimp only at hk h; omega) | (dsimp only at hk; omega))
                replace hRw := hRw.mod m20 (by intro k hk h; first | omega | (dsimp only at hk h; omega) | (dsimp only at hk; omega))
                replace hA13 := hA13.mod m20 (by intro k hk h; first | omega | (dsimp only at hk h; omega) | (dsimp only at hk; omega))
                replace hB13 := hB13.mod m20 (by intro k hk h; first | omega | (dsimp only at hk h; omega) | (dsimp only at hk; omega))
                replace hS15 := hS15.mod m20 (by intro k hk h; first | omega | (dsimp only at hk h; omega) | (dsimp only at hk; omega))
                replace B1 := B1.mod m20 (by intro h; first | omega | (dsimp only at h; omega))
                replace B4 := B4.mod m20 (by intro h; first | omega | (dsimp only at h; omega))
                replace B7 := B7.mod m20 (by intro h; first | omega | (dsimp only at h; omega))
                replace B15 := B15.mod m20 (by intro h; first | omega | (dsimp only at h; omega))
                have zm20 := m20.size
                have hM := O20.r1
                refine S_val (Y_assign rfl) ?_
                refine S_nil (L' := (_ :: _ :: _ :: _ :: _ :: _ :: _ :: _ :: _ :: _ :: _ :: _ :: _ :: _ :: _ :: _ :: _ :: _ :: _ :: _ :: _ :: _ :: _ :: _ :: _ :: _ :: _ :: _ :: _ :: _ :: _ :: _ :: _ :: _ :: _ :: _ :: _ :: _ :: _ :: _ :: _ :: _ :: _ :: _ :: _ :: _ :: _ :: _ :: _ :: _ :: _ :: _ :: _ :: _ :: _ :: _ :: _ :: _ :: _ :: _ :: _ :: _ :: _ :: _ :: _ :: _ :: _ :: _ :: _ :: _ :: _ :: _ :: _ :: _ :: _ :: _ :: _ :: _ :: _ :: _ :: _ :: _ :: _ :: _ :: _ :: _ :: _ :: _ :: _ :: _ :: [])) rfl rfl ?_
                refine th_n ?_
                refine hK26 _ _ ?_
                clear hK26 K26
                refine wp_seq_k fun K27 hK27 => ?_
                refine wp_region_lit ?_  -- region 24 exact.go:1253
                refine S_beg 90 rfl ?_
                refine S_val (Y_assign rfl) ?_
                refine S_nil (L' := (_ :: _ :: _ :: _ :: _ :: _ :: _ :: _ :: _ :: _ :: _ :: _ :: _ :: _ :: _ :: _ :: _ :: _ :: _ :: _ :: _ :: _ :: _ :: _ :: _ :: _ :: _ :: _ :: _ :: _ :: _ :: _ :: _ :: _ :: _ :: _ :: _ :: _ :: _ :: _ :: _ :: _ :: _ :: _ :: _ :: _ :: _ :: _ :: _ :: _ :: _ :: _ :: _ :: _ :: _ :: _ :: _ :: _ :: _ :: _ :: _ :: _ :: _ :: _ :: _ :: _ :: _ :: _ :: _ :: _ :: _ :: _ :: _ :: _ :: _ :: _ :: _ :: _ :: _ :: _ :: _ :: _ :: _ :: _ :: _ :: _ :: _ :: _ :: _ :: _ :: [])) rfl rfl ?_
                refine th_n ?_
                refine hK27 _ _ ?_
                clear hK27 K27
                refine wp_seq_k fun K28 hK28 => ?_
                refine wp_region_lit ?_  -- region 25 exact.go:1254
                refine S_beg 90 rfl ?_
                refine S_val (Y_move rfl) ?_
                refine S_val (Y_move rfl) ?_
                refine S_call rfl en23 (laws_heldIntS_c _ _ _ _ _ _ hM (by omega) ⟨by omega, by omega⟩) ?_  -- k17 laws.heldIntS
                rintro v21 w21 ⟨rfl, g21⟩
                replace hA := hA.grow g21
                replace hB := hB.grow g21
                replace hC := hC.grow g21
                replace hA3 := hA3.grow g21
                replace hB3 := hB3.grow g21
                replace hS4 := hS4.grow g21
                replace OXw := OXw.grow g21
                replace hRw := hRw.grow g21
                replace hA13 := hA13.grow g21
                replace hB13 := hB13.grow g21
                replace hS15 := hS15.grow g21
                replace hM := hM.grow g21
                replace G := G.grow g21
                replace B1 := B1.grow g21
                replace B4 := B4.grow g21
                replace B7 := B7.grow g21
                replace B15 := B15.grow g21
                have zg21 := g21.size
                refine S_val (Y_assign rfl) ?_
                refine S_nil (L' := (_ :: _ :: _ :: _ :: _ :: _ :: _ :: _ :: _ :: _ :: _ :: _ :: _ :: _ :: _ :: _ :: _ :: _ :: _ :: _ :: _ :: _ :: _ :: _ :: _ :: _ :: _ :: _ :: _ :: _ :: _ :: _ :: _ :: _ :: _ :: _ :: _ :: _ :: _ :: _ :: _ :: _ :: _ :: _ :: _ :: _ :: _ :: _ :: _ :: _ :: _ :: _ :: _ :: _ :: _ :: _ :: _ :: _ :: _ :: _ :: _ :: _ :: _ :: _ :: _ :: _ :: _ :: _ :: _ :: _ :: _ :: _ :: _ :: _ :: _ :: _ :: _ :: _ :: _ :: _ :: _ :: _ :: _ :: _ :: _ :: _ :: _ :: _ :: _ :: _ :: [])) rfl rfl ?_
                refine th_n ?_
                refine hK28 _ _ ?_
                clear hK28 K28
                refine wp_seq_k fun K29 hK29 => ?_
                refine wp_seq_k fun K30 hK30 => ?_
                refine wp_region_lit ?_  -- region 26 exact.go:1255
                refine S_beg 90 rfl ?_
                refine S_val (Y_move rfl) ?_
                refine S_val (Y_lss rfl rfl) ?_
                refine S_nil (L' := (_ :: _ :: _ :: _ :: _ :: _ :: _ :: _ :: _ :: _ :: _ :: _ :: _ :: _ :: _ :: _ :: _ :: _ :: _ :: _ :: _ :: _ :: _ :: _ :: _ :: _ :: _ :: _ :: _ :: _ :: _ :: _ :: _ :: _ :: _ :: _ :: _ :: _ :: _ :: _ :: _ :: _ :: _ :: _ :: _ :: _ :: _ :: _ :: _ :: _ :: _ :: _ :: _ :: _ :: _ :: _ :: _ :: _ :: _ :: _ :: _ :: _ :: _ :: _ :: _ :: _ :: _ :: _ :: _ :: _ :: _ :: _ :: _ :: _ :: _ :: _ :: _ :: _ :: _ :: _ :: _ :: _ :: _ :: _ :: _ :: _ :: _ :: _ :: _ :: _ :: [])) rfl rfl ?_
                refine th_n ?_
                refine hK30 _ _ ?_
                clear hK30 K30
                refine S_if rfl (fun hb8 => ?_) (fun hb8 => ?_)  -- c7
                · -- c7T
                  first | with_reducible (replace hb8 := nb_nt hb8) | with_reducible (replace hb8 := nb_nf hb8) | with_reducible (replace hb8 := nb_tt hb8) | with_reducible (replace hb8 := nb_tf hb8) | with_reducible (replace hb8 := nb_bt hb8) | with_reducible (replace hb8 := nb_bf hb8) | skip
                  omega
                · -- c7F
                  first | with_reducible (replace hb8 := nb_nt hb8) | with_reducible (replace hb8 := nb_nf hb8) | with_reducible (replace hb8 := nb_tt hb8) | with_reducible (replace hb8 := nb_tf hb8) | with_reducible (replace hb8 := nb_bt hb8) | with_reducible (replace hb8 := nb_bf hb8) | skip
                  refine wp_skip ?_
                  refine th_n ?_
                  refine hK29 _ _ ?_
                  clear hK29 K29
                  refine wp_seq_k fun K31 hK31 => ?_
                  refine wp_seq_k fun K32 hK32 => ?_
                  refine wp_region_lit ?_  -- region 28 exact.go:1258
                  refine S_beg 90 rfl ?_
                  refine S_val (Y_move rfl) ?_
                  refine S_val (Y_move rfl) ?_
                  refine S_val (Y_neq rfl rfl) ?_
                  refine S_nil (L' := (_ :: _ :: _ :: _ :: _ :: _ :: _ :: _ :: _ :: _ :: _ :: _ :: _ :: _ :: _ :: _ :: _ :: _ :: _ :: _ :: _ :: _ :: _ :: _ :: _ :: _ :: _ :: _ :: _ :: _ :: _ :: _ :: _ :: _ :: _ :: _ :: _ :: _ :: _ :: _ :: _ :: _ :: _ :: _ :: _ :: _ :: _ :: _ :: _ :: _ :: _ :: _ :: _ :: _ :: _ :: _ :: _ :: _ :: _ :: _ :: _ :: _ :: _ :: _ :: _ :: _ :: _ :: _ :: _ :: _ :: _ :: _ :: _ :: _ :: _ :: _ :: _ :: _ :: _ :: _ :: _ :: _ :: _ :: _ :: _ :: _ :: _ :: _ :: _ :: _ :: [])) rfl rfl ?_
                  refine th_n ?_
                  refine hK32 _ _ ?_
                  clear hK32 K32
                  refine S_if rfl (fun hb9 => ?_) (fun hb9 => ?_)  -- c8
                  · -- c8T
                    first | with_reducible (replace hb9 := nb_nt hb9) | with_reducible (replace hb9 := nb_nf hb9) | with_reducible (replace hb9 := nb_tt hb9) | with_reducible (replace hb9 := nb_tf hb9) | with_reducible (replace hb9 := nb_bt hb9) | with_reducible (replace hb9 := nb_bf hb9) | skip
                    exact absurd rfl hb9
                  · -- c8F
                    first | with_reducible (replace hb9 := nb_nt hb9) | with_reducible (replace hb9 := nb_nf hb9) | with_reducible (replace hb9 := nb_tt hb9) | with_reducible (replace hb9 := nb_tf hb9) | with_reducible (replace hb9 := nb_bt hb9) | with_reducible (replace hb9 := nb_bf hb9) | skip
                    refine wp_skip ?_
                    refine th_n ?_
                    refine hK31 _ _ ?_
                    clear hK31 K31
                    refine wp_seq_k fun K33 hK33 => ?_
                    refine wp_region_lit ?_  -- region 30 exact.go:1261
                    refine S_beg 90 rfl ?_
                    refine S_val (Y_loadS Try.underlying25 rfl sz25 rfl (by first | assumption | exact B1.row (by rfl) | exact B4.row (by rfl) | exact B7.row (by rfl) | exact B15.row (by rfl))) ?_  -- l8
                    refine S_call rfl en17 (laws_toHeap_c _ _ _ _ _ _ _ (by assumption) (by assumption) (by omega)) ?_  -- k18 laws.toHeap
                    rintro v22 w22 ⟨a22, b22, rs22, rfl, O22, g22⟩
                    replace hA := hA.grow g22
                    replace hB := hB.grow g22
                    replace hC := hC.grow g22
                    replace hA3 := hA3.grow g22
                    replace hB3 := hB3.grow g22
                    replace hS4 := hS4.grow g22
                    replace OXw := OXw.grow g22
                    replace hRw := hRw.grow g22
                    replace hA13 := hA13.grow g22
                    replace hB13 := hB13.grow g22
                    replace hS15 := hS15.grow g22
                    replace hM := hM.grow g22
                    replace G := G.grow g22
                    replace B1 := B1.grow g22
                    replace B4 := B4.grow g22
                    replace B7 := B7.grow g22
                    replace B15 := B15.grow g22
                    have zg22 := g22.size
                    replace O22 := O22.lt
                    have hA22 := O22.rc
                    have hB22 := O22.r1
                    refine S_val (Y_move rfl) ?_
                    refine S_call rfl en52 (laws_toBoolS_c _ _ _ _ _ (by assumption) (by omega)) ?_  -- k19 laws.toBoolS
                    rintro v23 w23 ⟨b23, rfl, fb23, B23, g23⟩
                    replace hA := hA.grow g23
                    replace hB := hB.grow g23
                    replace hC := hC.grow g23
                    replace hA3 := hA3.grow g23
                    replace hB3 := hB3.grow g23
                    replace hS4 := hS4.grow g23
                    replace OXw := OXw.grow g23
                    replace hRw := hRw.grow g23
                    replace hA13 := hA13.grow g23
                    replace hB13 := hB13.grow g23
                    replace hS15 := hS15.grow g23
                    replace hM := hM.grow g23
                    replace hA22 := hA22.grow g23
                    replace hB22 := hB22.grow g23
                    replace G := G.grow g23
                    replace B1 := B1.grow g23
                    replace B4 := B4.grow g23
                    replace B7 := B7.grow g23
                    replace B15 := B15.grow g23
                    have zg23 := g23.size
                    have lb23 := B23.lt
                    have hS23 := R1.of_blkE B23
                    refine S_call rfl en53 (impl_TrialCounts_c _ _ _ _ _ _ _ _ _ _ _ (by assumption) (by assumption) (by assumption) (by omega) (by omega)) ?_  -- k20 impl.TrialCounts
                    rintro v24 w24 ⟨A24, q24, cap24, rfl, hq24, O24, g24⟩
                    replace hA := hA.grow g24
                    replace hB := hB.grow g24
                    replace hC := hC.grow g24
                    replace hA3 := hA3.grow g24
                    replace hB3 := hB3.grow g24
                    replace hS4 := hS4.grow g24
                    replace OXw := OXw.grow g24
                    replace hRw := hRw.grow g24
                    replace hA13 := hA13.grow g24
                    replace hB13 := hB13.grow g24
                    replace hS15 := hS15.grow g24
                    replace hM := hM.grow g24
                    replace hA22 := hA22.grow g24
                    replace hB22 := hB22.grow g24
                    replace hS23 := hS23.grow g24
                    replace G := G.grow g24
                    replace B1 := B1.grow g24
                    replace B4 := B4.grow g24
                    replace B7 := B7.grow g24
                    replace B15 := B15.grow g24
                    replace B23 := B23.grow g24
                    have zg24 := g24.size
                    subst hq24
                    replace O24 := O24.lt
                    have OXh := O24
                    have hRh := OXh.r1
                    refine S_val (Y_assign rfl) ?_
                    refine S_nil (L' := (_ :: _ :: _ :: _ :: _ :: _ :: _ :: _ :: _ :: _ :: _ :: _ :: _ :: _ :: _ :: _ :: _ :: _ :: _ :: _ :: _ :: _ :: _ :: _ :: _ :: _ :: _ :: _ :: _ :: _ :: _ :: _ :: _ :: _ :: _ :: _ :: _ :: _ :: _ :: _ :: _ :: _ :: _ :: _ :: _ :: _ :: _ :: _ :: _ :: _ :: _ :: _ :: _ :: _ :: _ :: _ :: _ :: _ :: _ :: _ :: _ :: _ :: _ :: _ :: _ :: _ :: _ :: _ :: _ :: _ :: _ :: _ :: _ :: _ :: _ :: _ :: _ :: _ :: _ :: _ :: _ :: _ :: _ :: _ :: _ :: _ :: _ :: _ :: _ :: _ :: [])) rfl rfl ?_
                    refine th_n ?_
                    refine hK33 _ _ ?_
                    clear hK33 K33
                    refine wp_seq_k fun K34 hK34 => ?_
                    refine wp_seq_k fun K35 hK35 => ?_
                    refine wp_region_lit ?_  -- region 31 exact.go:1262
                    refine S_beg 90 rfl ?_
                    refine S_val (Y_move rfl) ?_
                    refine S_val (Y_move rfl) ?_
                    refine S_call rfl en19 (laws_eqIntS_c _ _ _ _ _ _ _ _ _ (by assumption) (by assumption) (by omega)) ?_  -- k21 laws.eqIntS
                    rintro v25 w25 ⟨rfl, g25⟩
                    replace hA := hA.grow g25
                    replace hB := hB.grow g25
                    replace hC := hC.grow g25
                    replace hA3 := hA3.grow g25
                    replace hB3 := hB3.grow g25
                    replace hS4 := hS4.grow g25
                    replace OXw := OXw.grow g25
                    replace hRw := hRw.grow g25
                    replace hA13 := hA13.grow g25
                    replace hB13 := hB13.grow g25
                    replace hS15 := hS15.grow g25
                    replace hM := hM.grow g25
                    replace hA22 := hA22.grow g25
                    replace hB22 := hB22.grow g25
                    replace hS23 := hS23.grow g25
                    replace OXh := OXh.grow g25
                    replace hRh := hRh.grow g25
                    replace G := G.grow g25
                    replace B1 := B1.grow g25
                    replace B4 := B4.grow g25
                    replace B7 := B7.grow g25
                    replace B15 := B15.grow g25
                    replace B23 := B23.grow g25
                    have zg25 := g25.size
                    refine S_val (Y_not rfl) ?_
                    refine S_nil (L' := (_ :: _ :: _ :: _ :: _ :: _ :: _ :: _ :: _ :: _ :: _ :: _ :: _ :: _ :: _ :: _ :: _ :: _ :: _ :: _ :: _ :: _ :: _ :: _ :: _ :: _ :: _ :: _ :: _ :: _ :: _ :: _ :: _ :: _ :: _ :: _ :: _ :: _ :: _ :: _ :: _ :: _ :: _ :: _ :: _ :: _ :: _ :: _ :: _ :: _ :: _ :: _ :: _ :: _ :: _ :: _ :: _ :: _ :: _ :: _ :: _ :: _ :: _ :: _ :: _ :: _ :: _ :: _ :: _ :: _ :: _ :: _ :: _ :: _ :: _ :: _ :: _ :: _ :: _ :: _ :: _ :: _ :: _ :: _ :: _ :: _ :: _ :: _ :: _ :: _ :: [])) rfl rfl ?_
                    refine th_n ?_
                    refine hK35 _ _ ?_
                    clear hK35 K35
                    refine S_if rfl (fun hb10 => ?_) (fun hb10 => ?_)  -- c9
                    · -- c9T
                      first | with_reducible (replace hb10 := nb_nt hb10) | with_reducible (replace hb10 := nb_nf hb10) | with_reducible (replace hb10 := nb_tt hb10) | with_reducible (replace hb10 := nb_tf hb10) | with_reducible (replace hb10 := nb_bt hb10) | with_reducible (replace hb10 := nb_bf hb10) | skip
                      exact absurd rfl hb10
                    · -- c9F
                      first | with_reducible (replace hb10 := nb_nt hb10) | with_reducible (replace hb10 := nb_nf hb10) | with_reducible (replace hb10 := nb_tt hb10) | with_reducible (replace hb10 := nb_tf hb10) | with_reducible (replace hb10 := nb_bt hb10) | with_reducible (replace hb10 := nb_bf hb10) | skip
                      refine wp_skip ?_
                      refine th_n ?_
                      refine hK34 _ _ ?_
                      clear hK34 K34
                      refine wp_seq_k fun K36 hK36 => ?_
                      refine wp_region_lit ?_  -- region 33 exact.go:1265
                      refine S_beg 90 rfl ?_
                      refine S_val (Y_assign rfl) ?_
                      refine S_nil (L' := (_ :: _ :: _ :: _ :: _ :: _ :: _ :: _ :: _ :: _ :: _ :: _ :: _ :: _ :: _ :: _ :: _ :: _ :: _ :: _ :: _ :: _ :: _ :: _ :: _ :: _ :: _ :: _ :: _ :: _ :: _ :: _ :: _ :: _ :: _ :: _ :: _ :: _ :: _ :: _ :: _ :: _ :: _ :: _ :: _ :: _ :: _ :: _ :: _ :: _ :: _ :: _ :: _ :: _ :: _ :: _ :: _ :: _ :: _ :: _ :: _ :: _ :: _ :: _ :: _ :: _ :: _ :: _ :: _ :: _ :: _ :: _ :: _ :: _ :: _ :: _ :: _ :: _ :: _ :: _ :: _ :: _ :: _ :: _ :: _ :: _ :: _ :: _ :: _ :: _ :: [])) rfl rfl ?_
                      refine th_n ?_
                      refine hK36 _ _ ?_
                      clear hK36 K36
                      refine wp_seq_k fun K37 hK37 => ?_
                      refine wp_region_lit ?_  -- region 34 exact.go:1266
                      refine S_beg 90 rfl ?_
                      refine S_val (Y_move rfl) ?_
                      refine S_val (Y_move rfl) ?_
                      refine S_call rfl en23 (laws_heldIntS_c _ _ _ _ _ _ hM (by omega) ⟨by omega, by omega⟩) ?_  -- k22 laws.heldIntS
                      rintro v26 w26 ⟨rfl, g26⟩
                      replace hA := hA.grow g26
                      replace hB := hB.grow g26
                      replace hC := hC.grow g26
                      replace hA3 := hA3.grow g26
                      replace hB3 := hB3.grow g26
                      replace hS4 := hS4.grow g26
                      replace OXw := OXw.grow g26
                      replace hRw := hRw.grow g26
                      replace hA13 := hA13.grow g26
                      replace hB13 := hB13.grow g26
                      replace hS15 := hS15.grow g26
                      replace hM := hM.grow g26
                      replace hA22 := hA22.grow g26
                      replace hB22 := hB22.grow g26
                      replace hS23 := hS23.grow g26
                      replace OXh := OXh.grow g26
                      replace hRh := hRh.grow g26
                      replace G := G.grow g26
                      replace B1 := B1.grow g26
                      replace B4 := B4.grow g26
                      replace B7 := B7.grow g26
                      replace B15 := B15.grow g26
                      replace B23 := B23.grow g26
                      have zg26 := g26.size
                      refine S_val (Y_assign rfl) ?_
                      refine S_nil (L' := (_ :: _ :: _ :: _ :: _ :: _ :: _ :: _ :: _ :: _ :: _ :: _ :: _ :: _ :: _ :: _ :: _ :: _ :: _ :: _ :: _ :: _ :: _ :: _ :: _ :: _ :: _ :: _ :: _ :: _ :: _ :: _ :: _ :: _ :: _ :: _ :: _ :: _ :: _ :: _ :: _ :: _ :: _ :: _ :: _ :: _ :: _ :: _ :: _ :: _ :: _ :: _ :: _ :: _ :: _ :: _ :: _ :: _ :: _ :: _ :: _ :: _ :: _ :: _ :: _ :: _ :: _ :: _ :: _ :: _ :: _ :: _ :: _ :: _ :: _ :: _ :: _ :: _ :: _ :: _ :: _ :: _ :: _ :: _ :: _ :: _ :: _ :: _ :: _ :: _ :: [])) rfl rfl ?_
                      refine th_n ?_
                      refine hK37 _ _ ?_
                      clear hK37 K37
                      refine wp_seq_k fun K38 hK38 => ?_
                      refine wp_seq_k fun K39 hK39 => ?_
                      refine wp_region_lit ?_  -- region 35 exact.go:1267
                      refine S_beg 90 rfl ?_
                      refine S_val (Y_move rfl) ?_
                      refine S_val (Y_lss rfl rfl) ?_
                      refine S_nil (L' := (_ :: _ :: _ :: _ :: _ :: _ :: _ :: _ :: _ :: _ :: _ :: _ :: _ :: _ :: _ :: _ :: _ :: _ :: _ :: _ :: _ :: _ :: _ :: _ :: _ :: _ :: _ :: _ :: _ :: _ :: _ :: _ :: _ :: _ :: _ :: _ :: _ :: _ :: _ :: _ :: _ :: _ :: _ :: _ :: _ :: _ :: _ :: _ :: _ :: _ :: _ :: _ :: _ :: _ :: _ :: _ :: _ :: _ :: _ :: _ :: _ :: _ :: _ :: _ :: _ :: _ :: _ :: _ :: _ :: _ :: _ :: _ :: _ :: _ :: _ :: _ :: _ :: _ :: _ :: _ :: _ :: _ :: _ :: _ :: _ :: _ :: _ :: _ :: _ :: _ :: [])) rfl rfl ?_
                      refine th_n ?_
                      refine hK39 _ _ ?_
                      clear hK39 K39
                      refine S_if rfl (fun hb11 => ?_) (fun hb11 => ?_)  -- c10
                      · -- c10T
                        first | with_reducible (replace hb11 := nb_nt hb11) | with_reducible (replace hb11 := nb_nf hb11) | with_reducible (replace hb11 := nb_tt hb11) | with_reducible (replace hb11 := nb_tf hb11) | with_reducible (replace hb11 := nb_bt hb11) | with_reducible (replace hb11 := nb_bf hb11) | skip
                        omega
                      · -- c10F
                        first | with_reducible (replace hb11 := nb_nt hb11) | with_reducible (replace hb11 := nb_nf hb11) | with_reducible (replace hb11 := nb_tt hb11) | with_reducible (replace hb11 := nb_tf hb11) | with_reducible (replace hb11 := nb_bt hb11) | with_reducible (replace hb11 := nb_bf hb11) | skip
                        refine wp_skip ?_
                        refine th_n ?_
                        refine hK38 _ _ ?_
                        clear hK38 K38
                        refine wp_seq_k fun K40 hK40 => ?_
                        refine wp_seq_k fun K41 hK41 => ?_
                        refine wp_region_lit ?_  -- region 37 exact.go:1270
                        refine S_beg 90 rfl ?_
                        refine S_val (Y_move rfl) ?_
                        refine S_val (Y_move rfl) ?_
                        refine S_val (Y_neq rfl rfl) ?_
                        refine S_nil (L' := (_ :: _ :: _ :: _ :: _ :: _ :: _ :: _ :: _ :: _ :: _ :: _ :: _ :: _ :: _ :: _ :: _ :: _ :: _ :: _ :: _ :: _ :: _ :: _ :: _ :: _ :: _ :: _ :: _ :: _ :: _ :: _ :: _ :: _ :: _ :: _ :: _ :: _ :: _ :: _ :: _ :: _ :: _ :: _ :: _ :: _ :: _ :: _ :: _ :: _ :: _ :: _ :: _ :: _ :: _ :: _ :: _ :: _ :: _ :: _ :: _ :: _ :: _ :: _ :: _ :: _ :: _ :: _ :: _ :: _ :: _ :: _ :: _ :: _ :: _ :: _ :: _ :: _ :: _ :: _ :: _ :: _ :: _ :: _ :: _ :: _ :: _ :: _ :: _ :: _ :: [])) rfl rfl ?_
                        refine th_n ?_
                        refine hK41 _ _ ?_
                        clear hK41 K41
                        refine S_if rfl (fun hb12 => ?_) (fun hb12 => ?_)  -- c11
                        · -- c11T
                          first | with_reducible (replace hb12 := nb_nt hb12) | with_reducible (replace hb12 := nb_nf hb12) | with_reducible (replace hb12 := nb_tt hb12) | with_reducible (replace hb12 := nb_tf hb12) | with_reducible (replace hb12 := nb_bt hb12) | with_reducible (replace hb12 := nb_bf hb12) | skip
                          exact absurd rfl hb12
                        · -- c11F
                          first | with_reducible (replace hb12 := nb_nt hb12) | with_reducible (replace hb12 := nb_nf hb12) | with_reducible (replace hb12 := nb_tt hb12) | with_reducible (replace hb12 := nb_tf hb12) | with_reducible (replace hb12 := nb_bt hb12) | with_reducible (replace hb12 := nb_bf hb12) | skip
                          refine wp_skip ?_
                          refine th_n ?_
                          refine hK40 _ _ ?_
                          clear hK40 K40
                          refine wp_seq_k fun K42 hK42 => ?_
                          refine wp_region_lit ?_  -- region 39 exact.go:1273
                          refine S_beg 90 rfl ?_
                          refine S_val (Y_assign rfl) ?_
                          refine S_nil (L' := (_ :: _ :: _ :: _ :: _ :: _ :: _ :: _ :: _ :: _ :: _ :: _ :: _ :: _ :: _ :: _ :: _ :: _ :: _ :: _ :: _ :: _ :: _ :: _ :: _ :: _ :: _ :: _ :: _ :: _ :: _ :: _ :: _ :: _ :: _ :: _ :: _ :: _ :: _ :: _ :: _ :: _ :: _ :: _ :: _ :: _ :: _ :: _ :: _ :: _ :: _ :: _ :: _ :: _ :: _ :: _ :: _ :: _ :: _ :: _ :: _ :: _ :: _ :: _ :: _ :: _ :: _ :: _ :: _ :: _ :: _ :: _ :: _ :: _ :: _ :: _ :: _ :: _ :: _ :: _ :: _ :: _ :: _ :: _ :: _ :: _ :: _ :: _ :: _ :: _ :: [])) rfl rfl ?_
                          refine th_n ?_
                          refine hK42 _ _ ?_
                          clear hK42 K42
                          refine wp_ret ?_
                          refine ret_r1 rfl rfl ?_  -- r3
                          exact ⟨rfl, G⟩

end Go.Proofs.Ytdfifnplgbceaaa
