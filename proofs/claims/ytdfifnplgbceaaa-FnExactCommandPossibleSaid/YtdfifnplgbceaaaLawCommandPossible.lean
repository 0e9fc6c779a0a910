/-
  The law FnExactCommandPossible returns true.
  Conditions: those that each theorem states.
-/
import Derived.Test.YtdfifnplgbceaaaTy
import Derived.Test.YtdfifnplgbceaaaWalkW
namespace Go.Proofs.Ytdfifnplgbceaaa
open Go Go.RowKit
attribute [local irreducible] wpList wpAnyH Code.wp dOp

set_option maxHeartbeats 400000 in
set_option maxRecDepth 20000 in
theorem laws_FnExactCommandPossible_c (Pr : Nat → Prop) (A B : Option Addr) (h : LH) (c d : Nat) (oop oa ob oc : Int) (w : World) (hA : RC Pr w A h.cells) (hB : R1 Pr w B (ints h.roots)) (hn : h.cells.length ≤ 9223372036854775807) (hN : ∀ x ∈ h.cells, x.refs.length ≤ 9223372036854775807) (hm : h.roots.length ≤ 9223372036854775807) :
    Calls Try.prog 4 #[.agg #[.slice A h.cells.length c, .slice B h.roots.length d], .agg #[.int .i64 oop, .int .i64 oa, .int .i64 ob, .int .i64 oc]] w (Ret fun v w' => v = .bool true ∧ Grow w w') := by
  refine enter Try.func4 rfl Try.ntmps4 (L := (_ :: _ :: _ :: _ :: _ :: _ :: _ :: _ :: _ :: _ :: _ :: _ :: _ :: _ :: _ :: _ :: _ :: _ :: _ :: _ :: _ :: _ :: _ :: _ :: _ :: _ :: _ :: _ :: _ :: _ :: _ :: _ :: _ :: [])) rfl ?_
  have G := Mod.refl No w
  have hA0 := hA
  have hB0 := hB
  refine wp_seq_k fun K1 hK1 => ?_
  refine wp_region_lit ?_  -- region 0 exact.go:4790
  refine S_beg 33 rfl ?_
  refine S_box (cs := [_, _]) rfl rfl ?_
  intro b1 w1 fb1 g1 B1
  have lb1 := B1.lt
  replace hA := hA.grow g1
  replace hB := hB.grow g1
  replace G := G.grow g1
  have zg1 := g1.size
  refine S_box (cs := [_, _, _, _]) rfl rfl ?_
  intro b2 w2 fb2 g2 B2
  have lb2 := B2.lt
  replace hA := hA.grow g2
  replace hB := hB.grow g2
  replace G := G.grow g2
  replace B1 := B1.grow g2
  have zg2 := g2.size
  refine S_val (Y_assign rfl) ?_
  refine S_nil (L' := (_ :: _ :: _ :: _ :: _ :: _ :: _ :: _ :: _ :: _ :: _ :: _ :: _ :: _ :: _ :: _ :: _ :: _ :: _ :: _ :: _ :: _ :: _ :: _ :: _ :: _ :: _ :: _ :: _ :: _ :: _ :: _ :: _ :: [])) rfl rfl ?_
  refine th_n ?_
  refine hK1 _ _ ?_
  clear hK1 K1
  refine wp_seq_k fun K2 hK2 => ?_
  refine wp_region_lit ?_  -- region 1 exact.go:4791
  refine S_beg 33 rfl ?_
  refine S_val (Y_assign rfl) ?_
  refine S_nil (L' := (_ :: _ :: _ :: _ :: _ :: _ :: _ :: _ :: _ :: _ :: _ :: _ :: _ :: _ :: _ :: _ :: _ :: _ :: _ :: _ :: _ :: _ :: _ :: _ :: _ :: _ :: _ :: _ :: _ :: _ :: _ :: _ :: _ :: [])) rfl rfl ?_
  refine th_n ?_
  refine hK2 _ _ ?_
  clear hK2 K2
  refine wp_seq_k fun K3 hK3 => ?_
  refine wp_region_lit ?_  -- region 2 exact.go:4792
  refine S_beg 33 rfl ?_
  refine S_val (Y_loadS Try.underlying25 rfl sz25 rfl (by first | assumption | exact B1.row (by rfl) | exact B2.row (by rfl))) ?_  -- l1
  refine S_val (Y_move rfl) ?_
  refine S_call rfl en15 (laws_szHeap_c _ _ _ _ _ _ _ _ (by assumption) (by omega) (by assumption) (by omega) (by omega) (by omega)) ?_  -- k1 laws.szHeap
  rintro v3 w3 ⟨r3, rfl, hr3, g3⟩
  replace hA := hA.grow g3
  replace hB := hB.grow g3
  replace G := G.grow g3
  replace B1 := B1.grow g3
  replace B2 := B2.grow g3
  have zg3 := g3.size
  refine S_val (Y_assign rfl) ?_
  refine S_nil (L' := (_ :: _ :: _ :: _ :: _ :: _ :: _ :: _ :: _ :: _ :: _ :: _ :: _ :: _ :: _ :: _ :: _ :: _ :: _ :: _ :: _ :: _ :: _ :: _ :: _ :: _ :: _ :: _ :: _ :: _ :: _ :: _ :: _ :: [])) rfl rfl ?_
  refine th_n ?_
  refine hK3 _ _ ?_
  clear hK3 K3
  refine wp_seq_k fun K4 hK4 => ?_
  refine wp_seq_k fun K5 hK5 => ?_
  refine wp_region_lit ?_  -- region 3 exact.go:4793
  refine S_beg 33 rfl ?_
  refine S_val (Y_move rfl) ?_
  refine S_val (Y_lss rfl rfl) ?_
  refine S_nil (L' := (_ :: _ :: _ :: _ :: _ :: _ :: _ :: _ :: _ :: _ :: _ :: _ :: _ :: _ :: _ :: _ :: _ :: _ :: _ :: _ :: _ :: _ :: _ :: _ :: _ :: _ :: _ :: _ :: _ :: _ :: _ :: _ :: _ :: [])) rfl rfl ?_
  refine th_n ?_
  refine hK5 _ _ ?_
  clear hK5 K5
  refine S_if rfl (fun hb1 => ?_) (fun hb1 => ?_)  -- c1
  · -- c1T
    first | with_reducible (replace hb1 := nb_nt hb1) | with_reducible (replace hb1 := nb_nf hb1) | with_reducible (replace hb1 := nb_tt hb1) | with_reducible (replace hb1 := nb_tf hb1) | with_reducible (replace hb1 := nb_bt hb1) | with_reducible (replace hb1 := nb_bf hb1) | skip
    refine wp_seq_k fun K6 hK6 => ?_
    refine wp_region_lit ?_  -- region 4 exact.go:4794
    refine S_beg 33 rfl ?_
    refine S_val (Y_assign rfl) ?_
    refine S_nil (L' := (_ :: _ :: _ :: _ :: _ :: _ :: _ :: _ :: _ :: _ :: _ :: _ :: _ :: _ :: _ :: _ :: _ :: _ :: _ :: _ :: _ :: _ :: _ :: _ :: _ :: _ :: _ :: _ :: _ :: _ :: _ :: _ :: _ :: [])) rfl rfl ?_
    refine th_n ?_
    refine hK6 _ _ ?_
    clear hK6 K6
    refine wp_ret ?_
    refine th_r ?_
    clear hK4 K4
    refine ret_r1 rfl rfl ?_  -- r1
    exact ⟨rfl, G⟩
  · -- c1F
    first | with_reducible (replace hb1 := nb_nt hb1) | with_reducible (replace hb1 := nb_nf hb1) | with_reducible (replace hb1 := nb_tt hb1) | with_reducible (replace hb1 := nb_tf hb1) | with_reducible (replace hb1 := nb_bt hb1) | with_reducible (replace hb1 := nb_bf hb1) | skip
    have hz : hsize h ≤ 1048576 := by omega
    refine wp_skip ?_
    refine th_n ?_
    refine hK4 _ _ ?_
    clear hK4 K4
    refine wp_seq_k fun K7 hK7 => ?_
    refine D_start 6 33 (fun w => Mod (No) w) follows rfl rfl ?_  -- d1 region 5 exact.go:4796
    intro w4 g4
    replace hA := hA.grow g4
    replace hB := hB.grow g4
    replace G := G.grow g4
    replace B1 := B1.grow g4
    replace B2 := B2.grow g4
    have zg4 := g4.size
    have GS4 := Mod.refl (No) w4
    have B1d4 := B1
    have B2d4 := B2
    refine D_q (i := 0) rfl (by kernel_rfl) (fun _ _ _ h => h) GS4 (fun _ hs => Y_loadS Try.underlying25 rfl sz25 rfl (by first | exact hs.cells0 (by assumption) | exact hs.cells0 (B1.row (by rfl)) | exact hs.cells0 (B2.row (by rfl)) | exact hs.cells0 (B1d4.row (by rfl)) | exact hs.cells0 (B2d4.row (by rfl)))) ?_
    refine D_q (i := 2) rfl (by kernel_rfl) (fun _ _ _ h => h) GS4 (fun _ hs => Y_loadS Try.underlying38 rfl sz38 rfl (by first | exact hs.cells0 (by assumption) | exact hs.cells0 (B1.row (by rfl)) | exact hs.cells0 (B2.row (by rfl)) | exact hs.cells0 (B1d4.row (by rfl)) | exact hs.cells0 (B2d4.row (by rfl)))) ?_
    refine D_1 (i := 1) (by kernel_rfl) ?_
    refine E_call rfl rfl en17 (laws_toHeap_c _ _ _ _ _ _ _ (by assumption) (by assumption) (by omega)) ?_  -- k2 laws.toHeap
    rintro v5 w5 ⟨a5, b5, rs5, rfl, O5, g5⟩
    replace hA := hA.grow g5
    replace hB := hB.grow g5
    replace G := G.grow g5
    replace GS4 := GS4.grow g5
    replace B1 := B1.grow g5
    replace B2 := B2.grow g5
    have zg5 := g5.size
    replace O5 := O5.lt
    have hA5 := O5.rc
    have hB5 := O5.r1
    refine ⟨GS4, ?_⟩
    refine D_1 (i := 3) (by kernel_rfl) ?_
    refine E_call rfl rfl en25 (laws_toCommand_c _ _ _ _ _) ?_  -- k3 laws.toCommand
    rintro v6 w6 ⟨rfl, g6⟩
    replace hA := hA.grow g6
    replace hB := hB.grow g6
    replace O5 := O5.grow g6
    replace hA5 := hA5.grow g6
    replace hB5 := hB5.grow g6
    replace G := G.grow g6
    replace GS4 := GS4.grow g6
    replace B1 := B1.grow g6
    replace B2 := B2.grow g6
    have zg6 := g6.size
    refine ⟨GS4, ?_⟩
    refine D_1 (i := 4) (by kernel_rfl) ?_
    refine E_call rfl rfl en24 (spec_CommandPossible_c _ _ _ h _ _ _ _ _ _ _ (by assumption) (by assumption) (by omega)) ?_  -- k4 spec.CommandPossible
    rintro v7 w7 ⟨rfl, g7⟩
    replace hA := hA.grow g7
    replace hB := hB.grow g7
    replace O5 := O5.grow g7
    replace hA5 := hA5.grow g7
    replace hB5 := hB5.grow g7
    replace G := G.grow g7
    replace GS4 := GS4.grow g7
    replace B1 := B1.grow g7
    replace B2 := B2.grow g7
    have zg7 := g7.size
    refine ⟨GS4, ?_⟩
    refine D_q (i := 5) rfl (by kernel_rfl) (fun _ _ _ h => h) GS4 (fun _ _ => Y_assign rfl) ?_
    refine D_end (L' := (_ :: _ :: _ :: _ :: _ :: _ :: _ :: _ :: _ :: _ :: _ :: _ :: _ :: _ :: _ :: _ :: _ :: _ :: _ :: _ :: _ :: _ :: _ :: _ :: _ :: _ :: _ :: _ :: _ :: _ :: _ :: _ :: _ :: [])) (by kernel_rfl) rfl rfl ?_
    refine th_n ?_
    refine hK7 _ _ ?_
    clear hK7 K7
    refine wp_seq_k fun K8 hK8 => ?_
    refine wp_region_lit ?_  -- region 6 exact.go:4797
    refine S_beg 33 rfl ?_
    refine S_val (Y_loadS Try.underlying25 rfl sz25 rfl (by first | assumption | exact B1.row (by rfl) | exact B2.row (by rfl))) ?_  -- l4
    refine S_call rfl en17 (laws_toHeap_c _ _ _ _ _ _ _ (by assumption) (by assumption) (by omega)) ?_  -- k5 laws.toHeap
    rintro v8 w8 ⟨a8, b8, rs8, rfl, O8, g8⟩
    replace hA := hA.grow g8
    replace hB := hB.grow g8
    replace O5 := O5.grow g8
    replace hA5 := hA5.grow g8
    replace hB5 := hB5.grow g8
    replace G := G.grow g8
    replace B1 := B1.grow g8
    replace B2 := B2.grow g8
    have zg8 := g8.size
    replace O8 := O8.lt
    have hA8 := O8.rc
    have hB8 := O8.r1
    refine S_alloc (cs := [_, _]) zr30 rfl ?_
    intro b9 w9 fb9 g9 B9
    have lb9 := B9.lt
    replace hA := hA.grow g9
    replace hB := hB.grow g9
    replace O5 := O5.grow g9
    replace hA5 := hA5.grow g9
    replace hB5 := hB5.grow g9
    replace O8 := O8.grow g9
    replace hA8 := hA8.grow g9
    replace hB8 := hB8.grow g9
    replace G := G.grow g9
    replace B1 := B1.grow g9
    replace B2 := B2.grow g9
    have zg9 := g9.size
    refine S_stM (pre := []) (old := [_, _]) (post := []) (vs := [_, _]) sz30 rfl rfl rfl (by first | rfl | assumption) B9 rfl rfl ?_
    intro w10 m10 X10
    replace B9 := Blk.eq (ys := [_, _]) X10 rfl
    clear X10
    replace G := G.above m10 (by intro i h; first | omega | (dsimp only at h; omega))
    replace hA := hA0.grow G
    replace hB := hB0.grow G
    replace O5 := O5.mod m10 (by intro k hk h; first | omega | (dsimp only at hk h; omega) | (dsimp only at hk; omega))
    replace hA5 := hA5.mod m10 (by intro k hk h; first | omega | (dsimp only at hk h; omega) | (dsimp only at hk; omega))
    replace hB5 := hB5.mod m10 (by intro k hk h; first | omega | (dsimp only at hk h; omega) | (dsimp only at hk; omega))
    replace O8 := O8.mod m10 (by intro k hk h; first | omega | (dsimp only at hk h; omega) | (dsimp only at hk; omega))
    replace hA8 := hA8.mod m10 (by intro k hk h; first | omega | (dsimp only at hk h; omega) | (dsimp only at hk; omega))
    replace hB8 := hB8.mod m10 (by intro k hk h; first | omega | (dsimp only at hk h; omega) | (dsimp only at hk; omega))
    replace B1 := B1.mod m10 (by intro h; first | omega | (dsimp only at h; omega))
    replace B2 := B2.mod m10 (by intro h; first | omega | (dsimp only at h; omega))
    have zm10 := m10.size
    refine S_nil (L' := (_ :: _ :: _ :: _ :: _ :: _ :: _ :: _ :: _ :: _ :: _ :: _ :: _ :: _ :: _ :: _ :: _ :: _ :: _ :: _ :: _ :: _ :: _ :: _ :: _ :: _ :: _ :: _ :: _ :: _ :: _ :: _ :: _ :: [])) rfl rfl ?_
    refine th_n ?_
    refine hK8 _ _ ?_
    clear hK8 K8
    refine wp_seq_k fun K9 hK9 => ?_
    refine D_start 5 33 (fun w => Mod (No) w) follows rfl rfl ?_  -- d2 region 7 exact.go:4798
    intro w11 g11
    replace hA := hA.grow g11
    replace hB := hB.grow g11
    replace O5 := O5.grow g11
    replace hA5 := hA5.grow g11
    replace hB5 := hB5.grow g11
    replace O8 := O8.grow g11
    replace hA8 := hA8.grow g11
    replace hB8 := hB8.grow g11
    replace G := G.grow g11
    replace B1 := B1.grow g11
    replace B2 := B2.grow g11
    replace B9 := B9.grow g11
    have zg11 := g11.size
    have GS11 := Mod.refl (No) w11
    have B1d11 := B1
    have B2d11 := B2
    have B9d11 := B9
    refine D_q (i := 0) rfl (by kernel_rfl) (fun _ _ _ h => h) GS11 (fun _ hs => Y_loadS Try.underlying30 rfl sz30 rfl (by first | exact hs.cells0 (by assumption) | exact hs.cells0 (B1.row (by rfl)) | exact hs.cells0 (B2.row (by rfl)) | exact hs.cells0 (B9.row (by rfl)) | exact hs.cells0 (B1d11.row (by rfl)) | exact hs.cells0 (B2d11.row (by rfl)) | exact hs.cells0 (B9d11.row (by rfl)))) ?_
    refine D_q (i := 1) rfl (by kernel_rfl) (fun _ _ _ h => h) GS11 (fun _ hs => Y_loadS Try.underlying38 rfl sz38 rfl (by first | exact hs.cells0 (by assumption) | exact hs.cells0 (B1.row (by rfl)) | exact hs.cells0 (B2.row (by rfl)) | exact hs.cells0 (B9.row (by rfl)) | exact hs.cells0 (B1d11.row (by rfl)) | exact hs.cells0 (B2d11.row (by rfl)) | exact hs.cells0 (B9d11.row (by rfl)))) ?_
    refine D_1 (i := 2) (by kernel_rfl) ?_
    refine E_call rfl rfl en25 (laws_toCommand_c _ _ _ _ _) ?_  -- k6 laws.toCommand
    rintro v12 w12 ⟨rfl, g12⟩
    replace hA := hA.grow g12
    replace hB := hB.grow g12
    replace O5 := O5.grow g12
    replace hA5 := hA5.grow g12
    replace hB5 := hB5.grow g12
    replace O8 := O8.grow g12
    replace hA8 := hA8.grow g12
    replace hB8 := hB8.grow g12
    replace G := G.grow g12
    replace GS11 := GS11.grow g12
    replace B1 := B1.grow g12
    replace B2 := B2.grow g12
    replace B9 := B9.grow g12
    have zg12 := g12.size
    refine ⟨GS11, ?_⟩
    refine D_1 (i := 3) (by kernel_rfl) ?_
    refine E_call rfl rfl en26 (impl_CommandPossible_c _ _ _ h _ _ _ _ _ _ _ (by assumption) (by assumption) (by omega)) ?_  -- k7 impl.CommandPossible
    rintro v13 w13 ⟨rfl, g13⟩
    replace hA := hA.grow g13
    replace hB := hB.grow g13
    replace O5 := O5.grow g13
    replace hA5 := hA5.grow g13
    replace hB5 := hB5.grow g13
    replace O8 := O8.grow g13
    replace hA8 := hA8.grow g13
    replace hB8 := hB8.grow g13
    replace G := G.grow g13
    replace GS11 := GS11.grow g13
    replace B1 := B1.grow g13
    replace B2 := B2.grow g13
    replace B9 := B9.grow g13
    have zg13 := g13.size
    refine ⟨GS11, ?_⟩
    refine D_q (i := 4) rfl (by kernel_rfl) (fun _ _ _ h => h) GS11 (fun _ _ => Y_assign rfl) ?_
    refine D_end (L' := (_ :: _ :: _ :: _ :: _ :: _ :: _ :: _ :: _ :: _ :: _ :: _ :: _ :: _ :: _ :: _ :: _ :: _ :: _ :: _ :: _ :: _ :: _ :: _ :: _ :: _ :: _ :: _ :: _ :: _ :: _ :: _ :: _ :: [])) (by kernel_rfl) rfl rfl ?_
    refine th_n ?_
    refine hK9 _ _ ?_
    clear hK9 K9
    refine wp_seq_k fun K10 hK10 => ?_
    refine wp_seq_k fun K11 hK11 => ?_
    refine wp_region_lit ?_  -- region 8 exact.go:4799
    refine S_beg 33 rfl ?_
    refine S_val (Y_move rfl) ?_
    refine S_val (Y_move rfl) ?_
    refine S_val (Y_neb Try.underlying4 rfl rfl) ?_
    refine S_nil (L' := (_ :: _ :: _ :: _ :: _ :: _ :: _ :: _ :: _ :: _ :: _ :: _ :: _ :: _ :: _ :: _ :: _ :: _ :: _ :: _ :: _ :: _ :: _ :: _ :: _ :: _ :: _ :: _ :: _ :: _ :: _ :: _ :: _ :: [])) rfl rfl ?_
    refine th_n ?_
    refine hK11 _ _ ?_
    clear hK11 K11
    refine S_if rfl (fun hb2 => ?_) (fun hb2 => ?_)  -- c2
    · -- c2T
      first | with_reducible (replace hb2 := nb_nt hb2) | with_reducible (replace hb2 := nb_nf hb2) | with_reducible (replace hb2 := nb_tt hb2) | with_reducible (replace hb2 := nb_tf hb2) | with_reducible (replace hb2 := nb_bt hb2) | with_reducible (replace hb2 := nb_bf hb2) | skip
      exact absurd rfl hb2
    · -- c2F
      first | with_reducible (replace hb2 := nb_nt hb2) | with_reducible (replace hb2 := nb_nf hb2) | with_reducible (replace hb2 := nb_tt hb2) | with_reducible (replace hb2 := nb_tf hb2) | with_reducible (replace hb2 := nb_bt hb2) | with_reducible (replace hb2 := nb_bf hb2) | skip
      refine wp_skip ?_
      refine th_n ?_
      refine hK10 _ _ ?_
      clear hK10 K10
      refine wp_seq_k fun K12 hK12 => ?_
      refine wp_seq_k fun K13 hK13 => ?_
      refine D_start 5 33 (fun w => Mod (No) w) follows rfl rfl ?_  -- d3 region 10 exact.go:4802
      intro w14 g14
      replace hA := hA.grow g14
      replace hB := hB.grow g14
      replace O5 := O5.grow g14
      replace hA5 := hA5.grow g14
      replace hB5 := hB5.grow g14
      replace O8 := O8.grow g14
      replace hA8 := hA8.grow g14
      replace hB8 := hB8.grow g14
      replace G := G.grow g14
      replace B1 := B1.grow g14
      replace B2 := B2.grow g14
      replace B9 := B9.grow g14
      have zg14 := g14.size
      have GS14 := Mod.refl (No) w14
      have B1d14 := B1
      have B2d14 := B2
      have B9d14 := B9
      refine D_q (i := 0) rfl (by kernel_rfl) (fun _ _ _ h => h) GS14 (fun _ hs => Y_loadS Try.underlying30 rfl sz30 rfl (by first | exact hs.cells0 (by assumption) | exact hs.cells0 (B1.row (by rfl)) | exact hs.cells0 (B2.row (by rfl)) | exact hs.cells0 (B9.row (by rfl)) | exact hs.cells0 (B1d14.row (by rfl)) | exact hs.cells0 (B2d14.row (by rfl)) | exact hs.cells0 (B9d14.row (by rfl)))) ?_
      refine D_q (i := 1) rfl (by kernel_rfl) (fun _ _ _ h => h) GS14 (fun _ hs => Y_loadS Try.underlying25 rfl sz25 rfl (by first | exact hs.cells0 (by assumption) | exact hs.cells0 (B1.row (by rfl)) | exact hs.cells0 (B2.row (by rfl)) | exact hs.cells0 (B9.row (by rfl)) | exact hs.cells0 (B1d14.row (by rfl)) | exact hs.cells0 (B2d14.row (by rfl)) | exact hs.cells0 (B9d14.row (by rfl)))) ?_
      refine D_1 (i := 2) (by kernel_rfl) ?_
      refine E_call rfl rfl en17 (laws_toHeap_c _ _ _ _ _ _ _ (by assumption) (by assumption) (by omega)) ?_  -- k8 laws.toHeap
      rintro v15 w15 ⟨a15, b15, rs15, rfl, O15, g15⟩
      replace hA := hA.grow g15
      replace hB := hB.grow g15
      replace O5 := O5.grow g15
      replace hA5 := hA5.grow g15
      replace hB5 := hB5.grow g15
      replace O8 := O8.grow g15
      replace hA8 := hA8.grow g15
      replace hB8 := hB8.grow g15
      replace G := G.grow g15
      replace GS14 := GS14.grow g15
      replace B1 := B1.grow g15
      replace B2 := B2.grow g15
      replace B9 := B9.grow g15
      have zg15 := g15.size
      replace O15 := O15.lt
      have hA15 := O15.rc
      have hB15 := O15.r1
      refine ⟨GS14, ?_⟩
      refine D_1 (i := 3) (by kernel_rfl) ?_
      refine E_call rfl rfl en20 (laws_eqHeap_c _ _ _ _ _ _ _ _ _ _ _ _ _ (by assumption) (by assumption) (by assumption) (by assumption) (by omega)) ?_  -- k9 laws.eqHeap
      rintro v16 w16 ⟨rfl, g16⟩
      replace hA := hA.grow g16
      replace hB := hB.grow g16
      replace O5 := O5.grow g16
      replace hA5 := hA5.grow g16
      replace hB5 := hB5.grow g16
      replace O8 := O8.grow g16
      replace hA8 := hA8.grow g16
      replace hB8 := hB8.grow g16
      replace O15 := O15.grow g16
      replace hA15 := hA15.grow g16
      replace hB15 := hB15.grow g16
      replace G := G.grow g16
      replace GS14 := GS14.grow g16
      replace B1 := B1.grow g16
      replace B2 := B2.grow g16
      replace B9 := B9.grow g16
      have zg16 := g16.size
      refine ⟨GS14, ?_⟩
      refine D_q (i := 4) rfl (by kernel_rfl) (fun _ _ _ h => h) GS14 (fun _ _ => Y_not rfl) ?_
      refine D_end (L' := (_ :: _ :: _ :: _ :: _ :: _ :: _ :: _ :: _ :: _ :: _ :: _ :: _ :: _ :: _ :: _ :: _ :: _ :: _ :: _ :: _ :: _ :: _ :: _ :: _ :: _ :: _ :: _ :: _ :: _ :: _ :: _ :: _ :: [])) (by kernel_rfl) rfl rfl ?_
      refine th_n ?_
      refine hK13 _ _ ?_
      clear hK13 K13
      refine S_if rfl (fun hb3 => ?_) (fun hb3 => ?_)  -- c3
      · -- c3T
        first | with_reducible (replace hb3 := nb_nt hb3) | with_reducible (replace hb3 := nb_nf hb3) | with_reducible (replace hb3 := nb_tt hb3) | with_reducible (replace hb3 := nb_tf hb3) | with_reducible (replace hb3 := nb_bt hb3) | with_reducible (replace hb3 := nb_bf hb3) | skip
        exact absurd rfl hb3
      · -- c3F
        first | with_reducible (replace hb3 := nb_nt hb3) | with_reducible (replace hb3 := nb_nf hb3) | with_reducible (replace hb3 := nb_tt hb3) | with_reducible (replace hb3 := nb_tf hb3) | with_reducible (replace hb3 := nb_bt hb3) | with_reducible (replace hb3 := nb_bf hb3) | skip
        refine wp_skip ?_
        refine th_n ?_
        refine hK12 _ _ ?_
        clear hK12 K12
        refine wp_seq_k fun K14 hK14 => ?_
        refine wp_region_lit ?_  -- region 12 exact.go:4805
        refine S_beg 33 rfl ?_
        refine S_val (Y_assign rfl) ?_
        refine S_nil (L' := (_ :: _ :: _ :: _ :: _ :: _ :: _ :: _ :: _ :: _ :: _ :: _ :: _ :: _ :: _ :: _ :: _ :: _ :: _ :: _ :: _ :: _ :: _ :: _ :: _ :: _ :: _ :: _ :: _ :: _ :: _ :: _ :: _ :: [])) rfl rfl ?_
        refine th_n ?_
        refine hK14 _ _ ?_
        clear hK14 K14
        refine wp_ret ?_
        refine ret_r1 rfl rfl ?_  -- r2
        exact ⟨rfl, G⟩

end Go.Proofs.Ytdfifnplgbceaaa
