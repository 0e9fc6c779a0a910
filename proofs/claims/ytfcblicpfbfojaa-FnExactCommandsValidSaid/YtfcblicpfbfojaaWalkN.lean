/-
  Walks: instructions.
  Conditions: those that each theorem states.
-/
import Derived.Test.YtfcblicpfbfojaaTy
import Derived.Test.YtfcblicpfbfojaaWalkC
import Derived.Test.YtfcblicpfbfojaaCmd
namespace Go.Proofs.Ytfcblicpfbfojaa
open Go Go.RowKit
attribute [local irreducible] wpList wpAnyH Code.wp dOp

set_option maxHeartbeats 400000 in
set_option maxRecDepth 20000 in
theorem impl_operations_c (w : World) :
    Calls Try.prog 55 #[] w (Ret fun v w' => v = .agg (opsL 92 93 95 96 97 98 99 100 101).toArray ∧ Grow w w') := by
  refine enter Try.func55 rfl Try.ntmps55 (L := (_ :: _ :: _ :: _ :: _ :: _ :: _ :: _ :: [])) rfl ?_
  have G := Mod.refl No w
  refine wp_seq_k fun K1 hK1 => ?_
  refine wp_region_lit ?_  -- region 0 l8_programs.go:44
  refine S_beg 8 rfl ?_
  refine S_alloc (cs := [_, _, _, _, _, _, _, _, _, _, _, _, _, _, _, _, _, _, _, _, _, _, _, _, _, _, _, _]) zr70 rfl ?_
  intro b1 w1 fb1 g1 B1
  have lb1 := B1.lt
  replace G := G.grow g1
  have zg1 := g1.size
  refine S_nil (L' := (_ :: _ :: _ :: _ :: _ :: _ :: _ :: _ :: [])) rfl rfl ?_
  refine th_n ?_
  refine hK1 _ _ ?_
  clear hK1 K1
  refine wp_seq_k fun K2 hK2 => ?_
  refine wp_region_lit ?_  -- region 1 l8_programs.go:45
  refine S_beg 8 rfl ?_
  refine S_val (Y_build (cs := [_, _, _, _]) zr69 pc69 rfl rfl) ?_
  refine S_val (Y_build (cs := [_, _, _, _]) zr69 pc69 rfl rfl) ?_
  refine S_val (Y_build (cs := [_, _, _, _]) zr69 pc69 rfl rfl) ?_
  refine S_val (Y_build (cs := [_, _, _, _]) zr69 pc69 rfl rfl) ?_
  refine S_val (Y_build (cs := [_, _, _, _]) zr69 pc69 rfl rfl) ?_
  refine S_val (Y_build (cs := [_, _, _, _]) zr69 pc69 rfl rfl) ?_
  refine S_val (Y_build (cs := [_, _, _, _, _, _, _, _, _, _, _, _, _, _, _, _, _, _, _, _, _, _, _, _, _, _, _, _]) zr70 pc70 rfl rfl) ?_
  refine S_stM (pre := []) (old := [_, _, _, _, _, _, _, _, _, _, _, _, _, _, _, _, _, _, _, _, _, _, _, _, _, _, _, _]) (post := []) (vs := [_, _, _, _, _, _, _, _, _, _, _, _, _, _, _, _, _, _, _, _, _, _, _, _, _, _, _, _]) sz70 rfl rfl rfl (by first | rfl | assumption) B1 rfl rfl ?_
  intro w2 m2 X2
  replace B1 := Blk.eq (ys := [_, _, _, _, _, _, _, _, _, _, _, _, _, _, _, _, _, _, _, _, _, _, _, _, _, _, _, _]) X2 rfl
  clear X2
  replace G := G.above m2 (by intro i h; first | omega | (dsimp only at h; omega))
  have zm2 := m2.size
  refine S_nil (L' := (_ :: _ :: _ :: _ :: _ :: _ :: _ :: _ :: [])) rfl rfl ?_
  refine th_n ?_
  refine hK2 _ _ ?_
  clear hK2 K2
  refine wp_ret ?_
  refine ret_rc (cs := [_, _, _, _, _, _, _, _, _, _, _, _, _, _, _, _, _, _, _, _, _, _, _, _, _, _, _, _]) Try.underlying70 rfl sz70 rfl rfl (B1.row (by rfl)) ?_  -- r1
  exact ⟨rfl, G⟩

set_option maxHeartbeats 400000 in
set_option maxRecDepth 20000 in
theorem impl_CommandValid_c (op a b c : Int) (w : World) :
    Calls Try.prog 17 #[.agg #[.int .i64 op, .int .i64 a, .int .i64 b, .int .i64 c]] w (Ret fun v w' => v = .bool (cvB ⟨op, a, b, c⟩) ∧ Grow w w') := by
  refine enter Try.func17 rfl Try.ntmps17 (L := (_ :: _ :: _ :: _ :: _ :: _ :: _ :: _ :: _ :: _ :: _ :: _ :: _ :: _ :: _ :: _ :: _ :: _ :: _ :: _ :: _ :: _ :: _ :: _ :: _ :: _ :: _ :: _ :: _ :: _ :: _ :: _ :: _ :: _ :: _ :: _ :: _ :: _ :: _ :: _ :: _ :: _ :: _ :: _ :: _ :: _ :: _ :: _ :: [])) rfl ?_
  have G := Mod.refl No w
  refine wp_seq_k fun K1 hK1 => ?_
  refine wp_region_lit ?_  -- region 0 l8_programs.go:72
  refine S_beg 48 rfl ?_
  refine S_box (cs := [_, _, _, _]) rfl rfl ?_
  intro b1 w1 fb1 g1 B1
  have lb1 := B1.lt
  replace G := G.grow g1
  have zg1 := g1.size
  refine S_val (Y_assign rfl) ?_
  refine S_nil (L' := (_ :: _ :: _ :: _ :: _ :: _ :: _ :: _ :: _ :: _ :: _ :: _ :: _ :: _ :: _ :: _ :: _ :: _ :: _ :: _ :: _ :: _ :: _ :: _ :: _ :: _ :: _ :: _ :: _ :: _ :: _ :: _ :: _ :: _ :: _ :: _ :: _ :: _ :: _ :: _ :: _ :: _ :: _ :: _ :: _ :: _ :: _ :: _ :: [])) rfl rfl ?_
  refine th_n ?_
  refine hK1 _ _ ?_
  clear hK1 K1
  refine wp_seq_k fun K2 hK2 => ?_
  refine wp_seq_k fun K3 hK3 => ?_
  refine wp_region_lit ?_  -- region 1 l8_programs.go:73
  refine S_beg 48 rfl ?_
  refine S_val (Y_field Try.underlying25 rfl fz25_0 (by decide) rfl) ?_
  refine S_val (Y_load Try.underlying3 rfl rfl (by first | assumption | exact B1.at (by rfl))) ?_
  refine S_val (Y_lss rfl rfl) ?_
  refine S_val (Y_move rfl) ?_
  refine S_g 7 rfl (fun hb1 => ?_) (fun hb1 => ?_)  -- g1
  · -- g1T
    first | with_reducible (replace hb1 := nb_nt hb1) | with_reducible (replace hb1 := nb_nf hb1) | with_reducible (replace hb1 := nb_tt hb1) | with_reducible (replace hb1 := nb_tf hb1) | with_reducible (replace hb1 := nb_bt hb1) | with_reducible (replace hb1 := nb_bf hb1) | skip
    refine S_off rfl rfl ?_
    refine S_off rfl rfl ?_
    refine S_off rfl rfl ?_
    refine S_val (Y_pickT rfl rfl) ?_
    refine S_nil (L' := (_ :: _ :: _ :: _ :: _ :: _ :: _ :: _ :: _ :: _ :: _ :: _ :: _ :: _ :: _ :: _ :: _ :: _ :: _ :: _ :: _ :: _ :: _ :: _ :: _ :: _ :: _ :: _ :: _ :: _ :: _ :: _ :: _ :: _ :: _ :: _ :: _ :: _ :: _ :: _ :: _ :: _ :: _ :: _ :: _ :: _ :: _ :: _ :: [])) rfl rfl ?_
    refine th_n ?_
    refine hK3 _ _ ?_
    clear hK3 K3
    refine S_ifT rfl ?_
    refine wp_seq_k fun K4 hK4 => ?_
    refine wp_region_lit ?_  -- region 2 l8_programs.go:74
    refine S_beg 48 rfl ?_
    refine S_val (Y_assign rfl) ?_
    refine S_nil (L' := (_ :: _ :: _ :: _ :: _ :: _ :: _ :: _ :: _ :: _ :: _ :: _ :: _ :: _ :: _ :: _ :: _ :: _ :: _ :: _ :: _ :: _ :: _ :: _ :: _ :: _ :: _ :: _ :: _ :: _ :: _ :: _ :: _ :: _ :: _ :: _ :: _ :: _ :: _ :: _ :: _ :: _ :: _ :: _ :: _ :: _ :: _ :: _ :: [])) rfl rfl ?_
    refine th_n ?_
    refine hK4 _ _ ?_
    clear hK4 K4
    refine wp_ret ?_
    refine th_r ?_
    clear hK2 K2
    refine ret_r1 rfl rfl ?_  -- r1
    exact ⟨by first | exact cvB_f (by unfold cvP; dsimp only; omega) | exact cvB_d (by unfold cvP; dsimp only; omega) | exact cvB_t (by unfold cvP; dsimp only; omega), G⟩
  · -- g1F
    first | with_reducible (replace hb1 := nb_nt hb1) | with_reducible (replace hb1 := nb_nf hb1) | with_reducible (replace hb1 := nb_tt hb1) | with_reducible (replace hb1 := nb_tf hb1) | with_reducible (replace hb1 := nb_bt hb1) | with_reducible (replace hb1 := nb_bf hb1) | skip
    refine S_on rfl rfl ?_
    refine S_val (Y_field Try.underlying25 rfl fz25_0 (by decide) rfl) ?_
    refine S_on rfl rfl ?_
    refine S_val (Y_load Try.underlying3 rfl rfl (by first | assumption | exact B1.at (by rfl))) ?_
    refine S_on rfl rfl ?_
    refine S_val (Y_gtr rfl rfl) ?_
    refine S_val (Y_pickF rfl rfl) ?_
    refine S_nil (L' := (_ :: _ :: _ :: _ :: _ :: _ :: _ :: _ :: _ :: _ :: _ :: _ :: _ :: _ :: _ :: _ :: _ :: _ :: _ :: _ :: _ :: _ :: _ :: _ :: _ :: _ :: _ :: _ :: _ :: _ :: _ :: _ :: _ :: _ :: _ :: _ :: _ :: _ :: _ :: _ :: _ :: _ :: _ :: _ :: _ :: _ :: _ :: _ :: [])) rfl rfl ?_
    refine th_n ?_
    refine hK3 _ _ ?_
    clear hK3 K3
    refine S_if rfl (fun hb2 => ?_) (fun hb2 => ?_)  -- c1
    · -- c1T
      first | with_reducible (replace hb2 := nb_nt hb2) | with_reducible (replace hb2 := nb_nf hb2) | with_reducible (replace hb2 := nb_tt hb2) | with_reducible (replace hb2 := nb_tf hb2) | with_reducible (replace hb2 := nb_bt hb2) | with_reducible (replace hb2 := nb_bf hb2) | skip
      refine wp_seq_k fun K5 hK5 => ?_
      refine wp_region_lit ?_  -- region 2 l8_programs.go:74
      refine S_beg 48 rfl ?_
      refine S_val (Y_assign rfl) ?_
      refine S_nil (L' := (_ :: _ :: _ :: _ :: _ :: _ :: _ :: _ :: _ :: _ :: _ :: _ :: _ :: _ :: _ :: _ :: _ :: _ :: _ :: _ :: _ :: _ :: _ :: _ :: _ :: _ :: _ :: _ :: _ :: _ :: _ :: _ :: _ :: _ :: _ :: _ :: _ :: _ :: _ :: _ :: _ :: _ :: _ :: _ :: _ :: _ :: _ :: _ :: [])) rfl rfl ?_
      refine th_n ?_
      refine hK5 _ _ ?_
      clear hK5 K5
      refine wp_ret ?_
      refine th_r ?_
      clear hK2 K2
      refine ret_r1 rfl rfl ?_  -- r2
      exact ⟨by first | exact cvB_f (by unfold cvP; dsimp only; omega) | exact cvB_d (by unfold cvP; dsimp only; omega) | exact cvB_t (by unfold cvP; dsimp only; omega), G⟩
    · -- c1F
      first | with_reducible (replace hb2 := nb_nt hb2) | with_reducible (replace hb2 := nb_nf hb2) | with_reducible (replace hb2 := nb_tt hb2) | with_reducible (replace hb2 := nb_tf hb2) | with_reducible (replace hb2 := nb_bt hb2) | with_reducible (replace hb2 := nb_bf hb2) | skip
      obtain ⟨k, rfl⟩ := Int.eq_ofNat_of_zero_le (show 0 ≤ op by omega)
      obtain ⟨bb, cc, ff, gg, hops, hone, hcase⟩ := ops_at 92 93 95 96 97 98 99 100 101 k (by omega) (by omega)
      refine wp_skip ?_
      refine th_n ?_
      refine hK2 _ _ ?_
      clear hK2 K2
      refine wp_seq_k fun K6 hK6 => ?_
      refine D_start 6 48 (fun w => Mod (No) w) follows rfl rfl ?_  -- d1 region 3 l8_programs.go:76
      intro w2 g2
      replace G := G.grow g2
      replace B1 := B1.grow g2
      have zg2 := g2.size
      have GS2 := Mod.refl (No) w2
      refine D_q (i := 1) rfl (by kernel_rfl) (fun _ _ _ h => h) GS2 (fun _ _ => Y_field Try.underlying25 rfl fz25_0 (by decide) rfl) ?_
      refine D_q (i := 2) rfl (by kernel_rfl) (fun _ _ _ h => h) GS2 (fun _ hs => Y_load Try.underlying3 rfl rfl (by first | exact hs.cell0 (by assumption) | exact hs.cell0 (B1.at (by rfl)))) ?_
      refine D_2 (i := 0) (j := 4) (by kernel_rfl) ?_ ?_
      · -- operation 0 comes up
        refine E_call rfl rfl en55 (impl_operations_c _) ?_  -- k1 impl.operations
        rintro v3 w3 ⟨rfl, g3⟩
        replace G := G.grow g3
        replace GS2 := GS2.grow g3
        replace B1 := B1.grow g3
        have zg3 := g3.size
        refine ⟨GS2, ?_⟩
        refine D_q (i := 3) rfl (by kernel_rfl) (fun _ _ _ h => h) GS2 (fun _ _ => Y_elem Try.underlying70 Try.underlying69 rfl sz69 rfl rfl (by omega) hops) ?_
        refine D_1 (i := 4) (by kernel_rfl) ?_
        refine E_alloc (cs := [_, _, _, _]) rfl zr69 rfl (fun b4 w4 fb4 g4 B4 => ⟨GS2.grow g4, ?_⟩)
        have lb4 := B4.lt
        replace G := G.grow g4
        replace GS2 := GS2.grow g4
        replace B1 := B1.grow g4
        have zg4 := g4.size
        refine D_1 (i := 5) (by kernel_rfl) ?_
        refine E_stM (pre := []) (old := [_, _, _, _]) (post := []) (vs := [_, _, _, _]) (i := 5) rfl sz69 rfl rfl rfl (by first | rfl | assumption) B4 rfl rfl ?_
        intro w5 m5 X5
        replace B4 := Blk.eq (ys := [_, _, _, _]) X5 rfl
        clear X5
        replace G := G.above m5 (by intro i h; first | omega | (dsimp only at h; omega))
        replace GS2 := GS2.above m5 (by intro i h; first | omega | (dsimp only at h; omega))
        replace B1 := B1.mod m5 (by intro h; first | omega | (dsimp only at h; omega))
        have zm5 := m5.size
        refine ⟨GS2, ?_⟩
        refine D_end (L' := (_ :: _ :: _ :: _ :: _ :: _ :: _ :: _ :: _ :: _ :: _ :: _ :: _ :: _ :: _ :: _ :: _ :: _ :: _ :: _ :: _ :: _ :: _ :: _ :: _ :: _ :: _ :: _ :: _ :: _ :: _ :: _ :: _ :: _ :: _ :: _ :: _ :: _ :: _ :: _ :: _ :: _ :: _ :: _ :: _ :: _ :: _ :: _ :: [])) (by kernel_rfl) rfl rfl ?_
        refine th_n ?_
        refine hK6 _ _ ?_
        clear hK6 K6
        refine wp_seq_k fun K7 hK7 => ?_
        refine wp_region_lit ?_  -- region 4 l8_programs.go:77
        refine S_beg 48 rfl ?_
        refine S_val (Y_field Try.underlying25 rfl fz25_1 (by decide) rfl) ?_
        refine S_val (Y_load Try.underlying3 rfl rfl (by first | assumption | exact B1.at (by rfl) | exact B4.at (by rfl))) ?_
        refine S_val (Y_geq rfl rfl) ?_
        refine S_val (Y_move rfl) ?_
        refine S_g 19 rfl (fun hb3 => ?_) (fun hb3 => ?_)  -- g2
        · -- g2T
          first | with_reducible (replace hb3 := nb_nt hb3) | with_reducible (replace hb3 := nb_nf hb3) | with_reducible (replace hb3 := nb_tt hb3) | with_reducible (replace hb3 := nb_tf hb3) | with_reducible (replace hb3 := nb_bt hb3) | with_reducible (replace hb3 := nb_bf hb3) | skip
          refine S_on rfl rfl ?_
          refine S_val (Y_field Try.underlying25 rfl fz25_1 (by decide) rfl) ?_
          refine S_on rfl rfl ?_
          refine S_val (Y_load Try.underlying3 rfl rfl (by first | assumption | exact B1.at (by rfl) | exact B4.at (by rfl))) ?_
          refine S_on rfl rfl ?_
          refine S_val (Y_lss rfl rfl) ?_
          refine S_val (Y_pickT rfl rfl) ?_
          refine S_val (Y_move rfl) ?_
          refine S_g 24 rfl (fun hb4 => ?_) (fun hb4 => ?_)  -- g3
          · -- g3T
            first | with_reducible (replace hb4 := nb_nt hb4) | with_reducible (replace hb4 := nb_nf hb4) | with_reducible (replace hb4 := nb_tt hb4) | with_reducible (replace hb4 := nb_tf hb4) | with_reducible (replace hb4 := nb_bt hb4) | with_reducible (replace hb4 := nb_bf hb4) | skip
            refine S_on rfl rfl ?_
            refine S_val (Y_field Try.underlying25 rfl fz25_2 (by decide) rfl) ?_
            refine S_on rfl rfl ?_
            refine S_val (Y_load Try.underlying3 rfl rfl (by first | assumption | exact B1.at (by rfl) | exact B4.at (by rfl))) ?_
            refine S_on rfl rfl ?_
            refine S_val (Y_geq rfl rfl) ?_
            refine S_val (Y_pickT rfl rfl) ?_
            refine S_val (Y_move rfl) ?_
            refine S_g 29 rfl (fun hb5 => ?_) (fun hb5 => ?_)  -- g4
            · -- g4T
              first | with_reducible (replace hb5 := nb_nt hb5) | with_reducible (replace hb5 := nb_nf hb5) | with_reducible (replace hb5 := nb_tt hb5) | with_reducible (replace hb5 := nb_tf hb5) | with_reducible (replace hb5 := nb_bt hb5) | with_reducible (replace hb5 := nb_bf hb5) | skip
              refine S_on rfl rfl ?_
              refine S_val (Y_field Try.underlying25 rfl fz25_2 (by decide) rfl) ?_
              refine S_on rfl rfl ?_
              refine S_val (Y_load Try.underlying3 rfl rfl (by first | assumption | exact B1.at (by rfl) | exact B4.at (by rfl))) ?_
              refine S_on rfl rfl ?_
              refine S_val (Y_field Try.underlying69 rfl fz69_0 (by decide) rfl) ?_
              refine S_on rfl rfl ?_
              refine S_val (Y_load Try.underlying3 rfl rfl (by first | assumption | exact B1.at (by rfl) | exact B4.at (by rfl))) ?_
              refine S_on rfl rfl ?_
              refine S_val (Y_leq rfl rfl) ?_
              refine S_val (Y_pickT rfl rfl) ?_
              refine S_val (Y_move rfl) ?_
              refine S_g 36 rfl (fun hb6 => ?_) (fun hb6 => ?_)  -- g5
              · -- g5T
                first | with_reducible (replace hb6 := nb_nt hb6) | with_reducible (replace hb6 := nb_nf hb6) | with_reducible (replace hb6 := nb_tt hb6) | with_reducible (replace hb6 := nb_tf hb6) | with_reducible (replace hb6 := nb_bt hb6) | with_reducible (replace hb6 := nb_bf hb6) | skip
                refine S_on rfl rfl ?_
                refine S_val (Y_field Try.underlying25 rfl fz25_3 (by decide) rfl) ?_
                refine S_on rfl rfl ?_
                refine S_val (Y_load Try.underlying3 rfl rfl (by first | assumption | exact B1.at (by rfl) | exact B4.at (by rfl))) ?_
                refine S_on rfl rfl ?_
                refine S_val (Y_geq rfl rfl) ?_
                refine S_val (Y_pickT rfl rfl) ?_
                refine S_val (Y_move rfl) ?_
                refine S_g 41 rfl (fun hb7 => ?_) (fun hb7 => ?_)  -- g6
                · -- g6T
                  first | with_reducible (replace hb7 := nb_nt hb7) | with_reducible (replace hb7 := nb_nf hb7) | with_reducible (replace hb7 := nb_tt hb7) | with_reducible (replace hb7 := nb_tf hb7) | with_reducible (replace hb7 := nb_bt hb7) | with_reducible (replace hb7 := nb_bf hb7) | skip
                  refine S_on rfl rfl ?_
                  refine S_val (Y_field Try.underlying25 rfl fz25_3 (by decide) rfl) ?_
                  refine S_on rfl rfl ?_
                  refine S_val (Y_load Try.underlying3 rfl rfl (by first | assumption | exact B1.at (by rfl) | exact B4.at (by rfl))) ?_
                  refine S_on rfl rfl ?_
                  refine S_val (Y_field Try.underlying69 rfl fz69_1 (by decide) rfl) ?_
                  refine S_on rfl rfl ?_
                  refine S_val (Y_load Try.underlying3 rfl rfl (by first | assumption | exact B1.at (by rfl) | exact B4.at (by rfl))) ?_
                  refine S_on rfl rfl ?_
                  refine S_val (Y_leq rfl rfl) ?_
                  refine S_val (Y_pickT rfl rfl) ?_
                  refine S_val (Y_assign rfl) ?_
                  refine S_nil (L' := (_ :: _ :: _ :: _ :: _ :: _ :: _ :: _ :: _ :: _ :: _ :: _ :: _ :: _ :: _ :: _ :: _ :: _ :: _ :: _ :: _ :: _ :: _ :: _ :: _ :: _ :: _ :: _ :: _ :: _ :: _ :: _ :: _ :: _ :: _ :: _ :: _ :: _ :: _ :: _ :: _ :: _ :: _ :: _ :: _ :: _ :: _ :: _ :: [])) rfl rfl ?_
                  refine th_n ?_
                  refine hK7 _ _ ?_
                  clear hK7 K7
                  refine wp_ret ?_
                  refine ret_r1 rfl rfl ?_  -- r3
                  exact ⟨by first | exact cvB_f (by unfold cvP; dsimp only; omega) | exact cvB_d (by unfold cvP; dsimp only; omega) | exact cvB_t (by unfold cvP; dsimp only; omega), G⟩
                · -- g6F
                  first | with_reducible (replace hb7 := nb_nt hb7) | with_reducible (replace hb7 := nb_nf hb7) | with_reducible (replace hb7 := nb_tt hb7) | with_reducible (replace hb7 := nb_tf hb7) | with_reducible (replace hb7 := nb_bt hb7) | with_reducible (replace hb7 := nb_bf hb7) | skip
                  refine S_off rfl rfl ?_
                  refine S_off rfl rfl ?_
                  refine S_off rfl rfl ?_
                  refine S_off rfl rfl ?_
                  refine S_off rfl rfl ?_
                  refine S_val (Y_pickF rfl rfl) ?_
                  refine S_val (Y_assign rfl) ?_
                  refine S_nil (L' := (_ :: _ :: _ :: _ :: _ :: _ :: _ :: _ :: _ :: _ :: _ :: _ :: _ :: _ :: _ :: _ :: _ :: _ :: _ :: _ :: _ :: _ :: _ :: _ :: _ :: _ :: _ :: _ :: _ :: _ :: _ :: _ :: _ :: _ :: _ :: _ :: _ :: _ :: _ :: _ :: _ :: _ :: _ :: _ :: _ :: _ :: _ :: _ :: [])) rfl rfl ?_
                  refine th_n ?_
                  refine hK7 _ _ ?_
                  clear hK7 K7
                  refine wp_ret ?_
                  refine ret_r1 rfl rfl ?_  -- r4
                  exact ⟨by first | exact cvB_f (by unfold cvP; dsimp only; omega) | exact cvB_d (by unfold cvP; dsimp only; omega) | exact cvB_t (by unfold cvP; dsimp only; omega), G⟩
              · -- g5F
                first | with_reducible (replace hb6 := nb_nt hb6) | with_reducible (replace hb6 := nb_nf hb6) | with_reducible (replace hb6 := nb_tt hb6) | with_reducible (replace hb6 := nb_tf hb6) | with_reducible (replace hb6 := nb_bt hb6) | with_reducible (replace hb6 := nb_bf hb6) | skip
                refine S_off rfl rfl ?_
                refine S_off rfl rfl ?_
                refine S_off rfl rfl ?_
                refine S_val (Y_pickF rfl rfl) ?_
                refine S_val (Y_move rfl) ?_
                refine S_off rfl rfl ?_
                refine S_off rfl rfl ?_
                refine S_off rfl rfl ?_
                refine S_off rfl rfl ?_
                refine S_off rfl rfl ?_
                refine S_val (Y_pickF rfl rfl) ?_
                refine S_val (Y_assign rfl) ?_
                refine S_nil (L' := (_ :: _ :: _ :: _ :: _ :: _ :: _ :: _ :: _ :: _ :: _ :: _ :: _ :: _ :: _ :: _ :: _ :: _ :: _ :: _ :: _ :: _ :: _ :: _ :: _ :: _ :: _ :: _ :: _ :: _ :: _ :: _ :: _ :: _ :: _ :: _ :: _ :: _ :: _ :: _ :: _ :: _ :: _ :: _ :: _ :: _ :: _ :: _ :: [])) rfl rfl ?_
                refine th_n ?_
                refine hK7 _ _ ?_
                clear hK7 K7
                refine wp_ret ?_
                refine ret_r1 rfl rfl ?_  -- r5
                exact ⟨by first | exact cvB_f (by unfold cvP; dsimp only; omega) | exact cvB_d (by unfold cvP; dsimp only; omega) | exact cvB_t (by unfold cvP; dsimp only; omega), G⟩
            · -- g4F
              first | with_reducible (replace hb5 := nb_nt hb5) | with_reducible (replace hb5 := nb_nf hb5) | with_reducible (replace hb5 := nb_tt hb5) | with_reducible (replace hb5 := nb_tf hb5) | with_reducible (replace hb5 := nb_bt hb5) | with_reducible (replace hb5 := nb_bf hb5) | skip
              refine S_off rfl rfl ?_
              refine S_off rfl rfl ?_
              refine S_off rfl rfl ?_
              refine S_off rfl rfl ?_
              refine S_off rfl rfl ?_
              refine S_val (Y_pickF rfl rfl) ?_
              refine S_val (Y_move rfl) ?_
              refine S_off rfl rfl ?_
              refine S_off rfl rfl ?_
              refine S_off rfl rfl ?_
              refine S_val (Y_pickF rfl rfl) ?_
              refine S_val (Y_move rfl) ?_
              refine S_off rfl rfl ?_
              refine S_off rfl rfl ?_
              refine S_off rfl rfl ?_
              refine S_off rfl rfl ?_
              refine S_off rfl rfl ?_
              refine S_val (Y_pickF rfl rfl) ?_
              refine S_val (Y_assign rfl) ?_
              refine S_nil (L' := (_ :: _ :: _ :: _ :: _ :: _ :: _ :: _ :: _ :: _ :: _ :: _ :: _ :: _ :: _ :: _ :: _ :: _ :: _ :: _ :: _ :: _ :: _ :: _ :: _ :: _ :: _ :: _ :: _ :: _ :: _ :: _ :: _ :: _ :: _ :: _ :: _ :: _ :: _ :: _ :: _ :: _ :: _ :: _ :: _ :: _ :: _ :: _ :: [])) rfl rfl ?_
              refine th_n ?_
              refine hK7 _ _ ?_
              clear hK7 K7
              refine wp_ret ?_
              refine ret_r1 rfl rfl ?_  -- r6
              exact ⟨by first | exact cvB_f (by unfold cvP; dsimp only; omega) | exact cvB_d (by unfold cvP; dsimp only; omega) | exact cvB_t (by unfold cvP; dsimp only; omega), G⟩
          · -- g3F
            first | with_reducible (replace hb4 := nb_nt hb4) | with_reducible (replace hb4 := nb_nf hb4) | with_reducible (replace hb4 := nb_tt hb4) | with_reducible (replace hb4 := nb_tf hb4) | with_reducible (replace hb4 := nb_bt hb4) | with_reducible (replace hb4 := nb_bf hb4) | skip
            refine S_off rfl rfl ?_
            refine S_off rfl rfl ?_
            refine S_off rfl rfl ?_
            refine S_val (Y_pickF rfl rfl) ?_
            refine S_val (Y_move rfl) ?_
            refine S_off rfl rfl ?_
            refine S_off rfl rfl ?_
            refine S_off rfl rfl ?_
            refine S_off rfl rfl ?_
            refine S_off rfl rfl ?_
            refine S_val (Y_pickF rfl rfl) ?_
            refine S_val (Y_move rfl) ?_
            refine S_off rfl rfl ?_
            refine S_off rfl rfl ?_
            refine S_off rfl rfl ?_
            refine S_val (Y_pickF rfl rfl) ?_
            refine S_val (Y_move rfl) ?_
            refine S_off rfl rfl ?_
            refine S_off rfl rfl ?_
            refine S_off rfl rfl ?_
            refine S_off rfl rfl ?_
            refine S_off rfl rfl ?_
            refine S_val (Y_pickF rfl rfl) ?_
            refine S_val (Y_assign rfl) ?_
            refine S_nil (L' := (_ :: _ :: _ :: _ :: _ :: _ :: _ :: _ :: _ :: _ :: _ :: _ :: _ :: _ :: _ :: _ :: _ :: _ :: _ :: _ :: _ :: _ :: _ :: _ :: _ :: _ :: _ :: _ :: _ :: _ :: _ :: _ :: _ :: _ :: _ :: _ :: _ :: _ :: _ :: _ :: _ :: _ :: _ :: _ :: _ :: _ :: _ :: _ :: [])) rfl rfl ?_
            refine th_n ?_
            refine hK7 _ _ ?_
            clear hK7 K7
            refine wp_ret ?_
            refine ret_r1 rfl rfl ?_  -- r7
            exact ⟨by first | exact cvB_f (by unfold cvP; dsimp only; omega) | exact cvB_d (by unfold cvP; dsimp only; omega) | exact cvB_t (by unfold cvP; dsimp only; omega), G⟩
        · -- g2F
          first | with_reducible (replace hb3 := nb_nt hb3) | with_reducible (replace hb3 := nb_nf hb3) | with_reducible (replace hb3 := nb_tt hb3) | with_reducible (replace hb3 := nb_tf hb3) | with_reducible (replace hb3 := nb_bt hb3) | with_reducible (replace hb3 := nb_bf hb3) | skip
          refine S_off rfl rfl ?_
          refine S_off rfl rfl ?_
          refine S_off rfl rfl ?_
          refine S_val (Y_pickF rfl rfl) ?_
          refine S_val (Y_move rfl) ?_
          refine S_off rfl rfl ?_
          refine S_off rfl rfl ?_
          refine S_off rfl rfl ?_
          refine S_val (Y_pickF rfl rfl) ?_
          refine S_val (Y_move rfl) ?_
          refine S_off rfl rfl ?_
          refine S_off rfl rfl ?_
          refine S_off rfl rfl ?_
          refine S_off rfl rfl ?_
          refine S_off rfl rfl ?_
          refine S_val (Y_pickF rfl rfl) ?_
          refine S_val (Y_move rfl) ?_
          refine S_off rfl rfl ?_
          refine S_off rfl rfl ?_
          refine S_off rfl rfl ?_
          refine S_val (Y_pickF rfl rfl) ?_
          refine S_val (Y_move rfl) ?_
          refine S_off rfl rfl ?_
          refine S_off rfl rfl ?_
          refine S_off rfl rfl ?_
          refine S_off rfl rfl ?_
          refine S_off rfl rfl ?_
          refine S_val (Y_pickF rfl rfl) ?_
          refine S_val (Y_assign rfl) ?_
          refine S_nil (L' := (_ :: _ :: _ :: _ :: _ :: _ :: _ :: _ :: _ :: _ :: _ :: _ :: _ :: _ :: _ :: _ :: _ :: _ :: _ :: _ :: _ :: _ :: _ :: _ :: _ :: _ :: _ :: _ :: _ :: _ :: _ :: _ :: _ :: _ :: _ :: _ :: _ :: _ :: _ :: _ :: _ :: _ :: _ :: _ :: _ :: _ :: _ :: _ :: [])) rfl rfl ?_
          refine th_n ?_
          refine hK7 _ _ ?_
          clear hK7 K7
          refine wp_ret ?_
          refine ret_r1 rfl rfl ?_  -- r8
          exact ⟨by first | exact cvB_f (by unfold cvP; dsimp only; omega) | exact cvB_d (by unfold cvP; dsimp only; omega) | exact cvB_t (by unfold cvP; dsimp only; omega), G⟩
      · -- operation 4 comes up
        refine E_alloc (cs := [_, _, _, _]) rfl zr69 rfl (fun b6 w6 fb6 g6 B6 => ⟨GS2.grow g6, ?_⟩)
        have lb6 := B6.lt
        replace G := G.grow g6
        replace GS2 := GS2.grow g6
        replace B1 := B1.grow g6
        have zg6 := g6.size
        refine D_1 (i := 0) (by kernel_rfl) ?_
        refine E_call rfl rfl en55 (impl_operations_c _) ?_  -- k2 impl.operations
        rintro v7 w7 ⟨rfl, g7⟩
        replace G := G.grow g7
        replace GS2 := GS2.grow g7
        replace B1 := B1.grow g7
        replace B6 := B6.grow g7
        have zg7 := g7.size
        refine ⟨GS2, ?_⟩
        refine D_q (i := 3) rfl (by kernel_rfl) (fun _ _ _ h => h) GS2 (fun _ _ => Y_elem Try.underlying70 Try.underlying69 rfl sz69 rfl rfl (by omega) hops) ?_
        refine D_1 (i := 5) (by kernel_rfl) ?_
        refine E_stM (pre := []) (old := [_, _, _, _]) (post := []) (vs := [_, _, _, _]) (i := 5) rfl sz69 rfl rfl rfl (by first | rfl | assumption) B6 rfl rfl ?_
        intro w8 m8 X8
        replace B6 := Blk.eq (ys := [_, _, _, _]) X8 rfl
        clear X8
        replace G := G.above m8 (by intro i h; first | omega | (dsimp only at h; omega))
        replace GS2 := GS2.above m8 (by intro i h; first | omega | (dsimp only at h; omega))
        replace B1 := B1.mod m8 (by intro h; first | omega | (dsimp only at h; omega))
        have zm8 := m8.size
        refine ⟨GS2, ?_⟩
        refine D_end (L' := (_ :: _ :: _ :: _ :: _ :: _ :: _ :: _ :: _ :: _ :: _ :: _ :: _ :: _ :: _ :: _ :: _ :: _ :: _ :: _ :: _ :: _ :: _ :: _ :: _ :: _ :: _ :: _ :: _ :: _ :: _ :: _ :: _ :: _ :: _ :: _ :: _ :: _ :: _ :: _ :: _ :: _ :: _ :: _ :: _ :: _ :: _ :: _ :: [])) (by kernel_rfl) rfl rfl ?_
        refine th_n ?_
        refine hK6 _ _ ?_
        clear hK6 K6
        refine wp_seq_k fun K8 hK8 => ?_
        refine wp_region_lit ?_  -- region 4 l8_programs.go:77
        refine S_beg 48 rfl ?_
        refine S_val (Y_field Try.underlying25 rfl fz25_1 (by decide) rfl) ?_
        refine S_val (Y_load Try.underlying3 rfl rfl (by first | assumption | exact B1.at (by rfl) | exact B6.at (by rfl))) ?_
        refine S_val (Y_geq rfl rfl) ?_
        refine S_val (Y_move rfl) ?_
        refine S_g 19 rfl (fun hb3 => ?_) (fun hb3 => ?_)  -- g7
        · -- g7T
          first | with_reducible (replace hb3 := nb_nt hb3) | with_reducible (replace hb3 := nb_nf hb3) | with_reducible (replace hb3 := nb_tt hb3) | with_reducible (replace hb3 := nb_tf hb3) | with_reducible (replace hb3 := nb_bt hb3) | with_reducible (replace hb3 := nb_bf hb3) | skip
          refine S_on rfl rfl ?_
          refine S_val (Y_field Try.underlying25 rfl fz25_1 (by decide) rfl) ?_
          refine S_on rfl rfl ?_
          refine S_val (Y_load Try.underlying3 rfl rfl (by first | assumption | exact B1.at (by rfl) | exact B6.at (by rfl))) ?_
          refine S_on rfl rfl ?_
          refine S_val (Y_lss rfl rfl) ?_
          refine S_val (Y_pickT rfl rfl) ?_
          refine S_val (Y_move rfl) ?_
          refine S_g 24 rfl (fun hb4 => ?_) (fun hb4 => ?_)  -- g8
          · -- g8T
            first | with_reducible (replace hb4 := nb_nt hb4) | with_reducible (replace hb4 := nb_nf hb4) | with_reducible (replace hb4 := nb_tt hb4) | with_reducible (replace hb4 := nb_tf hb4) | with_reducible (replace hb4 := nb_bt hb4) | with_reducible (replace hb4 := nb_bf hb4) | skip
            refine S_on rfl rfl ?_
            refine S_val (Y_field Try.underlying25 rfl fz25_2 (by decide) rfl) ?_
            refine S_on rfl rfl ?_
            refine S_val (Y_load Try.underlying3 rfl rfl (by first | assumption | exact B1.at (by rfl) | exact B6.at (by rfl))) ?_
            refine S_on rfl rfl ?_
            refine S_val (Y_geq rfl rfl) ?_
            refine S_val (Y_pickT rfl rfl) ?_
            refine S_val (Y_move rfl) ?_
            refine S_g 29 rfl (fun hb5 => ?_) (fun hb5 => ?_)  -- g9
            · -- g9T
              first | with_reducible (replace hb5 := nb_nt hb5) | with_reducible (replace hb5 := nb_nf hb5) | with_reducible (replace hb5 := nb_tt hb5) | with_reducible (replace hb5 := nb_tf hb5) | with_reducible (replace hb5 := nb_bt hb5) | with_reducible (replace hb5 := nb_bf hb5) | skip
              refine S_on rfl rfl ?_
              refine S_val (Y_field Try.underlying25 rfl fz25_2 (by decide) rfl) ?_
              refine S_on rfl rfl ?_
              refine S_val (Y_load Try.underlying3 rfl rfl (by first | assumption | exact B1.at (by rfl) | exact B6.at (by rfl))) ?_
              refine S_on rfl rfl ?_
              refine S_val (Y_field Try.underlying69 rfl fz69_0 (by decide) rfl) ?_
              refine S_on rfl rfl ?_
              refine S_val (Y_load Try.underlying3 rfl rfl (by first | assumption | exact B1.at (by rfl) | exact B6.at (by rfl))) ?_
              refine S_on rfl rfl ?_
              refine S_val (Y_leq rfl rfl) ?_
              refine S_val (Y_pickT rfl rfl) ?_
              refine S_val (Y_move rfl) ?_
              refine S_g 36 rfl (fun hb6 => ?_) (fun hb6 => ?_)  -- g10
              · -- g10T
                first | with_reducible (replace hb6 := nb_nt hb6) | with_reducible (replace hb6 := nb_nf hb6) | with_reducible (replace hb6 := nb_tt hb6) | with_reducible (replace hb6 := nb_tf hb6) | with_reducible (replace hb6 := nb_bt hb6) | with_reducible (replace hb6 := nb_bf hb6) | skip
                refine S_on rfl rfl ?_
                refine S_val (Y_field Try.underlying25 rfl fz25_3 (by decide) rfl) ?_
                refine S_on rfl rfl ?_
                refine S_val (Y_load Try.underlying3 rfl rfl (by first | assumption | exact B1.at (by rfl) | exact B6.at (by rfl))) ?_
                refine S_on rfl rfl ?_
                refine S_val (Y_geq rfl rfl) ?_
                refine S_val (Y_pickT rfl rfl) ?_
                refine S_val (Y_move rfl) ?_
                refine S_g 41 rfl (fun hb7 => ?_) (fun hb7 => ?_)  -- g11
                · -- g11T
                  first | with_reducible (replace hb7 := nb_nt hb7) | with_reducible (replace hb7 := nb_nf hb7) | with_reducible (replace hb7 := nb_tt hb7) | with_reducible (replace hb7 := nb_tf hb7) | with_reducible (replace hb7 := nb_bt hb7) | with_reducible (replace hb7 := nb_bf hb7) | skip
                  refine S_on rfl rfl ?_
                  refine S_val (Y_field Try.underlying25 rfl fz25_3 (by decide) rfl) ?_
                  refine S_on rfl rfl ?_
                  refine S_val (Y_load Try.underlying3 rfl rfl (by first | assumption | exact B1.at (by rfl) | exact B6.at (by rfl))) ?_
                  refine S_on rfl rfl ?_
                  refine S_val (Y_field Try.underlying69 rfl fz69_1 (by decide) rfl) ?_
                  refine S_on rfl rfl ?_
                  refine S_val (Y_load Try.underlying3 rfl rfl (by first | assumption | exact B1.at (by rfl) | exact B6.at (by rfl))) ?_
                  refine S_on rfl rfl ?_
                  refine S_val (Y_leq rfl rfl) ?_
                  refine S_val (Y_pickT rfl rfl) ?_
                  refine S_val (Y_assign rfl) ?_
                  refine S_nil (L' := (_ :: _ :: _ :: _ :: _ :: _ :: _ :: _ :: _ :: _ :: _ :: _ :: _ :: _ :: _ :: _ :: _ :: _ :: _ :: _ :: _ :: _ :: _ :: _ :: _ :: _ :: _ :: _ :: _ :: _ :: _ :: _ :: _ :: _ :: _ :: _ :: _ :: _ :: _ :: _ :: _ :: _ :: _ :: _ :: _ :: _ :: _ :: _ :: [])) rfl rfl ?_
                  refine th_n ?_
                  refine hK8 _ _ ?_
                  clear hK8 K8
                  refine wp_ret ?_
                  refine ret_r1 rfl rfl ?_  -- r9
                  exact ⟨by first | exact cvB_f (by unfold cvP; dsimp only; omega) | exact cvB_d (by unfold cvP; dsimp only; omega) | exact cvB_t (by unfold cvP; dsimp only; omega), G⟩
                · -- g11F
                  first | with_reducible (replace hb7 := nb_nt hb7) | with_reducible (replace hb7 := nb_nf hb7) | with_reducible (replace hb7 := nb_tt hb7) | with_reducible (replace hb7 := nb_tf hb7) | with_reducible (replace hb7 := nb_bt hb7) | with_reducible (replace hb7 := nb_bf hb7) | skip
                  refine S_off rfl rfl ?_
                  refine S_off rfl rfl ?_
                  refine S_off rfl rfl ?_
                  refine S_off rfl rfl ?_
                  refine S_off rfl rfl ?_
                  refine S_val (Y_pickF rfl rfl) ?_
                  refine S_val (Y_assign rfl) ?_
                  refine S_nil (L' := (_ :: _ :: _ :: _ :: _ :: _ :: _ :: _ :: _ :: _ :: _ :: _ :: _ :: _ :: _ :: _ :: _ :: _ :: _ :: _ :: _ :: _ :: _ :: _ :: _ :: _ :: _ :: _ :: _ :: _ :: _ :: _ :: _ :: _ :: _ :: _ :: _ :: _ :: _ :: _ :: _ :: _ :: _ :: _ :: _ :: _ :: _ :: _ :: [])) rfl rfl ?_
                  refine th_n ?_
                  refine hK8 _ _ ?_
                  clear hK8 K8
                  refine wp_ret ?_
                  refine ret_r1 rfl rfl ?_  -- r10
                  exact ⟨by first | exact cvB_f (by unfold cvP; dsimp only; omega) | exact cvB_d (by unfold cvP; dsimp only; omega) | exact cvB_t (by unfold cvP; dsimp only; omega), G⟩
              · -- g10F
                first | with_reducible (replace hb6 := nb_nt hb6) | with_reducible (replace hb6 := nb_nf hb6) | with_reducible (replace hb6 := nb_tt hb6) | with_reducible (replace hb6 := nb_tf hb6) | with_reducible (replace hb6 := nb_bt hb6) | with_reducible (replace hb6 := nb_bf hb6) | skip
                refine S_off rfl rfl ?_
                refine S_off rfl rfl ?_
                refine S_off rfl rfl ?_
                refine S_val (Y_pickF rfl rfl) ?_
                refine S_val (Y_move rfl) ?_
                refine S_off rfl rfl ?_
                refine S_off rfl rfl ?_
                refine S_off rfl rfl ?_
                refine S_off rfl rfl ?_
                refine S_off rfl rfl ?_
                refine S_val (Y_pickF rfl rfl) ?_
                refine S_val (Y_assign rfl) ?_
                refine S_nil (L' := (_ :: _ :: _ :: _ :: _ :: _ :: _ :: _ :: _ :: _ :: _ :: _ :: _ :: _ :: _ :: _ :: _ :: _ :: _ :: _ :: _ :: _ :: _ :: _ :: _ :: _ :: _ :: _ :: _ :: _ :: _ :: _ :: _ :: _ :: _ :: _ :: _ :: _ :: _ :: _ :: _ :: _ :: _ :: _ :: _ :: _ :: _ :: _ :: [])) rfl rfl ?_
                refine th_n ?_
                refine hK8 _ _ ?_
                clear hK8 K8
                refine wp_ret ?_
                refine ret_r1 rfl rfl ?_  -- r11
                exact ⟨by first | exact cvB_f (by unfold cvP; dsimp only; omega) | exact cvB_d (by unfold cvP; dsimp only; omega) | exact cvB_t (by unfold cvP; dsimp only; omega), G⟩
            · -- g9F
              first | with_reducible (replace hb5 := nb_nt hb5) | with_reducible (replace hb5 := nb_nf hb5) | with_reducible (replace hb5 := nb_tt hb5) | with_reducible (replace hb5 := nb_tf hb5) | with_reducible (replace hb5 := nb_bt hb5) | with_reducible (replace hb5 := nb_bf hb5) | skip
              refine S_off rfl rfl ?_
              refine S_off rfl rfl ?_
              refine S_off rfl rfl ?_
              refine S_off rfl rfl ?_
              refine S_off rfl rfl ?_
              refine S_val (Y_pickF rfl rfl) ?_
              refine S_val (Y_move rfl) ?_
              refine S_off rfl rfl ?_
              refine S_off rfl rfl ?_
              refine S_off rfl rfl ?_
              refine S_val (Y_pickF rfl rfl) ?_
              refine S_val (Y_move rfl) ?_
              refine S_off rfl rfl ?_
              refine S_off rfl rfl ?_
              refine S_off rfl rfl ?_
              refine S_off rfl rfl ?_
              refine S_off rfl rfl ?_
              refine S_val (Y_pickF rfl rfl) ?_
              refine S_val (Y_assign rfl) ?_
              refine S_nil (L' := (_ :: _ :: _ :: _ :: _ :: _ :: _ :: _ :: _ :: _ :: _ :: _ :: _ :: _ :: _ :: _ :: _ :: _ :: _ :: _ :: _ :: _ :: _ :: _ :: _ :: _ :: _ :: _ :: _ :: _ :: _ :: _ :: _ :: _ :: _ :: _ :: _ :: _ :: _ :: _ :: _ :: _ :: _ :: _ :: _ :: _ :: _ :: _ :: [])) rfl rfl ?_
              refine th_n ?_
              refine hK8 _ _ ?_
              clear hK8 K8
              refine wp_ret ?_
              refine ret_r1 rfl rfl ?_  -- r12
              exact ⟨by first | exact cvB_f (by unfold cvP; dsimp only; omega) | exact cvB_d (by unfold cvP; dsimp only; omega) | exact cvB_t (by unfold cvP; dsimp only; omega), G⟩
          · -- g8F
            first | with_reducible (replace hb4 := nb_nt hb4) | with_reducible (replace hb4 := nb_nf hb4) | with_reducible (replace hb4 := nb_tt hb4) | with_reducible (replace hb4 := nb_tf hb4) | with_reducible (replace hb4 := nb_bt hb4) | with_reducible (replace hb4 := nb_bf hb4) | skip
            refine S_off rfl rfl ?_
            refine S_off rfl rfl ?_
            refine S_off rfl rfl ?_
            refine S_val (Y_pickF rfl rfl) ?_
            refine S_val (Y_move rfl) ?_
            refine S_off rfl rfl ?_
            refine S_off rfl rfl ?_
            refine S_off rfl rfl ?_
            refine S_off rfl rfl ?_
            refine S_off rfl rfl ?_
            refine S_val (Y_pickF rfl rfl) ?_
            refine S_val (Y_move rfl) ?_
            refine S_off rfl rfl ?_
            refine S_off rfl rfl ?_
            refine S_off rfl rfl ?_
            refine S_val (Y_pickF rfl rfl) ?_
            refine S_val (Y_move rfl) ?_
            refine S_off rfl rfl ?_
            refine S_off rfl rfl ?_
            refine S_off rfl rfl ?_
            refine S_off rfl rfl ?_
            refine S_off rfl rfl ?_
            refine S_val (Y_pickF rfl rfl) ?_
            refine S_val (Y_assign rfl) ?_
            refine S_nil (L' := (_ :: _ :: _ :: _ :: _ :: _ :: _ :: _ :: _ :: _ :: _ :: _ :: _ :: _ :: _ :: _ :: _ :: _ :: _ :: _ :: _ :: _ :: _ :: _ :: _ :: _ :: _ :: _ :: _ :: _ :: _ :: _ :: _ :: _ :: _ :: _ :: _ :: _ :: _ :: _ :: _ :: _ :: _ :: _ :: _ :: _ :: _ :: _ :: [])) rfl rfl ?_
            refine th_n ?_
            refine hK8 _ _ ?_
            clear hK8 K8
            refine wp_ret ?_
            refine ret_r1 rfl rfl ?_  -- r13
            exact ⟨by first | exact cvB_f (by unfold cvP; dsimp only; omega) | exact cvB_d (by unfold cvP; dsimp only; omega) | exact cvB_t (by unfold cvP; dsimp only; omega), G⟩
        · -- g7F
          first | with_reducible (replace hb3 := nb_nt hb3) | with_reducible (replace hb3 := nb_nf hb3) | with_reducible (replace hb3 := nb_tt hb3) | with_reducible (replace hb3 := nb_tf hb3) | with_reducible (replace hb3 := nb_bt hb3) | with_reducible (replace hb3 := nb_bf hb3) | skip
          refine S_off rfl rfl ?_
          refine S_off rfl rfl ?_
          refine S_off rfl rfl ?_
          refine S_val (Y_pickF rfl rfl) ?_
          refine S_val (Y_move rfl) ?_
          refine S_off rfl rfl ?_
          refine S_off rfl rfl ?_
          refine S_off rfl rfl ?_
          refine S_val (Y_pickF rfl rfl) ?_
          refine S_val (Y_move rfl) ?_
          refine S_off rfl rfl ?_
          refine S_off rfl rfl ?_
          refine S_off rfl rfl ?_
          refine S_off rfl rfl ?_
          refine S_off rfl rfl ?_
          refine S_val (Y_pickF rfl rfl) ?_
          refine S_val (Y_move rfl) ?_
          refine S_off rfl rfl ?_
          refine S_off rfl rfl ?_
          refine S_off rfl rfl ?_
          refine S_val (Y_pickF rfl rfl) ?_
          refine S_val (Y_move rfl) ?_
          refine S_off rfl rfl ?_
          refine S_off rfl rfl ?_
          refine S_off rfl rfl ?_
          refine S_off rfl rfl ?_
          refine S_off rfl rfl ?_
          refine S_val (Y_pickF rfl rfl) ?_
          refine S_val (Y_assign rfl) ?_
          refine S_nil (L' := (_ :: _ :: _ :: _ :: _ :: _ :: _ :: _ :: _ :: _ :: _ :: _ :: _ :: _ :: _ :: _ :: _ :: _ :: _ :: _ :: _ :: _ :: _ :: _ :: _ :: _ :: _ :: _ :: _ :: _ :: _ :: _ :: _ :: _ :: _ :: _ :: _ :: _ :: _ :: _ :: _ :: _ :: _ :: _ :: _ :: _ :: _ :: _ :: [])) rfl rfl ?_
          refine th_n ?_
          refine hK8 _ _ ?_
          clear hK8 K8
          refine wp_ret ?_
          refine ret_r1 rfl rfl ?_  -- r14
          exact ⟨by first | exact cvB_f (by unfold cvP; dsimp only; omega) | exact cvB_d (by unfold cvP; dsimp only; omega) | exact cvB_t (by unfold cvP; dsimp only; omega), G⟩

set_option maxHeartbeats 400000 in
set_option maxRecDepth 20000 in
theorem spec_CommandValid_c (op a b c : Int) (w : World) :
    Calls Try.prog 15 #[.agg #[.int .i64 op, .int .i64 a, .int .i64 b, .int .i64 c]] w (Ret fun v w' => v = .bool (cvB ⟨op, a, b, c⟩) ∧ Grow w w') := by
  refine enter Try.func15 rfl Try.ntmps15 (L := (_ :: _ :: _ :: _ :: _ :: _ :: _ :: _ :: _ :: _ :: _ :: _ :: _ :: _ :: _ :: _ :: _ :: _ :: _ :: _ :: _ :: _ :: _ :: _ :: _ :: _ :: _ :: _ :: _ :: _ :: _ :: _ :: _ :: _ :: _ :: _ :: _ :: _ :: _ :: _ :: _ :: _ :: _ :: _ :: _ :: _ :: _ :: _ :: _ :: _ :: _ :: _ :: _ :: _ :: _ :: _ :: _ :: _ :: _ :: _ :: _ :: _ :: _ :: _ :: _ :: _ :: _ :: _ :: _ :: _ :: _ :: _ :: _ :: _ :: _ :: [])) rfl ?_
  have G := Mod.refl No w
  refine wp_seq_k fun K1 hK1 => ?_
  refine wp_region_lit ?_  -- region 0 l8_programs.go:6
  refine S_beg 75 rfl ?_
  refine S_box (cs := [_, _, _, _]) rfl rfl ?_
  intro b1 w1 fb1 g1 B1
  have lb1 := B1.lt
  replace G := G.grow g1
  have zg1 := g1.size
  refine S_val (Y_assign rfl) ?_
  refine S_nil (L' := (_ :: _ :: _ :: _ :: _ :: _ :: _ :: _ :: _ :: _ :: _ :: _ :: _ :: _ :: _ :: _ :: _ :: _ :: _ :: _ :: _ :: _ :: _ :: _ :: _ :: _ :: _ :: _ :: _ :: _ :: _ :: _ :: _ :: _ :: _ :: _ :: _ :: _ :: _ :: _ :: _ :: _ :: _ :: _ :: _ :: _ :: _ :: _ :: _ :: _ :: _ :: _ :: _ :: _ :: _ :: _ :: _ :: _ :: _ :: _ :: _ :: _ :: _ :: _ :: _ :: _ :: _ :: _ :: _ :: _ :: _ :: _ :: _ :: _ :: _ :: [])) rfl rfl ?_
  refine th_n ?_
  refine hK1 _ _ ?_
  clear hK1 K1
  refine wp_seq_k fun K2 hK2 => ?_
  refine wp_region_lit ?_  -- region 1 l8_programs.go:7
  refine S_beg 75 rfl ?_
  refine S_val (Y_field Try.underlying25 rfl fz25_1 (by decide) rfl) ?_
  refine S_val (Y_load Try.underlying3 rfl rfl (by first | assumption | exact B1.at (by rfl))) ?_
  refine S_call rfl en54 (spec_l1In_c _ _ _ _) ?_  -- k1 spec.l1In
  rintro v w' ⟨rfl, rfl⟩
  refine S_val (Y_assign rfl) ?_
  refine S_nil (L' := (_ :: _ :: _ :: _ :: _ :: _ :: _ :: _ :: _ :: _ :: _ :: _ :: _ :: _ :: _ :: _ :: _ :: _ :: _ :: _ :: _ :: _ :: _ :: _ :: _ :: _ :: _ :: _ :: _ :: _ :: _ :: _ :: _ :: _ :: _ :: _ :: _ :: _ :: _ :: _ :: _ :: _ :: _ :: _ :: _ :: _ :: _ :: _ :: _ :: _ :: _ :: _ :: _ :: _ :: _ :: _ :: _ :: _ :: _ :: _ :: _ :: _ :: _ :: _ :: _ :: _ :: _ :: _ :: _ :: _ :: _ :: _ :: _ :: _ :: _ :: [])) rfl rfl ?_
  refine th_n ?_
  refine hK2 _ _ ?_
  clear hK2 K2
  refine wp_seq_k fun K3 hK3 => ?_
  refine wp_region_lit ?_  -- region 2 l8_programs.go:8
  refine S_beg 75 rfl ?_
  refine S_val (Y_field Try.underlying25 rfl fz25_2 (by decide) rfl) ?_
  refine S_val (Y_load Try.underlying3 rfl rfl (by first | assumption | exact B1.at (by rfl))) ?_
  refine S_call rfl en54 (spec_l1In_c _ _ _ _) ?_  -- k2 spec.l1In
  rintro v w' ⟨rfl, rfl⟩
  refine S_val (Y_assign rfl) ?_
  refine S_nil (L' := (_ :: _ :: _ :: _ :: _ :: _ :: _ :: _ :: _ :: _ :: _ :: _ :: _ :: _ :: _ :: _ :: _ :: _ :: _ :: _ :: _ :: _ :: _ :: _ :: _ :: _ :: _ :: _ :: _ :: _ :: _ :: _ :: _ :: _ :: _ :: _ :: _ :: _ :: _ :: _ :: _ :: _ :: _ :: _ :: _ :: _ :: _ :: _ :: _ :: _ :: _ :: _ :: _ :: _ :: _ :: _ :: _ :: _ :: _ :: _ :: _ :: _ :: _ :: _ :: _ :: _ :: _ :: _ :: _ :: _ :: _ :: _ :: _ :: _ :: _ :: [])) rfl rfl ?_
  refine th_n ?_
  refine hK3 _ _ ?_
  clear hK3 K3
  refine wp_seq_k fun K4 hK4 => ?_
  refine wp_seq_k fun K5 hK5 => ?_
  refine wp_region_lit ?_  -- region 3 l8_programs.go:9
  refine S_beg 75 rfl ?_
  refine S_val (Y_field Try.underlying25 rfl fz25_0 (by decide) rfl) ?_
  refine S_val (Y_load Try.underlying3 rfl rfl (by first | assumption | exact B1.at (by rfl))) ?_
  refine S_nil (L' := (_ :: _ :: _ :: _ :: _ :: _ :: _ :: _ :: _ :: _ :: _ :: _ :: _ :: _ :: _ :: _ :: _ :: _ :: _ :: _ :: _ :: _ :: _ :: _ :: _ :: _ :: _ :: _ :: _ :: _ :: _ :: _ :: _ :: _ :: _ :: _ :: _ :: _ :: _ :: _ :: _ :: _ :: _ :: _ :: _ :: _ :: _ :: _ :: _ :: _ :: _ :: _ :: _ :: _ :: _ :: _ :: _ :: _ :: _ :: _ :: _ :: _ :: _ :: _ :: _ :: _ :: _ :: _ :: _ :: _ :: _ :: _ :: _ :: _ :: _ :: [])) rfl rfl ?_
  refine th_n ?_
  refine hK5 _ _ ?_
  clear hK5 K5
  refine wp_block ?_
  refine wp_seq_k fun K6 hK6 => ?_
  refine wp_region_lit ?_  -- region 4 l8_programs.go:10
  refine S_beg 75 rfl ?_
  refine S_val (Y_eql rfl rfl) ?_
  refine S_val (Y_assign rfl) ?_
  refine S_nil (L' := (_ :: _ :: _ :: _ :: _ :: _ :: _ :: _ :: _ :: _ :: _ :: _ :: _ :: _ :: _ :: _ :: _ :: _ :: _ :: _ :: _ :: _ :: _ :: _ :: _ :: _ :: _ :: _ :: _ :: _ :: _ :: _ :: _ :: _ :: _ :: _ :: _ :: _ :: _ :: _ :: _ :: _ :: _ :: _ :: _ :: _ :: _ :: _ :: _ :: _ :: _ :: _ :: _ :: _ :: _ :: _ :: _ :: _ :: _ :: _ :: _ :: _ :: _ :: _ :: _ :: _ :: _ :: _ :: _ :: _ :: _ :: _ :: _ :: _ :: _ :: [])) rfl rfl ?_
  refine th_n ?_
  refine hK6 _ _ ?_
  clear hK6 K6
  refine S_if rfl (fun hb1 => ?_) (fun hb1 => ?_)  -- c1
  · -- c1T
    first | with_reducible (replace hb1 := nb_nt hb1) | with_reducible (replace hb1 := nb_nf hb1) | with_reducible (replace hb1 := nb_tt hb1) | with_reducible (replace hb1 := nb_tf hb1) | with_reducible (replace hb1 := nb_bt hb1) | with_reducible (replace hb1 := nb_bf hb1) | skip
    refine wp_seq_k fun K7 hK7 => ?_
    refine wp_region_lit ?_  -- region 5 l8_programs.go:11
    refine S_beg 75 rfl ?_
    refine S_val (Y_move rfl) ?_
    refine S_val (Y_move rfl) ?_
    refine S_g 16 rfl (fun hb2 => ?_) (fun hb2 => ?_)  -- g1
    · -- g1T
      first | with_reducible (replace hb2 := nb_nt hb2) | with_reducible (replace hb2 := nb_nf hb2) | with_reducible (replace hb2 := nb_tt hb2) | with_reducible (replace hb2 := nb_tf hb2) | with_reducible (replace hb2 := nb_bt hb2) | with_reducible (replace hb2 := nb_bf hb2) | skip
      refine S_on rfl rfl ?_
      refine S_val (Y_field Try.underlying25 rfl fz25_2 (by decide) rfl) ?_
      refine S_on rfl rfl ?_
      refine S_val (Y_load Try.underlying3 rfl rfl (by first | assumption | exact B1.at (by rfl))) ?_
      refine S_on rfl rfl ?_
      refine S_call rfl en54 (spec_l1In_c _ _ _ _) ?_  -- k3 spec.l1In
      rintro v w' ⟨rfl, rfl⟩
      refine S_val (Y_pickT rfl rfl) ?_
      refine S_val (Y_move rfl) ?_
      refine S_g 21 rfl (fun hb3 => ?_) (fun hb3 => ?_)  -- g2
      · -- g2T
        first | with_reducible (replace hb3 := nb_nt hb3) | with_reducible (replace hb3 := nb_nf hb3) | with_reducible (replace hb3 := nb_tt hb3) | with_reducible (replace hb3 := nb_tf hb3) | with_reducible (replace hb3 := nb_bt hb3) | with_reducible (replace hb3 := nb_bf hb3) | skip
        refine S_on rfl rfl ?_
        refine S_val (Y_field Try.underlying25 rfl fz25_3 (by decide) rfl) ?_
        refine S_on rfl rfl ?_
        refine S_val (Y_load Try.underlying3 rfl rfl (by first | assumption | exact B1.at (by rfl))) ?_
        refine S_on rfl rfl ?_
        refine S_call rfl en54 (spec_l1In_c _ _ _ _) ?_  -- k4 spec.l1In
        rintro v w' ⟨rfl, rfl⟩
        refine S_val (Y_pickT rfl rfl) ?_
        refine S_val (Y_assign rfl) ?_
        refine S_nil (L' := (_ :: _ :: _ :: _ :: _ :: _ :: _ :: _ :: _ :: _ :: _ :: _ :: _ :: _ :: _ :: _ :: _ :: _ :: _ :: _ :: _ :: _ :: _ :: _ :: _ :: _ :: _ :: _ :: _ :: _ :: _ :: _ :: _ :: _ :: _ :: _ :: _ :: _ :: _ :: _ :: _ :: _ :: _ :: _ :: _ :: _ :: _ :: _ :: _ :: _ :: _ :: _ :: _ :: _ :: _ :: _ :: _ :: _ :: _ :: _ :: _ :: _ :: _ :: _ :: _ :: _ :: _ :: _ :: _ :: _ :: _ :: _ :: _ :: _ :: _ :: [])) rfl rfl ?_
        refine th_n ?_
        refine hK7 _ _ ?_
        clear hK7 K7
        refine wp_ret ?_
        refine ib_r ?_
        refine th_r ?_
        clear hK4 K4
        refine ret_r1 rfl rfl ?_  -- r1
        exact ⟨by first | exact cvB_f (by unfold cvP; dsimp only; omega) | exact cvB_d (by unfold cvP; dsimp only; omega) | exact cvB_t (by unfold cvP; dsimp only; omega), G⟩
      · -- g2F
        first | with_reducible (replace hb3 := nb_nt hb3) | with_reducible (replace hb3 := nb_nf hb3) | with_reducible (replace hb3 := nb_tt hb3) | with_reducible (replace hb3 := nb_tf hb3) | with_reducible (replace hb3 := nb_bt hb3) | with_reducible (replace hb3 := nb_bf hb3) | skip
        refine S_off rfl rfl ?_
        refine S_off rfl rfl ?_
        refine S_off rfl rfl ?_
        refine S_val (Y_pickF rfl rfl) ?_
        refine S_val (Y_assign rfl) ?_
        refine S_nil (L' := (_ :: _ :: _ :: _ :: _ :: _ :: _ :: _ :: _ :: _ :: _ :: _ :: _ :: _ :: _ :: _ :: _ :: _ :: _ :: _ :: _ :: _ :: _ :: _ :: _ :: _ :: _ :: _ :: _ :: _ :: _ :: _ :: _ :: _ :: _ :: _ :: _ :: _ :: _ :: _ :: _ :: _ :: _ :: _ :: _ :: _ :: _ :: _ :: _ :: _ :: _ :: _ :: _ :: _ :: _ :: _ :: _ :: _ :: _ :: _ :: _ :: _ :: _ :: _ :: _ :: _ :: _ :: _ :: _ :: _ :: _ :: _ :: _ :: _ :: _ :: [])) rfl rfl ?_
        refine th_n ?_
        refine hK7 _ _ ?_
        clear hK7 K7
        refine wp_ret ?_
        refine ib_r ?_
        refine th_r ?_
        clear hK4 K4
        refine ret_r1 rfl rfl ?_  -- r2
        exact ⟨by first | exact cvB_f (by unfold cvP; dsimp only; omega) | exact cvB_d (by unfold cvP; dsimp only; omega) | exact cvB_t (by unfold cvP; dsimp only; omega), G⟩
    · -- g1F
      first | with_reducible (replace hb2 := nb_nt hb2) | with_reducible (replace hb2 := nb_nf hb2) | with_reducible (replace hb2 := nb_tt hb2) | with_reducible (replace hb2 := nb_tf hb2) | with_reducible (replace hb2 := nb_bt hb2) | with_reducible (replace hb2 := nb_bf hb2) | skip
      refine S_off rfl rfl ?_
      refine S_off rfl rfl ?_
      refine S_off rfl rfl ?_
      refine S_val (Y_pickF rfl rfl) ?_
      refine S_val (Y_move rfl) ?_
      refine S_off rfl rfl ?_
      refine S_off rfl rfl ?_
      refine S_off rfl rfl ?_
      refine S_val (Y_pickF rfl rfl) ?_
      refine S_val (Y_assign rfl) ?_
      refine S_nil (L' := (_ :: _ :: _ :: _ :: _ :: _ :: _ :: _ :: _ :: _ :: _ :: _ :: _ :: _ :: _ :: _ :: _ :: _ :: _ :: _ :: _ :: _ :: _ :: _ :: _ :: _ :: _ :: _ :: _ :: _ :: _ :: _ :: _ :: _ :: _ :: _ :: _ :: _ :: _ :: _ :: _ :: _ :: _ :: _ :: _ :: _ :: _ :: _ :: _ :: _ :: _ :: _ :: _ :: _ :: _ :: _ :: _ :: _ :: _ :: _ :: _ :: _ :: _ :: _ :: _ :: _ :: _ :: _ :: _ :: _ :: _ :: _ :: _ :: _ :: _ :: [])) rfl rfl ?_
      refine th_n ?_
      refine hK7 _ _ ?_
      clear hK7 K7
      refine wp_ret ?_
      refine ib_r ?_
      refine th_r ?_
      clear hK4 K4
      refine ret_r1 rfl rfl ?_  -- r3
      exact ⟨by first | exact cvB_f (by unfold cvP; dsimp only; omega) | exact cvB_d (by unfold cvP; dsimp only; omega) | exact cvB_t (by unfold cvP; dsimp only; omega), G⟩
  · -- c1F
    first | with_reducible (replace hb1 := nb_nt hb1) | with_reducible (replace hb1 := nb_nf hb1) | with_reducible (replace hb1 := nb_tt hb1) | with_reducible (replace hb1 := nb_tf hb1) | with_reducible (replace hb1 := nb_bt hb1) | with_reducible (replace hb1 := nb_bf hb1) | skip
    refine wp_seq_k fun K8 hK8 => ?_
    refine wp_seq_k fun K9 hK9 => ?_
    refine wp_region_lit ?_  -- region 6 l8_programs.go:12
    refine S_beg 75 rfl ?_
    refine S_val (Y_eql rfl rfl) ?_
    refine S_val (Y_assign rfl) ?_
    refine S_nil (L' := (_ :: _ :: _ :: _ :: _ :: _ :: _ :: _ :: _ :: _ :: _ :: _ :: _ :: _ :: _ :: _ :: _ :: _ :: _ :: _ :: _ :: _ :: _ :: _ :: _ :: _ :: _ :: _ :: _ :: _ :: _ :: _ :: _ :: _ :: _ :: _ :: _ :: _ :: _ :: _ :: _ :: _ :: _ :: _ :: _ :: _ :: _ :: _ :: _ :: _ :: _ :: _ :: _ :: _ :: _ :: _ :: _ :: _ :: _ :: _ :: _ :: _ :: _ :: _ :: _ :: _ :: _ :: _ :: _ :: _ :: _ :: _ :: _ :: _ :: _ :: [])) rfl rfl ?_
    refine th_n ?_
    refine hK9 _ _ ?_
    clear hK9 K9
    refine S_if rfl (fun hb2 => ?_) (fun hb2 => ?_)  -- c2
    · -- c2T
      first | with_reducible (replace hb2 := nb_nt hb2) | with_reducible (replace hb2 := nb_nf hb2) | with_reducible (replace hb2 := nb_tt hb2) | with_reducible (replace hb2 := nb_tf hb2) | with_reducible (replace hb2 := nb_bt hb2) | with_reducible (replace hb2 := nb_bf hb2) | skip
      refine wp_skip ?_
      refine th_n ?_
      refine hK8 _ _ ?_
      clear hK8 K8
      refine S_if rfl (fun hb3 => ?_) (fun hb3 => ?_)  -- c3
      · -- c3T
        first | with_reducible (replace hb3 := nb_nt hb3) | with_reducible (replace hb3 := nb_nf hb3) | with_reducible (replace hb3 := nb_tt hb3) | with_reducible (replace hb3 := nb_tf hb3) | with_reducible (replace hb3 := nb_bt hb3) | with_reducible (replace hb3 := nb_bf hb3) | skip
        refine wp_seq_k fun K10 hK10 => ?_
        refine wp_region_lit ?_  -- region 8 l8_programs.go:13
        refine S_beg 75 rfl ?_
        refine S_val (Y_move rfl) ?_
        refine S_val (Y_move rfl) ?_
        refine S_g 30 rfl (fun hb4 => ?_) (fun hb4 => ?_)  -- g3
        · -- g3T
          first | with_reducible (replace hb4 := nb_nt hb4) | with_reducible (replace hb4 := nb_nf hb4) | with_reducible (replace hb4 := nb_tt hb4) | with_reducible (replace hb4 := nb_tf hb4) | with_reducible (replace hb4 := nb_bt hb4) | with_reducible (replace hb4 := nb_bf hb4) | skip
          refine S_on rfl rfl ?_
          refine S_val (Y_move rfl) ?_
          refine S_val (Y_pickT rfl rfl) ?_
          refine S_val (Y_move rfl) ?_
          refine S_g 33 rfl (fun hb5 => ?_) (fun hb5 => ?_)  -- g4
          · -- g4T
            first | with_reducible (replace hb5 := nb_nt hb5) | with_reducible (replace hb5 := nb_nf hb5) | with_reducible (replace hb5 := nb_tt hb5) | with_reducible (replace hb5 := nb_tf hb5) | with_reducible (replace hb5 := nb_bt hb5) | with_reducible (replace hb5 := nb_bf hb5) | skip
            refine S_on rfl rfl ?_
            refine S_val (Y_field Try.underlying25 rfl fz25_3 (by decide) rfl) ?_
            refine S_on rfl rfl ?_
            refine S_val (Y_load Try.underlying3 rfl rfl (by first | assumption | exact B1.at (by rfl))) ?_
            refine S_on rfl rfl ?_
            refine S_call rfl en54 (spec_l1In_c _ _ _ _) ?_  -- k5 spec.l1In
            rintro v w' ⟨rfl, rfl⟩
            refine S_val (Y_pickT rfl rfl) ?_
            refine S_val (Y_assign rfl) ?_
            refine S_nil (L' := (_ :: _ :: _ :: _ :: _ :: _ :: _ :: _ :: _ :: _ :: _ :: _ :: _ :: _ :: _ :: _ :: _ :: _ :: _ :: _ :: _ :: _ :: _ :: _ :: _ :: _ :: _ :: _ :: _ :: _ :: _ :: _ :: _ :: _ :: _ :: _ :: _ :: _ :: _ :: _ :: _ :: _ :: _ :: _ :: _ :: _ :: _ :: _ :: _ :: _ :: _ :: _ :: _ :: _ :: _ :: _ :: _ :: _ :: _ :: _ :: _ :: _ :: _ :: _ :: _ :: _ :: _ :: _ :: _ :: _ :: _ :: _ :: _ :: _ :: _ :: [])) rfl rfl ?_
            refine th_n ?_
            refine hK10 _ _ ?_
            clear hK10 K10
            refine wp_ret ?_
            refine ib_r ?_
            refine th_r ?_
            clear hK4 K4
            refine ret_r1 rfl rfl ?_  -- r4
            exact ⟨by first | exact cvB_f (by unfold cvP; dsimp only; omega) | exact cvB_d (by unfold cvP; dsimp only; omega) | exact cvB_t (by unfold cvP; dsimp only; omega), G⟩
          · -- g4F
            first | with_reducible (replace hb5 := nb_nt hb5) | with_reducible (replace hb5 := nb_nf hb5) | with_reducible (replace hb5 := nb_tt hb5) | with_reducible (replace hb5 := nb_tf hb5) | with_reducible (replace hb5 := nb_bt hb5) | with_reducible (replace hb5 := nb_bf hb5) | skip
            refine S_off rfl rfl ?_
            refine S_off rfl rfl ?_
            refine S_off rfl rfl ?_
            refine S_val (Y_pickF rfl rfl) ?_
            refine S_val (Y_assign rfl) ?_
            refine S_nil (L' := (_ :: _ :: _ :: _ :: _ :: _ :: _ :: _ :: _ :: _ :: _ :: _ :: _ :: _ :: _ :: _ :: _ :: _ :: _ :: _ :: _ :: _ :: _ :: _ :: _ :: _ :: _ :: _ :: _ :: _ :: _ :: _ :: _ :: _ :: _ :: _ :: _ :: _ :: _ :: _ :: _ :: _ :: _ :: _ :: _ :: _ :: _ :: _ :: _ :: _ :: _ :: _ :: _ :: _ :: _ :: _ :: _ :: _ :: _ :: _ :: _ :: _ :: _ :: _ :: _ :: _ :: _ :: _ :: _ :: _ :: _ :: _ :: _ :: _ :: _ :: [])) rfl rfl ?_
            refine th_n ?_
            refine hK10 _ _ ?_
            clear hK10 K10
            refine wp_ret ?_
            refine ib_r ?_
            refine th_r ?_
            clear hK4 K4
            refine ret_r1 rfl rfl ?_  -- r5
            exact ⟨by first | exact cvB_f (by unfold cvP; dsimp only; omega) | exact cvB_d (by unfold cvP; dsimp only; omega) | exact cvB_t (by unfold cvP; dsimp only; omega), G⟩
        · -- g3F
          first | with_reducible (replace hb4 := nb_nt hb4) | with_reducible (replace hb4 := nb_nf hb4) | with_reducible (replace hb4 := nb_tt hb4) | with_reducible (replace hb4 := nb_tf hb4) | with_reducible (replace hb4 := nb_bt hb4) | with_reducible (replace hb4 := nb_bf hb4) | skip
          refine S_off rfl rfl ?_
          refine S_val (Y_pickF rfl rfl) ?_
          refine S_val (Y_move rfl) ?_
          refine S_off rfl rfl ?_
          refine S_off rfl rfl ?_
          refine S_off rfl rfl ?_
          refine S_val (Y_pickF rfl rfl) ?_
          refine S_val (Y_assign rfl) ?_
          refine S_nil (L' := (_ :: _ :: _ :: _ :: _ :: _ :: _ :: _ :: _ :: _ :: _ :: _ :: _ :: _ :: _ :: _ :: _ :: _ :: _ :: _ :: _ :: _ :: _ :: _ :: _ :: _ :: _ :: _ :: _ :: _ :: _ :: _ :: _ :: _ :: _ :: _ :: _ :: _ :: _ :: _ :: _ :: _ :: _ :: _ :: _ :: _ :: _ :: _ :: _ :: _ :: _ :: _ :: _ :: _ :: _ :: _ :: _ :: _ :: _ :: _ :: _ :: _ :: _ :: _ :: _ :: _ :: _ :: _ :: _ :: _ :: _ :: _ :: _ :: _ :: _ :: [])) rfl rfl ?_
          refine th_n ?_
          refine hK10 _ _ ?_
          clear hK10 K10
          refine wp_ret ?_
          refine ib_r ?_
          refine th_r ?_
          clear hK4 K4
          refine ret_r1 rfl rfl ?_  -- r6
          exact ⟨by first | exact cvB_f (by unfold cvP; dsimp only; omega) | exact cvB_d (by unfold cvP; dsimp only; omega) | exact cvB_t (by unfold cvP; dsimp only; omega), G⟩
      · -- c3F
        first | with_reducible (replace hb3 := nb_nt hb3) | with_reducible (replace hb3 := nb_nf hb3) | with_reducible (replace hb3 := nb_tt hb3) | with_reducible (replace hb3 := nb_tf hb3) | with_reducible (replace hb3 := nb_bt hb3) | with_reducible (replace hb3 := nb_bf hb3) | skip
        refine wp_seq_k fun K11 hK11 => ?_
        refine wp_region_lit ?_  -- region 9 l8_programs.go:14
        refine S_beg 75 rfl ?_
        refine S_val (Y_eql rfl rfl) ?_
        refine S_val (Y_assign rfl) ?_
        refine S_nil (L' := (_ :: _ :: _ :: _ :: _ :: _ :: _ :: _ :: _ :: _ :: _ :: _ :: _ :: _ :: _ :: _ :: _ :: _ :: _ :: _ :: _ :: _ :: _ :: _ :: _ :: _ :: _ :: _ :: _ :: _ :: _ :: _ :: _ :: _ :: _ :: _ :: _ :: _ :: _ :: _ :: _ :: _ :: _ :: _ :: _ :: _ :: _ :: _ :: _ :: _ :: _ :: _ :: _ :: _ :: _ :: _ :: _ :: _ :: _ :: _ :: _ :: _ :: _ :: _ :: _ :: _ :: _ :: _ :: _ :: _ :: _ :: _ :: _ :: _ :: _ :: [])) rfl rfl ?_
        refine th_n ?_
        refine hK11 _ _ ?_
        clear hK11 K11
        refine S_if rfl (fun hb4 => ?_) (fun hb4 => ?_)  -- c4
        · -- c4T
          first | with_reducible (replace hb4 := nb_nt hb4) | with_reducible (replace hb4 := nb_nf hb4) | with_reducible (replace hb4 := nb_tt hb4) | with_reducible (replace hb4 := nb_tf hb4) | with_reducible (replace hb4 := nb_bt hb4) | with_reducible (replace hb4 := nb_bf hb4) | skip
          refine wp_seq_k fun K12 hK12 => ?_
          refine wp_region_lit ?_  -- region 10 l8_programs.go:15
          refine S_beg 75 rfl ?_
          refine S_val (Y_move rfl) ?_
          refine S_val (Y_move rfl) ?_
          refine S_g 41 rfl (fun hb5 => ?_) (fun hb5 => ?_)  -- g5
          · -- g5T
            first | with_reducible (replace hb5 := nb_nt hb5) | with_reducible (replace hb5 := nb_nf hb5) | with_reducible (replace hb5 := nb_tt hb5) | with_reducible (replace hb5 := nb_tf hb5) | with_reducible (replace hb5 := nb_bt hb5) | with_reducible (replace hb5 := nb_bf hb5) | skip
            refine S_on rfl rfl ?_
            refine S_val (Y_move rfl) ?_
            refine S_val (Y_pickT rfl rfl) ?_
            refine S_val (Y_move rfl) ?_
            refine S_g 44 rfl (fun hb6 => ?_) (fun hb6 => ?_)  -- g6
            · -- g6T
              first | with_reducible (replace hb6 := nb_nt hb6) | with_reducible (replace hb6 := nb_nf hb6) | with_reducible (replace hb6 := nb_tt hb6) | with_reducible (replace hb6 := nb_tf hb6) | with_reducible (replace hb6 := nb_bt hb6) | with_reducible (replace hb6 := nb_bf hb6) | skip
              refine S_on rfl rfl ?_
              refine S_val (Y_field Try.underlying25 rfl fz25_3 (by decide) rfl) ?_
              refine S_on rfl rfl ?_
              refine S_val (Y_load Try.underlying3 rfl rfl (by first | assumption | exact B1.at (by rfl))) ?_
              refine S_on rfl rfl ?_
              refine S_val (Y_eql rfl rfl) ?_
              refine S_val (Y_pickT rfl rfl) ?_
              refine S_val (Y_assign rfl) ?_
              refine S_nil (L' := (_ :: _ :: _ :: _ :: _ :: _ :: _ :: _ :: _ :: _ :: _ :: _ :: _ :: _ :: _ :: _ :: _ :: _ :: _ :: _ :: _ :: _ :: _ :: _ :: _ :: _ :: _ :: _ :: _ :: _ :: _ :: _ :: _ :: _ :: _ :: _ :: _ :: _ :: _ :: _ :: _ :: _ :: _ :: _ :: _ :: _ :: _ :: _ :: _ :: _ :: _ :: _ :: _ :: _ :: _ :: _ :: _ :: _ :: _ :: _ :: _ :: _ :: _ :: _ :: _ :: _ :: _ :: _ :: _ :: _ :: _ :: _ :: _ :: _ :: _ :: [])) rfl rfl ?_
              refine th_n ?_
              refine hK12 _ _ ?_
              clear hK12 K12
              refine wp_ret ?_
              refine ib_r ?_
              refine th_r ?_
              clear hK4 K4
              refine ret_r1 rfl rfl ?_  -- r7
              exact ⟨by first | exact cvB_f (by unfold cvP; dsimp only; omega) | exact cvB_d (by unfold cvP; dsimp only; omega) | exact cvB_t (by unfold cvP; dsimp only; omega), G⟩
            · -- g6F
              first | with_reducible (replace hb6 := nb_nt hb6) | with_reducible (replace hb6 := nb_nf hb6) | with_reducible (replace hb6 := nb_tt hb6) | with_reducible (replace hb6 := nb_tf hb6) | with_reducible (replace hb6 := nb_bt hb6) | with_reducible (replace hb6 := nb_bf hb6) | skip
              refine S_off rfl rfl ?_
              refine S_off rfl rfl ?_
              refine S_off rfl rfl ?_
              refine S_val (Y_pickF rfl rfl) ?_
              refine S_val (Y_assign rfl) ?_
              refine S_nil (L' := (_ :: _ :: _ :: _ :: _ :: _ :: _ :: _ :: _ :: _ :: _ :: _ :: _ :: _ :: _ :: _ :: _ :: _ :: _ :: _ :: _ :: _ :: _ :: _ :: _ :: _ :: _ :: _ :: _ :: _ :: _ :: _ :: _ :: _ :: _ :: _ :: _ :: _ :: _ :: _ :: _ :: _ :: _ :: _ :: _ :: _ :: _ :: _ :: _ :: _ :: _ :: _ :: _ :: _ :: _ :: _ :: _ :: _ :: _ :: _ :: _ :: _ :: _ :: _ :: _ :: _ :: _ :: _ :: _ :: _ :: _ :: _ :: _ :: _ :: _ :: [])) rfl rfl ?_
              refine th_n ?_
              refine hK12 _ _ ?_
              clear hK12 K12
              refine wp_ret ?_
              refine ib_r ?_
              refine th_r ?_
              clear hK4 K4
              refine ret_r1 rfl rfl ?_  -- r8
              exact ⟨by first | exact cvB_f (by unfold cvP; dsimp only; omega) | exact cvB_d (by unfold cvP; dsimp only; omega) | exact cvB_t (by unfold cvP; dsimp only; omega), G⟩
          · -- g5F
            first | with_reducible (replace hb5 := nb_nt hb5) | with_reducible (replace hb5 := nb_nf hb5) | with_reducible (replace hb5 := nb_tt hb5) | with_reducible (replace hb5 := nb_tf hb5) | with_reducible (replace hb5 := nb_bt hb5) | with_reducible (replace hb5 := nb_bf hb5) | skip
            refine S_off rfl rfl ?_
            refine S_val (Y_pickF rfl rfl) ?_
            refine S_val (Y_move rfl) ?_
            refine S_off rfl rfl ?_
            refine S_off rfl rfl ?_
            refine S_off rfl rfl ?_
            refine S_val (Y_pickF rfl rfl) ?_
            refine S_val (Y_assign rfl) ?_
            refine S_nil (L' := (_ :: _ :: _ :: _ :: _ :: _ :: _ :: _ :: _ :: _ :: _ :: _ :: _ :: _ :: _ :: _ :: _ :: _ :: _ :: _ :: _ :: _ :: _ :: _ :: _ :: _ :: _ :: _ :: _ :: _ :: _ :: _ :: _ :: _ :: _ :: _ :: _ :: _ :: _ :: _ :: _ :: _ :: _ :: _ :: _ :: _ :: _ :: _ :: _ :: _ :: _ :: _ :: _ :: _ :: _ :: _ :: _ :: _ :: _ :: _ :: _ :: _ :: _ :: _ :: _ :: _ :: _ :: _ :: _ :: _ :: _ :: _ :: _ :: _ :: _ :: [])) rfl rfl ?_
            refine th_n ?_
            refine hK12 _ _ ?_
            clear hK12 K12
            refine wp_ret ?_
            refine ib_r ?_
            refine th_r ?_
            clear hK4 K4
            refine ret_r1 rfl rfl ?_  -- r9
            exact ⟨by first | exact cvB_f (by unfold cvP; dsimp only; omega) | exact cvB_d (by unfold cvP; dsimp only; omega) | exact cvB_t (by unfold cvP; dsimp only; omega), G⟩
        · -- c4F
          first | with_reducible (replace hb4 := nb_nt hb4) | with_reducible (replace hb4 := nb_nf hb4) | with_reducible (replace hb4 := nb_tt hb4) | with_reducible (replace hb4 := nb_tf hb4) | with_reducible (replace hb4 := nb_bt hb4) | with_reducible (replace hb4 := nb_bf hb4) | skip
          refine wp_seq_k fun K13 hK13 => ?_
          refine wp_region_lit ?_  -- region 11 l8_programs.go:16
          refine S_beg 75 rfl ?_
          refine S_val (Y_eql rfl rfl) ?_
          refine S_val (Y_assign rfl) ?_
          refine S_nil (L' := (_ :: _ :: _ :: _ :: _ :: _ :: _ :: _ :: _ :: _ :: _ :: _ :: _ :: _ :: _ :: _ :: _ :: _ :: _ :: _ :: _ :: _ :: _ :: _ :: _ :: _ :: _ :: _ :: _ :: _ :: _ :: _ :: _ :: _ :: _ :: _ :: _ :: _ :: _ :: _ :: _ :: _ :: _ :: _ :: _ :: _ :: _ :: _ :: _ :: _ :: _ :: _ :: _ :: _ :: _ :: _ :: _ :: _ :: _ :: _ :: _ :: _ :: _ :: _ :: _ :: _ :: _ :: _ :: _ :: _ :: _ :: _ :: _ :: _ :: _ :: [])) rfl rfl ?_
          refine th_n ?_
          refine hK13 _ _ ?_
          clear hK13 K13
          refine S_if rfl (fun hb5 => ?_) (fun hb5 => ?_)  -- c5
          · -- c5T
            first | with_reducible (replace hb5 := nb_nt hb5) | with_reducible (replace hb5 := nb_nf hb5) | with_reducible (replace hb5 := nb_tt hb5) | with_reducible (replace hb5 := nb_tf hb5) | with_reducible (replace hb5 := nb_bt hb5) | with_reducible (replace hb5 := nb_bf hb5) | skip
            refine wp_seq_k fun K14 hK14 => ?_
            refine wp_region_lit ?_  -- region 12 l8_programs.go:17
            refine S_beg 75 rfl ?_
            refine S_val (Y_move rfl) ?_
            refine S_val (Y_move rfl) ?_
            refine S_g 52 rfl (fun hb6 => ?_) (fun hb6 => ?_)  -- g7
            · -- g7T
              first | with_reducible (replace hb6 := nb_nt hb6) | with_reducible (replace hb6 := nb_nf hb6) | with_reducible (replace hb6 := nb_tt hb6) | with_reducible (replace hb6 := nb_tf hb6) | with_reducible (replace hb6 := nb_bt hb6) | with_reducible (replace hb6 := nb_bf hb6) | skip
              refine S_on rfl rfl ?_
              refine S_val (Y_field Try.underlying25 rfl fz25_2 (by decide) rfl) ?_
              refine S_on rfl rfl ?_
              refine S_val (Y_load Try.underlying3 rfl rfl (by first | assumption | exact B1.at (by rfl))) ?_
              refine S_on rfl rfl ?_
              refine S_val (Y_eql rfl rfl) ?_
              refine S_val (Y_pickT rfl rfl) ?_
              refine S_val (Y_move rfl) ?_
              refine S_g 57 rfl (fun hb7 => ?_) (fun hb7 => ?_)  -- g8
              · -- g8T
                first | with_reducible (replace hb7 := nb_nt hb7) | with_reducible (replace hb7 := nb_nf hb7) | with_reducible (replace hb7 := nb_tt hb7) | with_reducible (replace hb7 := nb_tf hb7) | with_reducible (replace hb7 := nb_bt hb7) | with_reducible (replace hb7 := nb_bf hb7) | skip
                refine S_on rfl rfl ?_
                refine S_val (Y_field Try.underlying25 rfl fz25_3 (by decide) rfl) ?_
                refine S_on rfl rfl ?_
                refine S_val (Y_load Try.underlying3 rfl rfl (by first | assumption | exact B1.at (by rfl))) ?_
                refine S_on rfl rfl ?_
                refine S_val (Y_eql rfl rfl) ?_
                refine S_val (Y_pickT rfl rfl) ?_
                refine S_val (Y_assign rfl) ?_
                refine S_nil (L' := (_ :: _ :: _ :: _ :: _ :: _ :: _ :: _ :: _ :: _ :: _ :: _ :: _ :: _ :: _ :: _ :: _ :: _ :: _ :: _ :: _ :: _ :: _ :: _ :: _ :: _ :: _ :: _ :: _ :: _ :: _ :: _ :: _ :: _ :: _ :: _ :: _ :: _ :: _ :: _ :: _ :: _ :: _ :: _ :: _ :: _ :: _ :: _ :: _ :: _ :: _ :: _ :: _ :: _ :: _ :: _ :: _ :: _ :: _ :: _ :: _ :: _ :: _ :: _ :: _ :: _ :: _ :: _ :: _ :: _ :: _ :: _ :: _ :: _ :: _ :: [])) rfl rfl ?_
                refine th_n ?_
                refine hK14 _ _ ?_
                clear hK14 K14
                refine wp_ret ?_
                refine ib_r ?_
                refine th_r ?_
                clear hK4 K4
                refine ret_r1 rfl rfl ?_  -- r10
                exact ⟨by first | exact cvB_f (by unfold cvP; dsimp only; omega) | exact cvB_d (by unfold cvP; dsimp only; omega) | exact cvB_t (by unfold cvP; dsimp only; omega), G⟩
              · -- g8F
                first | with_reducible (replace hb7 := nb_nt hb7) | with_reducible (replace hb7 := nb_nf hb7) | with_reducible (replace hb7 := nb_tt hb7) | with_reducible (replace hb7 := nb_tf hb7) | with_reducible (replace hb7 := nb_bt hb7) | with_reducible (replace hb7 := nb_bf hb7) | skip
                refine S_off rfl rfl ?_
                refine S_off rfl rfl ?_
                refine S_off rfl rfl ?_
                refine S_val (Y_pickF rfl rfl) ?_
                refine S_val (Y_assign rfl) ?_
                refine S_nil (L' := (_ :: _ :: _ :: _ :: _ :: _ :: _ :: _ :: _ :: _ :: _ :: _ :: _ :: _ :: _ :: _ :: _ :: _ :: _ :: _ :: _ :: _ :: _ :: _ :: _ :: _ :: _ :: _ :: _ :: _ :: _ :: _ :: _ :: _ :: _ :: _ :: _ :: _ :: _ :: _ :: _ :: _ :: _ :: _ :: _ :: _ :: _ :: _ :: _ :: _ :: _ :: _ :: _ :: _ :: _ :: _ :: _ :: _ :: _ :: _ :: _ :: _ :: _ :: _ :: _ :: _ :: _ :: _ :: _ :: _ :: _ :: _ :: _ :: _ :: _ :: [])) rfl rfl ?_
                refine th_n ?_
                refine hK14 _ _ ?_
                clear hK14 K14
                refine wp_ret ?_
                refine ib_r ?_
                refine th_r ?_
                clear hK4 K4
                refine ret_r1 rfl rfl ?_  -- r11
                exact ⟨by first | exact cvB_f (by unfold cvP; dsimp only; omega) | exact cvB_d (by unfold cvP; dsimp only; omega) | exact cvB_t (by unfold cvP; dsimp only; omega), G⟩
            · -- g7F
              first | with_reducible (replace hb6 := nb_nt hb6) | with_reducible (replace hb6 := nb_nf hb6) | with_reducible (replace hb6 := nb_tt hb6) | with_reducible (replace hb6 := nb_tf hb6) | with_reducible (replace hb6 := nb_bt hb6) | with_reducible (replace hb6 := nb_bf hb6) | skip
              refine S_off rfl rfl ?_
              refine S_off rfl rfl ?_
              refine S_off rfl rfl ?_
              refine S_val (Y_pickF rfl rfl) ?_
              refine S_val (Y_move rfl) ?_
              refine S_off rfl rfl ?_
              refine S_off rfl rfl ?_
              refine S_off rfl rfl ?_
              refine S_val (Y_pickF rfl rfl) ?_
              refine S_val (Y_assign rfl) ?_
              refine S_nil (L' := (_ :: _ :: _ :: _ :: _ :: _ :: _ :: _ :: _ :: _ :: _ :: _ :: _ :: _ :: _ :: _ :: _ :: _ :: _ :: _ :: _ :: _ :: _ :: _ :: _ :: _ :: _ :: _ :: _ :: _ :: _ :: _ :: _ :: _ :: _ :: _ :: _ :: _ :: _ :: _ :: _ :: _ :: _ :: _ :: _ :: _ :: _ :: _ :: _ :: _ :: _ :: _ :: _ :: _ :: _ :: _ :: _ :: _ :: _ :: _ :: _ :: _ :: _ :: _ :: _ :: _ :: _ :: _ :: _ :: _ :: _ :: _ :: _ :: _ :: _ :: [])) rfl rfl ?_
              refine th_n ?_
              refine hK14 _ _ ?_
              clear hK14 K14
              refine wp_ret ?_
              refine ib_r ?_
              refine th_r ?_
              clear hK4 K4
              refine ret_r1 rfl rfl ?_  -- r12
              exact ⟨by first | exact cvB_f (by unfold cvP; dsimp only; omega) | exact cvB_d (by unfold cvP; dsimp only; omega) | exact cvB_t (by unfold cvP; dsimp only; omega), G⟩
          · -- c5F
            first | with_reducible (replace hb5 := nb_nt hb5) | with_reducible (replace hb5 := nb_nf hb5) | with_reducible (replace hb5 := nb_tt hb5) | with_reducible (replace hb5 := nb_tf hb5) | with_reducible (replace hb5 := nb_bt hb5) | with_reducible (replace hb5 := nb_bf hb5) | skip
            refine wp_seq_k fun K15 hK15 => ?_
            refine wp_region_lit ?_  -- region 13 l8_programs.go:18
            refine S_beg 75 rfl ?_
            refine S_val (Y_eql rfl rfl) ?_
            refine S_val (Y_assign rfl) ?_
            refine S_nil (L' := (_ :: _ :: _ :: _ :: _ :: _ :: _ :: _ :: _ :: _ :: _ :: _ :: _ :: _ :: _ :: _ :: _ :: _ :: _ :: _ :: _ :: _ :: _ :: _ :: _ :: _ :: _ :: _ :: _ :: _ :: _ :: _ :: _ :: _ :: _ :: _ :: _ :: _ :: _ :: _ :: _ :: _ :: _ :: _ :: _ :: _ :: _ :: _ :: _ :: _ :: _ :: _ :: _ :: _ :: _ :: _ :: _ :: _ :: _ :: _ :: _ :: _ :: _ :: _ :: _ :: _ :: _ :: _ :: _ :: _ :: _ :: _ :: _ :: _ :: _ :: [])) rfl rfl ?_
            refine th_n ?_
            refine hK15 _ _ ?_
            clear hK15 K15
            refine S_if rfl (fun hb6 => ?_) (fun hb6 => ?_)  -- c6
            · -- c6T
              first | with_reducible (replace hb6 := nb_nt hb6) | with_reducible (replace hb6 := nb_nf hb6) | with_reducible (replace hb6 := nb_tt hb6) | with_reducible (replace hb6 := nb_tf hb6) | with_reducible (replace hb6 := nb_bt hb6) | with_reducible (replace hb6 := nb_bf hb6) | skip
              refine wp_seq_k fun K16 hK16 => ?_
              refine wp_region_lit ?_  -- region 14 l8_programs.go:19
              refine S_beg 75 rfl ?_
              refine S_val (Y_move rfl) ?_
              refine S_val (Y_move rfl) ?_
              refine S_g 65 rfl (fun hb7 => ?_) (fun hb7 => ?_)  -- g9
              · -- g9T
                first | with_reducible (replace hb7 := nb_nt hb7) | with_reducible (replace hb7 := nb_nf hb7) | with_reducible (replace hb7 := nb_tt hb7) | with_reducible (replace hb7 := nb_tf hb7) | with_reducible (replace hb7 := nb_bt hb7) | with_reducible (replace hb7 := nb_bf hb7) | skip
                refine S_on rfl rfl ?_
                refine S_val (Y_field Try.underlying25 rfl fz25_2 (by decide) rfl) ?_
                refine S_on rfl rfl ?_
                refine S_val (Y_load Try.underlying3 rfl rfl (by first | assumption | exact B1.at (by rfl))) ?_
                refine S_on rfl rfl ?_
                refine S_call rfl en54 (spec_l1In_c _ _ _ _) ?_  -- k6 spec.l1In
                rintro v w' ⟨rfl, rfl⟩
                refine S_val (Y_pickT rfl rfl) ?_
                refine S_val (Y_move rfl) ?_
                refine S_g 70 rfl (fun hb8 => ?_) (fun hb8 => ?_)  -- g10
                · -- g10T
                  first | with_reducible (replace hb8 := nb_nt hb8) | with_reducible (replace hb8 := nb_nf hb8) | with_reducible (replace hb8 := nb_tt hb8) | with_reducible (replace hb8 := nb_tf hb8) | with_reducible (replace hb8 := nb_bt hb8) | with_reducible (replace hb8 := nb_bf hb8) | skip
                  refine S_on rfl rfl ?_
                  refine S_val (Y_field Try.underlying25 rfl fz25_3 (by decide) rfl) ?_
                  refine S_on rfl rfl ?_
                  refine S_val (Y_load Try.underlying3 rfl rfl (by first | assumption | exact B1.at (by rfl))) ?_
                  refine S_on rfl rfl ?_
                  refine S_val (Y_eql rfl rfl) ?_
                  refine S_val (Y_pickT rfl rfl) ?_
                  refine S_val (Y_assign rfl) ?_
                  refine S_nil (L' := (_ :: _ :: _ :: _ :: _ :: _ :: _ :: _ :: _ :: _ :: _ :: _ :: _ :: _ :: _ :: _ :: _ :: _ :: _ :: _ :: _ :: _ :: _ :: _ :: _ :: _ :: _ :: _ :: _ :: _ :: _ :: _ :: _ :: _ :: _ :: _ :: _ :: _ :: _ :: _ :: _ :: _ :: _ :: _ :: _ :: _ :: _ :: _ :: _ :: _ :: _ :: _ :: _ :: _ :: _ :: _ :: _ :: _ :: _ :: _ :: _ :: _ :: _ :: _ :: _ :: _ :: _ :: _ :: _ :: _ :: _ :: _ :: _ :: _ :: _ :: [])) rfl rfl ?_
                  refine th_n ?_
                  refine hK16 _ _ ?_
                  clear hK16 K16
                  refine wp_ret ?_
                  refine ib_r ?_
                  refine th_r ?_
                  clear hK4 K4
                  refine ret_r1 rfl rfl ?_  -- r13
                  exact ⟨by first | exact cvB_f (by unfold cvP; dsimp only; omega) | exact cvB_d (by unfold cvP; dsimp only; omega) | exact cvB_t (by unfold cvP; dsimp only; omega), G⟩
                · -- g10F
                  first | with_reducible (replace hb8 := nb_nt hb8) | with_reducible (replace hb8 := nb_nf hb8) | with_reducible (replace hb8 := nb_tt hb8) | with_reducible (replace hb8 := nb_tf hb8) | with_reducible (replace hb8 := nb_bt hb8) | with_reducible (replace hb8 := nb_bf hb8) | skip
                  refine S_off rfl rfl ?_
                  refine S_off rfl rfl ?_
                  refine S_off rfl rfl ?_
                  refine S_val (Y_pickF rfl rfl) ?_
                  refine S_val (Y_assign rfl) ?_
                  refine S_nil (L' := (_ :: _ :: _ :: _ :: _ :: _ :: _ :: _ :: _ :: _ :: _ :: _ :: _ :: _ :: _ :: _ :: _ :: _ :: _ :: _ :: _ :: _ :: _ :: _ :: _ :: _ :: _ :: _ :: _ :: _ :: _ :: _ :: _ :: _ :: _ :: _ :: _ :: _ :: _ :: _ :: _ :: _ :: _ :: _ :: _ :: _ :: _ :: _ :: _ :: _ :: _ :: _ :: _ :: _ :: _ :: _ :: _ :: _ :: _ :: _ :: _ :: _ :: _ :: _ :: _ :: _ :: _ :: _ :: _ :: _ :: _ :: _ :: _ :: _ :: _ :: [])) rfl rfl ?_
                  refine th_n ?_
                  refine hK16 _ _ ?_
                  clear hK16 K16
                  refine wp_ret ?_
                  refine ib_r ?_
                  refine th_r ?_
                  clear hK4 K4
                  refine ret_r1 rfl rfl ?_  -- r14
                  exact ⟨by first | exact cvB_f (by unfold cvP; dsimp only; omega) | exact cvB_d (by unfold cvP; dsimp only; omega) | exact cvB_t (by unfold cvP; dsimp only; omega), G⟩
              · -- g9F
                first | with_reducible (replace hb7 := nb_nt hb7) | with_reducible (replace hb7 := nb_nf hb7) | with_reducible (replace hb7 := nb_tt hb7) | with_reducible (replace hb7 := nb_tf hb7) | with_reducible (replace hb7 := nb_bt hb7) | with_reducible (replace hb7 := nb_bf hb7) | skip
                refine S_off rfl rfl ?_
                refine S_off rfl rfl ?_
                refine S_off rfl rfl ?_
                refine S_val (Y_pickF rfl rfl) ?_
                refine S_val (Y_move rfl) ?_
                refine S_off rfl rfl ?_
                refine S_off rfl rfl ?_
                refine S_off rfl rfl ?_
                refine S_val (Y_pickF rfl rfl) ?_
                refine S_val (Y_assign rfl) ?_
                refine S_nil (L' := (_ :: _ :: _ :: _ :: _ :: _ :: _ :: _ :: _ :: _ :: _ :: _ :: _ :: _ :: _ :: _ :: _ :: _ :: _ :: _ :: _ :: _ :: _ :: _ :: _ :: _ :: _ :: _ :: _ :: _ :: _ :: _ :: _ :: _ :: _ :: _ :: _ :: _ :: _ :: _ :: _ :: _ :: _ :: _ :: _ :: _ :: _ :: _ :: _ :: _ :: _ :: _ :: _ :: _ :: _ :: _ :: _ :: _ :: _ :: _ :: _ :: _ :: _ :: _ :: _ :: _ :: _ :: _ :: _ :: _ :: _ :: _ :: _ :: _ :: _ :: [])) rfl rfl ?_
                refine th_n ?_
                refine hK16 _ _ ?_
                clear hK16 K16
                refine wp_ret ?_
                refine ib_r ?_
                refine th_r ?_
                clear hK4 K4
                refine ret_r1 rfl rfl ?_  -- r15
                exact ⟨by first | exact cvB_f (by unfold cvP; dsimp only; omega) | exact cvB_d (by unfold cvP; dsimp only; omega) | exact cvB_t (by unfold cvP; dsimp only; omega), G⟩
            · -- c6F
              first | with_reducible (replace hb6 := nb_nt hb6) | with_reducible (replace hb6 := nb_nf hb6) | with_reducible (replace hb6 := nb_tt hb6) | with_reducible (replace hb6 := nb_tf hb6) | with_reducible (replace hb6 := nb_bt hb6) | with_reducible (replace hb6 := nb_bf hb6) | skip
              refine wp_skip ?_
              refine ib_n ?_
              refine th_n ?_
              refine hK4 _ _ ?_
              clear hK4 K4
              refine wp_seq_k fun K17 hK17 => ?_
              refine wp_region_lit ?_  -- region 15 l8_programs.go:21
              refine S_beg 75 rfl ?_
              refine S_val (Y_assign rfl) ?_
              refine S_nil (L' := (_ :: _ :: _ :: _ :: _ :: _ :: _ :: _ :: _ :: _ :: _ :: _ :: _ :: _ :: _ :: _ :: _ :: _ :: _ :: _ :: _ :: _ :: _ :: _ :: _ :: _ :: _ :: _ :: _ :: _ :: _ :: _ :: _ :: _ :: _ :: _ :: _ :: _ :: _ :: _ :: _ :: _ :: _ :: _ :: _ :: _ :: _ :: _ :: _ :: _ :: _ :: _ :: _ :: _ :: _ :: _ :: _ :: _ :: _ :: _ :: _ :: _ :: _ :: _ :: _ :: _ :: _ :: _ :: _ :: _ :: _ :: _ :: _ :: _ :: _ :: [])) rfl rfl ?_
              refine th_n ?_
              refine hK17 _ _ ?_
              clear hK17 K17
              refine wp_ret ?_
              refine ret_r1 rfl rfl ?_  -- r16
              exact ⟨by first | exact cvB_f (by unfold cvP; dsimp only; omega) | exact cvB_d (by unfold cvP; dsimp only; omega) | exact cvB_t (by unfold cvP; dsimp only; omega), G⟩
    · -- c2F
      first | with_reducible (replace hb2 := nb_nt hb2) | with_reducible (replace hb2 := nb_nf hb2) | with_reducible (replace hb2 := nb_tt hb2) | with_reducible (replace hb2 := nb_tf hb2) | with_reducible (replace hb2 := nb_bt hb2) | with_reducible (replace hb2 := nb_bf hb2) | skip
      refine wp_region_lit ?_  -- region 7 l8_programs.go:12
      refine S_beg 75 rfl ?_
      refine S_val (Y_eql rfl rfl) ?_
      refine S_val (Y_assign rfl) ?_
      refine S_nil (L' := (_ :: _ :: _ :: _ :: _ :: _ :: _ :: _ :: _ :: _ :: _ :: _ :: _ :: _ :: _ :: _ :: _ :: _ :: _ :: _ :: _ :: _ :: _ :: _ :: _ :: _ :: _ :: _ :: _ :: _ :: _ :: _ :: _ :: _ :: _ :: _ :: _ :: _ :: _ :: _ :: _ :: _ :: _ :: _ :: _ :: _ :: _ :: _ :: _ :: _ :: _ :: _ :: _ :: _ :: _ :: _ :: _ :: _ :: _ :: _ :: _ :: _ :: _ :: _ :: _ :: _ :: _ :: _ :: _ :: _ :: _ :: _ :: _ :: _ :: _ :: [])) rfl rfl ?_
      refine th_n ?_
      refine hK8 _ _ ?_
      clear hK8 K8
      refine S_if rfl (fun hb3 => ?_) (fun hb3 => ?_)  -- c7
      · -- c7T
        first | with_reducible (replace hb3 := nb_nt hb3) | with_reducible (replace hb3 := nb_nf hb3) | with_reducible (replace hb3 := nb_tt hb3) | with_reducible (replace hb3 := nb_tf hb3) | with_reducible (replace hb3 := nb_bt hb3) | with_reducible (replace hb3 := nb_bf hb3) | skip
        refine wp_seq_k fun K18 hK18 => ?_
        refine wp_region_lit ?_  -- region 8 l8_programs.go:13
        refine S_beg 75 rfl ?_
        refine S_val (Y_move rfl) ?_
        refine S_val (Y_move rfl) ?_
        refine S_g 30 rfl (fun hb4 => ?_) (fun hb4 => ?_)  -- g11
        · -- g11T
          first | with_reducible (replace hb4 := nb_nt hb4) | with_reducible (replace hb4 := nb_nf hb4) | with_reducible (replace hb4 := nb_tt hb4) | with_reducible (replace hb4 := nb_tf hb4) | with_reducible (replace hb4 := nb_bt hb4) | with_reducible (replace hb4 := nb_bf hb4) | skip
          refine S_on rfl rfl ?_
          refine S_val (Y_move rfl) ?_
          refine S_val (Y_pickT rfl rfl) ?_
          refine S_val (Y_move rfl) ?_
          refine S_g 33 rfl (fun hb5 => ?_) (fun hb5 => ?_)  -- g12
          · -- g12T
            first | with_reducible (replace hb5 := nb_nt hb5) | with_reducible (replace hb5 := nb_nf hb5) | with_reducible (replace hb5 := nb_tt hb5) | with_reducible (replace hb5 := nb_tf hb5) | with_reducible (replace hb5 := nb_bt hb5) | with_reducible (replace hb5 := nb_bf hb5) | skip
            refine S_on rfl rfl ?_
            refine S_val (Y_field Try.underlying25 rfl fz25_3 (by decide) rfl) ?_
            refine S_on rfl rfl ?_
            refine S_val (Y_load Try.underlying3 rfl rfl (by first | assumption | exact B1.at (by rfl))) ?_
            refine S_on rfl rfl ?_
            refine S_call rfl en54 (spec_l1In_c _ _ _ _) ?_  -- k7 spec.l1In
            rintro v w' ⟨rfl, rfl⟩
            refine S_val (Y_pickT rfl rfl) ?_
            refine S_val (Y_assign rfl) ?_
            refine S_nil (L' := (_ :: _ :: _ :: _ :: _ :: _ :: _ :: _ :: _ :: _ :: _ :: _ :: _ :: _ :: _ :: _ :: _ :: _ :: _ :: _ :: _ :: _ :: _ :: _ :: _ :: _ :: _ :: _ :: _ :: _ :: _ :: _ :: _ :: _ :: _ :: _ :: _ :: _ :: _ :: _ :: _ :: _ :: _ :: _ :: _ :: _ :: _ :: _ :: _ :: _ :: _ :: _ :: _ :: _ :: _ :: _ :: _ :: _ :: _ :: _ :: _ :: _ :: _ :: _ :: _ :: _ :: _ :: _ :: _ :: _ :: _ :: _ :: _ :: _ :: _ :: [])) rfl rfl ?_
            refine th_n ?_
            refine hK18 _ _ ?_
            clear hK18 K18
            refine wp_ret ?_
            refine ib_r ?_
            refine th_r ?_
            clear hK4 K4
            refine ret_r1 rfl rfl ?_  -- r17
            exact ⟨by first | exact cvB_f (by unfold cvP; dsimp only; omega) | exact cvB_d (by unfold cvP; dsimp only; omega) | exact cvB_t (by unfold cvP; dsimp only; omega), G⟩
          · -- g12F
            first | with_reducible (replace hb5 := nb_nt hb5) | with_reducible (replace hb5 := nb_nf hb5) | with_reducible (replace hb5 := nb_tt hb5) | with_reducible (replace hb5 := nb_tf hb5) | with_reducible (replace hb5 := nb_bt hb5) | with_reducible (replace hb5 := nb_bf hb5) | skip
            refine S_off rfl rfl ?_
            refine S_off rfl rfl ?_
            refine S_off rfl rfl ?_
            refine S_val (Y_pickF rfl rfl) ?_
            refine S_val (Y_assign rfl) ?_
            refine S_nil (L' := (_ :: _ :: _ :: _ :: _ :: _ :: _ :: _ :: _ :: _ :: _ :: _ :: _ :: _ :: _ :: _ :: _ :: _ :: _ :: _ :: _ :: _ :: _ :: _ :: _ :: _ :: _ :: _ :: _ :: _ :: _ :: _ :: _ :: _ :: _ :: _ :: _ :: _ :: _ :: _ :: _ :: _ :: _ :: _ :: _ :: _ :: _ :: _ :: _ :: _ :: _ :: _ :: _ :: _ :: _ :: _ :: _ :: _ :: _ :: _ :: _ :: _ :: _ :: _ :: _ :: _ :: _ :: _ :: _ :: _ :: _ :: _ :: _ :: _ :: _ :: [])) rfl rfl ?_
            refine th_n ?_
            refine hK18 _ _ ?_
            clear hK18 K18
            refine wp_ret ?_
            refine ib_r ?_
            refine th_r ?_
            clear hK4 K4
            refine ret_r1 rfl rfl ?_  -- r18
            exact ⟨by first | exact cvB_f (by unfold cvP; dsimp only; omega) | exact cvB_d (by unfold cvP; dsimp only; omega) | exact cvB_t (by unfold cvP; dsimp only; omega), G⟩
        · -- g11F
          first | with_reducible (replace hb4 := nb_nt hb4) | with_reducible (replace hb4 := nb_nf hb4) | with_reducible (replace hb4 := nb_tt hb4) | with_reducible (replace hb4 := nb_tf hb4) | with_reducible (replace hb4 := nb_bt hb4) | with_reducible (replace hb4 := nb_bf hb4) | skip
          refine S_off rfl rfl ?_
          refine S_val (Y_pickF rfl rfl) ?_
          refine S_val (Y_move rfl) ?_
          refine S_off rfl rfl ?_
          refine S_off rfl rfl ?_
          refine S_off rfl rfl ?_
          refine S_val (Y_pickF rfl rfl) ?_
          refine S_val (Y_assign rfl) ?_
          refine S_nil (L' := (_ :: _ :: _ :: _ :: _ :: _ :: _ :: _ :: _ :: _ :: _ :: _ :: _ :: _ :: _ :: _ :: _ :: _ :: _ :: _ :: _ :: _ :: _ :: _ :: _ :: _ :: _ :: _ :: _ :: _ :: _ :: _ :: _ :: _ :: _ :: _ :: _ :: _ :: _ :: _ :: _ :: _ :: _ :: _ :: _ :: _ :: _ :: _ :: _ :: _ :: _ :: _ :: _ :: _ :: _ :: _ :: _ :: _ :: _ :: _ :: _ :: _ :: _ :: _ :: _ :: _ :: _ :: _ :: _ :: _ :: _ :: _ :: _ :: _ :: _ :: [])) rfl rfl ?_
          refine th_n ?_
          refine hK18 _ _ ?_
          clear hK18 K18
          refine wp_ret ?_
          refine ib_r ?_
          refine th_r ?_
          clear hK4 K4
          refine ret_r1 rfl rfl ?_  -- r19
          exact ⟨by first | exact cvB_f (by unfold cvP; dsimp only; omega) | exact cvB_d (by unfold cvP; dsimp only; omega) | exact cvB_t (by unfold cvP; dsimp only; omega), G⟩
      · -- c7F
        first | with_reducible (replace hb3 := nb_nt hb3) | with_reducible (replace hb3 := nb_nf hb3) | with_reducible (replace hb3 := nb_tt hb3) | with_reducible (replace hb3 := nb_tf hb3) | with_reducible (replace hb3 := nb_bt hb3) | with_reducible (replace hb3 := nb_bf hb3) | skip
        refine wp_seq_k fun K19 hK19 => ?_
        refine wp_region_lit ?_  -- region 9 l8_programs.go:14
        refine S_beg 75 rfl ?_
        refine S_val (Y_eql rfl rfl) ?_
        refine S_val (Y_assign rfl) ?_
        refine S_nil (L' := (_ :: _ :: _ :: _ :: _ :: _ :: _ :: _ :: _ :: _ :: _ :: _ :: _ :: _ :: _ :: _ :: _ :: _ :: _ :: _ :: _ :: _ :: _ :: _ :: _ :: _ :: _ :: _ :: _ :: _ :: _ :: _ :: _ :: _ :: _ :: _ :: _ :: _ :: _ :: _ :: _ :: _ :: _ :: _ :: _ :: _ :: _ :: _ :: _ :: _ :: _ :: _ :: _ :: _ :: _ :: _ :: _ :: _ :: _ :: _ :: _ :: _ :: _ :: _ :: _ :: _ :: _ :: _ :: _ :: _ :: _ :: _ :: _ :: _ :: _ :: [])) rfl rfl ?_
        refine th_n ?_
        refine hK19 _ _ ?_
        clear hK19 K19
        refine S_if rfl (fun hb4 => ?_) (fun hb4 => ?_)  -- c8
        · -- c8T
          first | with_reducible (replace hb4 := nb_nt hb4) | with_reducible (replace hb4 := nb_nf hb4) | with_reducible (replace hb4 := nb_tt hb4) | with_reducible (replace hb4 := nb_tf hb4) | with_reducible (replace hb4 := nb_bt hb4) | with_reducible (replace hb4 := nb_bf hb4) | skip
          refine wp_seq_k fun K20 hK20 => ?_
          refine wp_region_lit ?_  -- region 10 l8_programs.go:15
          refine S_beg 75 rfl ?_
          refine S_val (Y_move rfl) ?_
          refine S_val (Y_move rfl) ?_
          refine S_g 41 rfl (fun hb5 => ?_) (fun hb5 => ?_)  -- g13
          · -- g13T
            first | with_reducible (replace hb5 := nb_nt hb5) | with_reducible (replace hb5 := nb_nf hb5) | with_reducible (replace hb5 := nb_tt hb5) | with_reducible (replace hb5 := nb_tf hb5) | with_reducible (replace hb5 := nb_bt hb5) | with_reducible (replace hb5 := nb_bf hb5) | skip
            refine S_on rfl rfl ?_
            refine S_val (Y_move rfl) ?_
            refine S_val (Y_pickT rfl rfl) ?_
            refine S_val (Y_move rfl) ?_
            refine S_g 44 rfl (fun hb6 => ?_) (fun hb6 => ?_)  -- g14
            · -- g14T
              first | with_reducible (replace hb6 := nb_nt hb6) | with_reducible (replace hb6 := nb_nf hb6) | with_reducible (replace hb6 := nb_tt hb6) | with_reducible (replace hb6 := nb_tf hb6) | with_reducible (replace hb6 := nb_bt hb6) | with_reducible (replace hb6 := nb_bf hb6) | skip
              refine S_on rfl rfl ?_
              refine S_val (Y_field Try.underlying25 rfl fz25_3 (by decide) rfl) ?_
              refine S_on rfl rfl ?_
              refine S_val (Y_load Try.underlying3 rfl rfl (by first | assumption | exact B1.at (by rfl))) ?_
              refine S_on rfl rfl ?_
              refine S_val (Y_eql rfl rfl) ?_
              refine S_val (Y_pickT rfl rfl) ?_
              refine S_val (Y_assign rfl) ?_
              refine S_nil (L' := (_ :: _ :: _ :: _ :: _ :: _ :: _ :: _ :: _ :: _ :: _ :: _ :: _ :: _ :: _ :: _ :: _ :: _ :: _ :: _ :: _ :: _ :: _ :: _ :: _ :: _ :: _ :: _ :: _ :: _ :: _ :: _ :: _ :: _ :: _ :: _ :: _ :: _ :: _ :: _ :: _ :: _ :: _ :: _ :: _ :: _ :: _ :: _ :: _ :: _ :: _ :: _ :: _ :: _ :: _ :: _ :: _ :: _ :: _ :: _ :: _ :: _ :: _ :: _ :: _ :: _ :: _ :: _ :: _ :: _ :: _ :: _ :: _ :: _ :: _ :: [])) rfl rfl ?_
              refine th_n ?_
              refine hK20 _ _ ?_
              clear hK20 K20
              refine wp_ret ?_
              refine ib_r ?_
              refine th_r ?_
              clear hK4 K4
              refine ret_r1 rfl rfl ?_  -- r20
              exact ⟨by first | exact cvB_f (by unfold cvP; dsimp only; omega) | exact cvB_d (by unfold cvP; dsimp only; omega) | exact cvB_t (by unfold cvP; dsimp only; omega), G⟩
            · -- g14F
              first | with_reducible (replace hb6 := nb_nt hb6) | with_reducible (replace hb6 := nb_nf hb6) | with_reducible (replace hb6 := nb_tt hb6) | with_reducible (replace hb6 := nb_tf hb6) | with_reducible (replace hb6 := nb_bt hb6) | with_reducible (replace hb6 := nb_bf hb6) | skip
              refine S_off rfl rfl ?_
              refine S_off rfl rfl ?_
              refine S_off rfl rfl ?_
              refine S_val (Y_pickF rfl rfl) ?_
              refine S_val (Y_assign rfl) ?_
              refine S_nil (L' := (_ :: _ :: _ :: _ :: _ :: _ :: _ :: _ :: _ :: _ :: _ :: _ :: _ :: _ :: _ :: _ :: _ :: _ :: _ :: _ :: _ :: _ :: _ :: _ :: _ :: _ :: _ :: _ :: _ :: _ :: _ :: _ :: _ :: _ :: _ :: _ :: _ :: _ :: _ :: _ :: _ :: _ :: _ :: _ :: _ :: _ :: _ :: _ :: _ :: _ :: _ :: _ :: _ :: _ :: _ :: _ :: _ :: _ :: _ :: _ :: _ :: _ :: _ :: _ :: _ :: _ :: _ :: _ :: _ :: _ :: _ :: _ :: _ :: _ :: _ :: [])) rfl rfl ?_
              refine th_n ?_
              refine hK20 _ _ ?_
              clear hK20 K20
              refine wp_ret ?_
              refine ib_r ?_
              refine th_r ?_
              clear hK4 K4
              refine ret_r1 rfl rfl ?_  -- r21
              exact ⟨by first | exact cvB_f (by unfold cvP; dsimp only; omega) | exact cvB_d (by unfold cvP; dsimp only; omega) | exact cvB_t (by unfold cvP; dsimp only; omega), G⟩
          · -- g13F
            first | with_reducible (replace hb5 := nb_nt hb5) | with_reducible (replace hb5 := nb_nf hb5) | with_reducible (replace hb5 := nb_tt hb5) | with_reducible (replace hb5 := nb_tf hb5) | with_reducible (replace hb5 := nb_bt hb5) | with_reducible (replace hb5 := nb_bf hb5) | skip
            refine S_off rfl rfl ?_
            refine S_val (Y_pickF rfl rfl) ?_
            refine S_val (Y_move rfl) ?_
            refine S_off rfl rfl ?_
            refine S_off rfl rfl ?_
            refine S_off rfl rfl ?_
            refine S_val (Y_pickF rfl rfl) ?_
            refine S_val (Y_assign rfl) ?_
            refine S_nil (L' := (_ :: _ :: _ :: _ :: _ :: _ :: _ :: _ :: _ :: _ :: _ :: _ :: _ :: _ :: _ :: _ :: _ :: _ :: _ :: _ :: _ :: _ :: _ :: _ :: _ :: _ :: _ :: _ :: _ :: _ :: _ :: _ :: _ :: _ :: _ :: _ :: _ :: _ :: _ :: _ :: _ :: _ :: _ :: _ :: _ :: _ :: _ :: _ :: _ :: _ :: _ :: _ :: _ :: _ :: _ :: _ :: _ :: _ :: _ :: _ :: _ :: _ :: _ :: _ :: _ :: _ :: _ :: _ :: _ :: _ :: _ :: _ :: _ :: _ :: _ :: [])) rfl rfl ?_
            refine th_n ?_
            refine hK20 _ _ ?_
            clear hK20 K20
            refine wp_ret ?_
            refine ib_r ?_
            refine th_r ?_
            clear hK4 K4
            refine ret_r1 rfl rfl ?_  -- r22
            exact ⟨by first | exact cvB_f (by unfold cvP; dsimp only; omega) | exact cvB_d (by unfold cvP; dsimp only; omega) | exact cvB_t (by unfold cvP; dsimp only; omega), G⟩
        · -- c8F
          first | with_reducible (replace hb4 := nb_nt hb4) | with_reducible (replace hb4 := nb_nf hb4) | with_reducible (replace hb4 := nb_tt hb4) | with_reducible (replace hb4 := nb_tf hb4) | with_reducible (replace hb4 := nb_bt hb4) | with_reducible (replace hb4 := nb_bf hb4) | skip
          refine wp_seq_k fun K21 hK21 => ?_
          refine wp_region_lit ?_  -- region 11 l8_programs.go:16
          refine S_beg 75 rfl ?_
          refine S_val (Y_eql rfl rfl) ?_
          refine S_val (Y_assign rfl) ?_
          refine S_nil (L' := (_ :: _ :: _ :: _ :: _ :: _ :: _ :: _ :: _ :: _ :: _ :: _ :: _ :: _ :: _ :: _ :: _ :: _ :: _ :: _ :: _ :: _ :: _ :: _ :: _ :: _ :: _ :: _ :: _ :: _ :: _ :: _ :: _ :: _ :: _ :: _ :: _ :: _ :: _ :: _ :: _ :: _ :: _ :: _ :: _ :: _ :: _ :: _ :: _ :: _ :: _ :: _ :: _ :: _ :: _ :: _ :: _ :: _ :: _ :: _ :: _ :: _ :: _ :: _ :: _ :: _ :: _ :: _ :: _ :: _ :: _ :: _ :: _ :: _ :: _ :: [])) rfl rfl ?_
          refine th_n ?_
          refine hK21 _ _ ?_
          clear hK21 K21
          refine S_if rfl (fun hb5 => ?_) (fun hb5 => ?_)  -- c9
          · -- c9T
            first | with_reducible (replace hb5 := nb_nt hb5) | with_reducible (replace hb5 := nb_nf hb5) | with_reducible (replace hb5 := nb_tt hb5) | with_reducible (replace hb5 := nb_tf hb5) | with_reducible (replace hb5 := nb_bt hb5) | with_reducible (replace hb5 := nb_bf hb5) | skip
            refine wp_seq_k fun K22 hK22 => ?_
            refine wp_region_lit ?_  -- region 12 l8_programs.go:17
            refine S_beg 75 rfl ?_
            refine S_val (Y_move rfl) ?_
            refine S_val (Y_move rfl) ?_
            refine S_g 52 rfl (fun hb6 => ?_) (fun hb6 => ?_)  -- g15
            · -- g15T
              first | with_reducible (replace hb6 := nb_nt hb6) | with_reducible (replace hb6 := nb_nf hb6) | with_reducible (replace hb6 := nb_tt hb6) | with_reducible (replace hb6 := nb_tf hb6) | with_reducible (replace hb6 := nb_bt hb6) | with_reducible (replace hb6 := nb_bf hb6) | skip
              refine S_on rfl rfl ?_
              refine S_val (Y_field Try.underlying25 rfl fz25_2 (by decide) rfl) ?_
              refine S_on rfl rfl ?_
              refine S_val (Y_load Try.underlying3 rfl rfl (by first | assumption | exact B1.at (by rfl))) ?_
              refine S_on rfl rfl ?_
              refine S_val (Y_eql rfl rfl) ?_
              refine S_val (Y_pickT rfl rfl) ?_
              refine S_val (Y_move rfl) ?_
              refine S_g 57 rfl (fun hb7 => ?_) (fun hb7 => ?_)  -- g16
              · -- g16T
                first | with_reducible (replace hb7 := nb_nt hb7) | with_reducible (replace hb7 := nb_nf hb7) | with_reducible (replace hb7 := nb_tt hb7) | with_reducible (replace hb7 := nb_tf hb7) | with_reducible (replace hb7 := nb_bt hb7) | with_reducible (replace hb7 := nb_bf hb7) | skip
                refine S_on rfl rfl ?_
                refine S_val (Y_field Try.underlying25 rfl fz25_3 (by decide) rfl) ?_
                refine S_on rfl rfl ?_
                refine S_val (Y_load Try.underlying3 rfl rfl (by first | assumption | exact B1.at (by rfl))) ?_
                refine S_on rfl rfl ?_
                refine S_val (Y_eql rfl rfl) ?_
                refine S_val (Y_pickT rfl rfl) ?_
                refine S_val (Y_assign rfl) ?_
                refine S_nil (L' := (_ :: _ :: _ :: _ :: _ :: _ :: _ :: _ :: _ :: _ :: _ :: _ :: _ :: _ :: _ :: _ :: _ :: _ :: _ :: _ :: _ :: _ :: _ :: _ :: _ :: _ :: _ :: _ :: _ :: _ :: _ :: _ :: _ :: _ :: _ :: _ :: _ :: _ :: _ :: _ :: _ :: _ :: _ :: _ :: _ :: _ :: _ :: _ :: _ :: _ :: _ :: _ :: _ :: _ :: _ :: _ :: _ :: _ :: _ :: _ :: _ :: _ :: _ :: _ :: _ :: _ :: _ :: _ :: _ :: _ :: _ :: _ :: _ :: _ :: _ :: [])) rfl rfl ?_
                refine th_n ?_
                refine hK22 _ _ ?_
                clear hK22 K22
                refine wp_ret ?_
                refine ib_r ?_
                refine th_r ?_
                clear hK4 K4
                refine ret_r1 rfl rfl ?_  -- r23
                exact ⟨by first | exact cvB_f (by unfold cvP; dsimp only; omega) | exact cvB_d (by unfold cvP; dsimp only; omega) | exact cvB_t (by unfold cvP; dsimp only; omega), G⟩
              · -- g16F
                first | with_reducible (replace hb7 := nb_nt hb7) | with_reducible (replace hb7 := nb_nf hb7) | with_reducible (replace hb7 := nb_tt hb7) | with_reducible (replace hb7 := nb_tf hb7) | with_reducible (replace hb7 := nb_bt hb7) | with_reducible (replace hb7 := nb_bf hb7) | skip
                refine S_off rfl rfl ?_
                refine S_off rfl rfl ?_
                refine S_off rfl rfl ?_
                refine S_val (Y_pickF rfl rfl) ?_
                refine S_val (Y_assign rfl) ?_
                refine S_nil (L' := (_ :: _ :: _ :: _ :: _ :: _ :: _ :: _ :: _ :: _ :: _ :: _ :: _ :: _ :: _ :: _ :: _ :: _ :: _ :: _ :: _ :: _ :: _ :: _ :: _ :: _ :: _ :: _ :: _ :: _ :: _ :: _ :: _ :: _ :: _ :: _ :: _ :: _ :: _ :: _ :: _ :: _ :: _ :: _ :: _ :: _ :: _ :: _ :: _ :: _ :: _ :: _ :: _ :: _ :: _ :: _ :: _ :: _ :: _ :: _ :: _ :: _ :: _ :: _ :: _ :: _ :: _ :: _ :: _ :: _ :: _ :: _ :: _ :: _ :: _ :: [])) rfl rfl ?_
                refine th_n ?_
                refine hK22 _ _ ?_
                clear hK22 K22
                refine wp_ret ?_
                refine ib_r ?_
                refine th_r ?_
                clear hK4 K4
                refine ret_r1 rfl rfl ?_  -- r24
                exact ⟨by first | exact cvB_f (by unfold cvP; dsimp only; omega) | exact cvB_d (by unfold cvP; dsimp only; omega) | exact cvB_t (by unfold cvP; dsimp only; omega), G⟩
            · -- g15F
              first | with_reducible (replace hb6 := nb_nt hb6) | with_reducible (replace hb6 := nb_nf hb6) | with_reducible (replace hb6 := nb_tt hb6) | with_reducible (replace hb6 := nb_tf hb6) | with_reducible (replace hb6 := nb_bt hb6) | with_reducible (replace hb6 := nb_bf hb6) | skip
              refine S_off rfl rfl ?_
              refine S_off rfl rfl ?_
              refine S_off rfl rfl ?_
              refine S_val (Y_pickF rfl rfl) ?_
              refine S_val (Y_move rfl) ?_
              refine S_off rfl rfl ?_
              refine S_off rfl rfl ?_
              refine S_off rfl rfl ?_
              refine S_val (Y_pickF rfl rfl) ?_
              refine S_val (Y_assign rfl) ?_
              refine S_nil (L' := (_ :: _ :: _ :: _ :: _ :: _ :: _ :: _ :: _ :: _ :: _ :: _ :: _ :: _ :: _ :: _ :: _ :: _ :: _ :: _ :: _ :: _ :: _ :: _ :: _ :: _ :: _ :: _ :: _ :: _ :: _ :: _ :: _ :: _ :: _ :: _ :: _ :: _ :: _ :: _ :: _ :: _ :: _ :: _ :: _ :: _ :: _ :: _ :: _ :: _ :: _ :: _ :: _ :: _ :: _ :: _ :: _ :: _ :: _ :: _ :: _ :: _ :: _ :: _ :: _ :: _ :: _ :: _ :: _ :: _ :: _ :: _ :: _ :: _ :: _ :: [])) rfl rfl ?_
              refine th_n ?_
              refine hK22 _ _ ?_
              clear hK22 K22
              refine wp_ret ?_
              refine ib_r ?_
              refine th_r ?_
              clear hK4 K4
              refine ret_r1 rfl rfl ?_  -- r25
              exact ⟨by first | exact cvB_f (by unfold cvP; dsimp only; omega) | exact cvB_d (by unfold cvP; dsimp only; omega) | exact cvB_t (by unfold cvP; dsimp only; omega), G⟩
          · -- c9F
            first | with_reducible (replace hb5 := nb_nt hb5) | with_reducible (replace hb5 := nb_nf hb5) | with_reducible (replace hb5 := nb_tt hb5) | with_reducible (replace hb5 := nb_tf hb5) | with_reducible (replace hb5 := nb_bt hb5) | with_reducible (replace hb5 := nb_bf hb5) | skip
            refine wp_seq_k fun K23 hK23 => ?_
            refine wp_region_lit ?_  -- region 13 l8_programs.go:18
            refine S_beg 75 rfl ?_
            refine S_val (Y_eql rfl rfl) ?_
            refine S_val (Y_assign rfl) ?_
            refine S_nil (L' := (_ :: _ :: _ :: _ :: _ :: _ :: _ :: _ :: _ :: _ :: _ :: _ :: _ :: _ :: _ :: _ :: _ :: _ :: _ :: _ :: _ :: _ :: _ :: _ :: _ :: _ :: _ :: _ :: _ :: _ :: _ :: _ :: _ :: _ :: _ :: _ :: _ :: _ :: _ :: _ :: _ :: _ :: _ :: _ :: _ :: _ :: _ :: _ :: _ :: _ :: _ :: _ :: _ :: _ :: _ :: _ :: _ :: _ :: _ :: _ :: _ :: _ :: _ :: _ :: _ :: _ :: _ :: _ :: _ :: _ :: _ :: _ :: _ :: _ :: _ :: [])) rfl rfl ?_
            refine th_n ?_
            refine hK23 _ _ ?_
            clear hK23 K23
            refine S_if rfl (fun hb6 => ?_) (fun hb6 => ?_)  -- c10
            · -- c10T
              first | with_reducible (replace hb6 := nb_nt hb6) | with_reducible (replace hb6 := nb_nf hb6) | with_reducible (replace hb6 := nb_tt hb6) | with_reducible (replace hb6 := nb_tf hb6) | with_reducible (replace hb6 := nb_bt hb6) | with_reducible (replace hb6 := nb_bf hb6) | skip
              refine wp_seq_k fun K24 hK24 => ?_
              refine wp_region_lit ?_  -- region 14 l8_programs.go:19
              refine S_beg 75 rfl ?_
              refine S_val (Y_move rfl) ?_
              refine S_val (Y_move rfl) ?_
              refine S_g 65 rfl (fun hb7 => ?_) (fun hb7 => ?_)  -- g17
              · -- g17T
                first | with_reducible (replace hb7 := nb_nt hb7) | with_reducible (replace hb7 := nb_nf hb7) | with_reducible (replace hb7 := nb_tt hb7) | with_reducible (replace hb7 := nb_tf hb7) | with_reducible (replace hb7 := nb_bt hb7) | with_reducible (replace hb7 := nb_bf hb7) | skip
                refine S_on rfl rfl ?_
                refine S_val (Y_field Try.underlying25 rfl fz25_2 (by decide) rfl) ?_
                refine S_on rfl rfl ?_
                refine S_val (Y_load Try.underlying3 rfl rfl (by first | assumption | exact B1.at (by rfl))) ?_
                refine S_on rfl rfl ?_
                refine S_call rfl en54 (spec_l1In_c _ _ _ _) ?_  -- k8 spec.l1In
                rintro v w' ⟨rfl, rfl⟩
                refine S_val (Y_pickT rfl rfl) ?_
                refine S_val (Y_move rfl) ?_
                refine S_g 70 rfl (fun hb8 => ?_) (fun hb8 => ?_)  -- g18
                · -- g18T
                  first | with_reducible (replace hb8 := nb_nt hb8) | with_reducible (replace hb8 := nb_nf hb8) | with_reducible (replace hb8 := nb_tt hb8) | with_reducible (replace hb8 := nb_tf hb8) | with_reducible (replace hb8 := nb_bt hb8) | with_reducible (replace hb8 := nb_bf hb8) | skip
                  refine S_on rfl rfl ?_
                  refine S_val (Y_field Try.underlying25 rfl fz25_3 (by decide) rfl) ?_
                  refine S_on rfl rfl ?_
                  refine S_val (Y_load Try.underlying3 rfl rfl (by first | assumption | exact B1.at (by rfl))) ?_
                  refine S_on rfl rfl ?_
                  refine S_val (Y_eql rfl rfl) ?_
                  refine S_val (Y_pickT rfl rfl) ?_
                  refine S_val (Y_assign rfl) ?_
                  refine S_nil (L' := (_ :: _ :: _ :: _ :: _ :: _ :: _ :: _ :: _ :: _ :: _ :: _ :: _ :: _ :: _ :: _ :: _ :: _ :: _ :: _ :: _ :: _ :: _ :: _ :: _ :: _ :: _ :: _ :: _ :: _ :: _ :: _ :: _ :: _ :: _ :: _ :: _ :: _ :: _ :: _ :: _ :: _ :: _ :: _ :: _ :: _ :: _ :: _ :: _ :: _ :: _ :: _ :: _ :: _ :: _ :: _ :: _ :: _ :: _ :: _ :: _ :: _ :: _ :: _ :: _ :: _ :: _ :: _ :: _ :: _ :: _ :: _ :: _ :: _ :: _ :: [])) rfl rfl ?_
                  refine th_n ?_
                  refine hK24 _ _ ?_
                  clear hK24 K24
                  refine wp_ret ?_
                  refine ib_r ?_
                  refine th_r ?_
                  clear hK4 K4
                  refine ret_r1 rfl rfl ?_  -- r26
                  exact ⟨by first | exact cvB_f (by unfold cvP; dsimp only; omega) | exact cvB_d (by unfold cvP; dsimp only; omega) | exact cvB_t (by unfold cvP; dsimp only; omega), G⟩
                · -- g18F
                  first | with_reducible (replace hb8 := nb_nt hb8) | with_reducible (replace hb8 := nb_nf hb8) | with_reducible (replace hb8 := nb_tt hb8) | with_reducible (replace hb8 := nb_tf hb8) | with_reducible (replace hb8 := nb_bt hb8) | with_reducible (replace hb8 := nb_bf hb8) | skip
                  refine S_off rfl rfl ?_
                  refine S_off rfl rfl ?_
                  refine S_off rfl rfl ?_
                  refine S_val (Y_pickF rfl rfl) ?_
                  refine S_val (Y_assign rfl) ?_
                  refine S_nil (L' := (_ :: _ :: _ :: _ :: _ :: _ :: _ :: _ :: _ :: _ :: _ :: _ :: _ :: _ :: _ :: _ :: _ :: _ :: _ :: _ :: _ :: _ :: _ :: _ :: _ :: _ :: _ :: _ :: _ :: _ :: _ :: _ :: _ :: _ :: _ :: _ :: _ :: _ :: _ :: _ :: _ :: _ :: _ :: _ :: _ :: _ :: _ :: _ :: _ :: _ :: _ :: _ :: _ :: _ :: _ :: _ :: _ :: _ :: _ :: _ :: _ :: _ :: _ :: _ :: _ :: _ :: _ :: _ :: _ :: _ :: _ :: _ :: _ :: _ :: _ :: [])) rfl rfl ?_
                  refine th_n ?_
                  refine hK24 _ _ ?_
                  clear hK24 K24
                  refine wp_ret ?_
                  refine ib_r ?_
                  refine th_r ?_
                  clear hK4 K4
                  refine ret_r1 rfl rfl ?_  -- r27
                  exact ⟨by first | exact cvB_f (by unfold cvP; dsimp only; omega) | exact cvB_d (by unfold cvP; dsimp only; omega) | exact cvB_t (by unfold cvP; dsimp only; omega), G⟩
              · -- g17F
                first | with_reducible (replace hb7 := nb_nt hb7) | with_reducible (replace hb7 := nb_nf hb7) | with_reducible (replace hb7 := nb_tt hb7) | with_reducible (replace hb7 := nb_tf hb7) | with_reducible (replace hb7 := nb_bt hb7) | with_reducible (replace hb7 := nb_bf hb7) | skip
                refine S_off rfl rfl ?_
                refine S_off rfl rfl ?_
                refine S_off rfl rfl ?_
                refine S_val (Y_pickF rfl rfl) ?_
                refine S_val (Y_move rfl) ?_
                refine S_off rfl rfl ?_
                refine S_off rfl rfl ?_
                refine S_off rfl rfl ?_
                refine S_val (Y_pickF rfl rfl) ?_
                refine S_val (Y_assign rfl) ?_
                refine S_nil (L' := (_ :: _ :: _ :: _ :: _ :: _ :: _ :: _ :: _ :: _ :: _ :: _ :: _ :: _ :: _ :: _ :: _ :: _ :: _ :: _ :: _ :: _ :: _ :: _ :: _ :: _ :: _ :: _ :: _ :: _ :: _ :: _ :: _ :: _ :: _ :: _ :: _ :: _ :: _ :: _ :: _ :: _ :: _ :: _ :: _ :: _ :: _ :: _ :: _ :: _ :: _ :: _ :: _ :: _ :: _ :: _ :: _ :: _ :: _ :: _ :: _ :: _ :: _ :: _ :: _ :: _ :: _ :: _ :: _ :: _ :: _ :: _ :: _ :: _ :: _ :: [])) rfl rfl ?_
                refine th_n ?_
                refine hK24 _ _ ?_
                clear hK24 K24
                refine wp_ret ?_
                refine ib_r ?_
                refine th_r ?_
                clear hK4 K4
                refine ret_r1 rfl rfl ?_  -- r28
                exact ⟨by first | exact cvB_f (by unfold cvP; dsimp only; omega) | exact cvB_d (by unfold cvP; dsimp only; omega) | exact cvB_t (by unfold cvP; dsimp only; omega), G⟩
            · -- c10F
              first | with_reducible (replace hb6 := nb_nt hb6) | with_reducible (replace hb6 := nb_nf hb6) | with_reducible (replace hb6 := nb_tt hb6) | with_reducible (replace hb6 := nb_tf hb6) | with_reducible (replace hb6 := nb_bt hb6) | with_reducible (replace hb6 := nb_bf hb6) | skip
              refine wp_skip ?_
              refine ib_n ?_
              refine th_n ?_
              refine hK4 _ _ ?_
              clear hK4 K4
              refine wp_seq_k fun K25 hK25 => ?_
              refine wp_region_lit ?_  -- region 15 l8_programs.go:21
              refine S_beg 75 rfl ?_
              refine S_val (Y_assign rfl) ?_
              refine S_nil (L' := (_ :: _ :: _ :: _ :: _ :: _ :: _ :: _ :: _ :: _ :: _ :: _ :: _ :: _ :: _ :: _ :: _ :: _ :: _ :: _ :: _ :: _ :: _ :: _ :: _ :: _ :: _ :: _ :: _ :: _ :: _ :: _ :: _ :: _ :: _ :: _ :: _ :: _ :: _ :: _ :: _ :: _ :: _ :: _ :: _ :: _ :: _ :: _ :: _ :: _ :: _ :: _ :: _ :: _ :: _ :: _ :: _ :: _ :: _ :: _ :: _ :: _ :: _ :: _ :: _ :: _ :: _ :: _ :: _ :: _ :: _ :: _ :: _ :: _ :: _ :: [])) rfl rfl ?_
              refine th_n ?_
              refine hK25 _ _ ?_
              clear hK25 K25
              refine wp_ret ?_
              refine ret_r1 rfl rfl ?_  -- r29
              exact ⟨by first | exact cvB_f (by unfold cvP; dsimp only; omega) | exact cvB_d (by unfold cvP; dsimp only; omega) | exact cvB_t (by unfold cvP; dsimp only; omega), G⟩

set_option maxHeartbeats 400000 in
set_option maxRecDepth 20000 in
theorem laws_toCommand_c (op a b c : Int) (w : World) :
    Calls Try.prog 16 #[.agg #[.int .i64 op, .int .i64 a, .int .i64 b, .int .i64 c]] w (Ret fun v w' => v = .agg #[.int .i64 op, .int .i64 a, .int .i64 b, .int .i64 c] ∧ Grow w w') := by
  refine enter Try.func16 rfl Try.ntmps16 (L := (_ :: _ :: _ :: _ :: _ :: _ :: _ :: _ :: _ :: _ :: _ :: _ :: _ :: _ :: _ :: _ :: _ :: [])) rfl ?_
  have G := Mod.refl No w
  refine wp_seq_k fun K1 hK1 => ?_
  refine wp_region_lit ?_  -- region 0 exact.go:245
  refine S_beg 17 rfl ?_
  refine S_box (cs := [_, _, _, _]) rfl rfl ?_
  intro b1 w1 fb1 g1 B1
  have lb1 := B1.lt
  replace G := G.grow g1
  have zg1 := g1.size
  refine S_alloc (cs := [_, _, _, _]) zr25 rfl ?_
  intro b2 w2 fb2 g2 B2
  have lb2 := B2.lt
  replace G := G.grow g2
  replace B1 := B1.grow g2
  have zg2 := g2.size
  refine S_nil (L' := (_ :: _ :: _ :: _ :: _ :: _ :: _ :: _ :: _ :: _ :: _ :: _ :: _ :: _ :: _ :: _ :: _ :: [])) rfl rfl ?_
  refine th_n ?_
  refine hK1 _ _ ?_
  clear hK1 K1
  refine wp_seq_k fun K2 hK2 => ?_
  refine wp_region_lit ?_  -- region 1 exact.go:246
  refine S_beg 17 rfl ?_
  refine S_alloc (cs := [_, _, _, _]) zr25 rfl ?_
  intro b3 w3 fb3 g3 B3
  have lb3 := B3.lt
  replace G := G.grow g3
  replace B1 := B1.grow g3
  replace B2 := B2.grow g3
  have zg3 := g3.size
  refine S_nil (L' := (_ :: _ :: _ :: _ :: _ :: _ :: _ :: _ :: _ :: _ :: _ :: _ :: _ :: _ :: _ :: _ :: _ :: [])) rfl rfl ?_
  refine th_n ?_
  refine hK2 _ _ ?_
  clear hK2 K2
  refine wp_seq_k fun K3 hK3 => ?_
  refine wp_region_lit ?_  -- region 2 exact.go:247
  refine S_beg 17 rfl ?_
  refine S_val (Y_field Try.underlying23 rfl fz23_0 (by decide) rfl) ?_
  refine S_val (Y_load Try.underlying3 rfl rfl (by first | assumption | exact B1.at (by rfl) | exact B2.at (by rfl) | exact B3.at (by rfl))) ?_
  refine S_val (Y_field Try.underlying25 rfl fz25_0 (by decide) rfl) ?_
  refine S_stM (pre := []) (old := [_]) (post := [_, _, _]) (vs := [_]) sz3 rfl rfl rfl (by first | rfl | assumption) B3 rfl rfl ?_
  intro w4 m4 X4
  replace B3 := Blk.eq (ys := [_, _, _, _]) X4 rfl
  clear X4
  replace G := G.above m4 (by intro i h; first | omega | (dsimp only at h; omega))
  replace B1 := B1.mod m4 (by intro h; first | omega | (dsimp only at h; omega))
  replace B2 := B2.mod m4 (by intro h; first | omega | (dsimp only at h; omega))
  have zm4 := m4.size
  refine S_nil (L' := (_ :: _ :: _ :: _ :: _ :: _ :: _ :: _ :: _ :: _ :: _ :: _ :: _ :: _ :: _ :: _ :: _ :: [])) rfl rfl ?_
  refine th_n ?_
  refine hK3 _ _ ?_
  clear hK3 K3
  refine wp_seq_k fun K4 hK4 => ?_
  refine wp_region_lit ?_  -- region 3 exact.go:248
  refine S_beg 17 rfl ?_
  refine S_val (Y_field Try.underlying23 rfl fz23_1 (by decide) rfl) ?_
  refine S_val (Y_load Try.underlying3 rfl rfl (by first | assumption | exact B1.at (by rfl) | exact B2.at (by rfl) | exact B3.at (by rfl))) ?_
  refine S_val (Y_field Try.underlying25 rfl fz25_1 (by decide) rfl) ?_
  refine S_stM (pre := [_]) (old := [_]) (post := [_, _]) (vs := [_]) sz3 rfl rfl rfl (by first | rfl | assumption) B3 rfl rfl ?_
  intro w5 m5 X5
  replace B3 := Blk.eq (ys := [_, _, _, _]) X5 rfl
  clear X5
  replace G := G.above m5 (by intro i h; first | omega | (dsimp only at h; omega))
  replace B1 := B1.mod m5 (by intro h; first | omega | (dsimp only at h; omega))
  replace B2 := B2.mod m5 (by intro h; first | omega | (dsimp only at h; omega))
  have zm5 := m5.size
  refine S_nil (L' := (_ :: _ :: _ :: _ :: _ :: _ :: _ :: _ :: _ :: _ :: _ :: _ :: _ :: _ :: _ :: _ :: _ :: [])) rfl rfl ?_
  refine th_n ?_
  refine hK4 _ _ ?_
  clear hK4 K4
  refine wp_seq_k fun K5 hK5 => ?_
  refine wp_region_lit ?_  -- region 4 exact.go:249
  refine S_beg 17 rfl ?_
  refine S_val (Y_field Try.underlying23 rfl fz23_2 (by decide) rfl) ?_
  refine S_val (Y_load Try.underlying3 rfl rfl (by first | assumption | exact B1.at (by rfl) | exact B2.at (by rfl) | exact B3.at (by rfl))) ?_
  refine S_val (Y_field Try.underlying25 rfl fz25_2 (by decide) rfl) ?_
  refine S_stM (pre := [_, _]) (old := [_]) (post := [_]) (vs := [_]) sz3 rfl rfl rfl (by first | rfl | assumption) B3 rfl rfl ?_
  intro w6 m6 X6
  replace B3 := Blk.eq (ys := [_, _, _, _]) X6 rfl
  clear X6
  replace G := G.above m6 (by intro i h; first | omega | (dsimp only at h; omega))
  replace B1 := B1.mod m6 (by intro h; first | omega | (dsimp only at h; omega))
  replace B2 := B2.mod m6 (by intro h; first | omega | (dsimp only at h; omega))
  have zm6 := m6.size
  refine S_nil (L' := (_ :: _ :: _ :: _ :: _ :: _ :: _ :: _ :: _ :: _ :: _ :: _ :: _ :: _ :: _ :: _ :: _ :: [])) rfl rfl ?_
  refine th_n ?_
  refine hK5 _ _ ?_
  clear hK5 K5
  refine wp_seq_k fun K6 hK6 => ?_
  refine wp_region_lit ?_  -- region 5 exact.go:250
  refine S_beg 17 rfl ?_
  refine S_val (Y_field Try.underlying23 rfl fz23_3 (by decide) rfl) ?_
  refine S_val (Y_load Try.underlying3 rfl rfl (by first | assumption | exact B1.at (by rfl) | exact B2.at (by rfl) | exact B3.at (by rfl))) ?_
  refine S_val (Y_field Try.underlying25 rfl fz25_3 (by decide) rfl) ?_
  refine S_stM (pre := [_, _, _]) (old := [_]) (post := []) (vs := [_]) sz3 rfl rfl rfl (by first | rfl | assumption) B3 rfl rfl ?_
  intro w7 m7 X7
  replace B3 := Blk.eq (ys := [_, _, _, _]) X7 rfl
  clear X7
  replace G := G.above m7 (by intro i h; first | omega | (dsimp only at h; omega))
  replace B1 := B1.mod m7 (by intro h; first | omega | (dsimp only at h; omega))
  replace B2 := B2.mod m7 (by intro h; first | omega | (dsimp only at h; omega))
  have zm7 := m7.size
  refine S_nil (L' := (_ :: _ :: _ :: _ :: _ :: _ :: _ :: _ :: _ :: _ :: _ :: _ :: _ :: _ :: _ :: _ :: _ :: [])) rfl rfl ?_
  refine th_n ?_
  refine hK6 _ _ ?_
  clear hK6 K6
  refine wp_seq_k fun K7 hK7 => ?_
  refine wp_region_lit ?_  -- region 6 exact.go:251
  refine S_beg 17 rfl ?_
  refine S_val (Y_loadS Try.underlying25 rfl sz25 rfl (by first | assumption | exact B1.row (by rfl) | exact B2.row (by rfl) | exact B3.row (by rfl))) ?_
  refine S_stM (pre := []) (old := [_, _, _, _]) (post := []) (vs := [_, _, _, _]) sz25 rfl rfl rfl (by first | rfl | assumption) B2 rfl rfl ?_
  intro w8 m8 X8
  replace B2 := Blk.eq (ys := [_, _, _, _]) X8 rfl
  clear X8
  replace G := G.above m8 (by intro i h; first | omega | (dsimp only at h; omega))
  replace B1 := B1.mod m8 (by intro h; first | omega | (dsimp only at h; omega))
  replace B3 := B3.mod m8 (by intro h; first | omega | (dsimp only at h; omega))
  have zm8 := m8.size
  refine S_nil (L' := (_ :: _ :: _ :: _ :: _ :: _ :: _ :: _ :: _ :: _ :: _ :: _ :: _ :: _ :: _ :: _ :: _ :: [])) rfl rfl ?_
  refine th_n ?_
  refine hK7 _ _ ?_
  clear hK7 K7
  refine wp_ret ?_
  refine ret_rc (cs := [_, _, _, _]) Try.underlying25 rfl sz25 rfl rfl (B2.row (by rfl)) ?_  -- r1
  exact ⟨rfl, G⟩

set_option maxHeartbeats 400000 in
set_option maxRecDepth 20000 in
theorem laws_eqCommand_c (x y : LCmd) (w : World) :
    Calls Try.prog 59 #[.agg #[.int .i64 x.op, .int .i64 x.a, .int .i64 x.b, .int .i64 x.c], .agg #[.int .i64 y.op, .int .i64 y.a, .int .i64 y.b, .int .i64 y.c]] w (Ret fun v w' => v = .bool (decide (x = y)) ∧ Grow w w') := by
  refine enter Try.func59 rfl Try.ntmps59 (L := (_ :: _ :: _ :: _ :: _ :: _ :: _ :: _ :: _ :: _ :: _ :: _ :: _ :: _ :: _ :: _ :: _ :: _ :: _ :: _ :: _ :: _ :: _ :: _ :: _ :: [])) rfl ?_
  have G := Mod.refl No w
  refine wp_seq_k fun K1 hK1 => ?_
  refine wp_region_lit ?_  -- region 0 exact.go:353
  refine S_beg 25 rfl ?_
  refine S_box (cs := [_, _, _, _]) rfl rfl ?_
  intro b1 w1 fb1 g1 B1
  have lb1 := B1.lt
  replace G := G.grow g1
  have zg1 := g1.size
  refine S_box (cs := [_, _, _, _]) rfl rfl ?_
  intro b2 w2 fb2 g2 B2
  have lb2 := B2.lt
  replace G := G.grow g2
  replace B1 := B1.grow g2
  have zg2 := g2.size
  refine S_val (Y_assign rfl) ?_
  refine S_nil (L' := (_ :: _ :: _ :: _ :: _ :: _ :: _ :: _ :: _ :: _ :: _ :: _ :: _ :: _ :: _ :: _ :: _ :: _ :: _ :: _ :: _ :: _ :: _ :: _ :: _ :: [])) rfl rfl ?_
  refine th_n ?_
  refine hK1 _ _ ?_
  clear hK1 K1
  refine wp_seq_k fun K2 hK2 => ?_
  refine wp_seq_k fun K3 hK3 => ?_
  refine wp_region_lit ?_  -- region 1 exact.go:354
  refine S_beg 25 rfl ?_
  refine S_val (Y_field Try.underlying25 rfl fz25_0 (by decide) rfl) ?_
  refine S_val (Y_load Try.underlying3 rfl rfl (by first | assumption | exact B1.at (by rfl) | exact B2.at (by rfl))) ?_
  refine S_val (Y_field Try.underlying25 rfl fz25_0 (by decide) rfl) ?_
  refine S_val (Y_load Try.underlying3 rfl rfl (by first | assumption | exact B1.at (by rfl) | exact B2.at (by rfl))) ?_
  refine S_val (Y_neq rfl rfl) ?_
  refine S_nil (L' := (_ :: _ :: _ :: _ :: _ :: _ :: _ :: _ :: _ :: _ :: _ :: _ :: _ :: _ :: _ :: _ :: _ :: _ :: _ :: _ :: _ :: _ :: _ :: _ :: _ :: [])) rfl rfl ?_
  refine th_n ?_
  refine hK3 _ _ ?_
  clear hK3 K3
  refine S_if rfl (fun hb1 => ?_) (fun hb1 => ?_)  -- c1
  · -- c1T
    first | with_reducible (replace hb1 := nb_nt hb1) | with_reducible (replace hb1 := nb_nf hb1) | with_reducible (replace hb1 := nb_tt hb1) | with_reducible (replace hb1 := nb_tf hb1) | with_reducible (replace hb1 := nb_bt hb1) | with_reducible (replace hb1 := nb_bf hb1) | skip
    refine wp_seq_k fun K4 hK4 => ?_
    refine wp_region_lit ?_  -- region 2 exact.go:355
    refine S_beg 25 rfl ?_
    refine S_val (Y_assign rfl) ?_
    refine S_nil (L' := (_ :: _ :: _ :: _ :: _ :: _ :: _ :: _ :: _ :: _ :: _ :: _ :: _ :: _ :: _ :: _ :: _ :: _ :: _ :: _ :: _ :: _ :: _ :: _ :: _ :: [])) rfl rfl ?_
    refine th_n ?_
    refine hK4 _ _ ?_
    clear hK4 K4
    refine wp_ret ?_
    refine th_r ?_
    clear hK2 K2
    refine ret_r1 rfl rfl ?_  -- r1
    exact ⟨by first | exact bF (fun e => by subst e; simp_all) | exact bT (cmd_ext (by omega) (by omega) (by omega) (by omega)), G⟩
  · -- c1F
    first | with_reducible (replace hb1 := nb_nt hb1) | with_reducible (replace hb1 := nb_nf hb1) | with_reducible (replace hb1 := nb_tt hb1) | with_reducible (replace hb1 := nb_tf hb1) | with_reducible (replace hb1 := nb_bt hb1) | with_reducible (replace hb1 := nb_bf hb1) | skip
    refine wp_skip ?_
    refine th_n ?_
    refine hK2 _ _ ?_
    clear hK2 K2
    refine wp_seq_k fun K5 hK5 => ?_
    refine wp_seq_k fun K6 hK6 => ?_
    refine wp_region_lit ?_  -- region 3 exact.go:357
    refine S_beg 25 rfl ?_
    refine S_val (Y_field Try.underlying25 rfl fz25_1 (by decide) rfl) ?_
    refine S_val (Y_load Try.underlying3 rfl rfl (by first | assumption | exact B1.at (by rfl) | exact B2.at (by rfl))) ?_
    refine S_val (Y_field Try.underlying25 rfl fz25_1 (by decide) rfl) ?_
    refine S_val (Y_load Try.underlying3 rfl rfl (by first | assumption | exact B1.at (by rfl) | exact B2.at (by rfl))) ?_
    refine S_val (Y_neq rfl rfl) ?_
    refine S_nil (L' := (_ :: _ :: _ :: _ :: _ :: _ :: _ :: _ :: _ :: _ :: _ :: _ :: _ :: _ :: _ :: _ :: _ :: _ :: _ :: _ :: _ :: _ :: _ :: _ :: _ :: [])) rfl rfl ?_
    refine th_n ?_
    refine hK6 _ _ ?_
    clear hK6 K6
    refine S_if rfl (fun hb2 => ?_) (fun hb2 => ?_)  -- c2
    · -- c2T
      first | with_reducible (replace hb2 := nb_nt hb2) | with_reducible (replace hb2 := nb_nf hb2) | with_reducible (replace hb2 := nb_tt hb2) | with_reducible (replace hb2 := nb_tf hb2) | with_reducible (replace hb2 := nb_bt hb2) | with_reducible (replace hb2 := nb_bf hb2) | skip
      refine wp_seq_k fun K7 hK7 => ?_
      refine wp_region_lit ?_  -- region 4 exact.go:358
      refine S_beg 25 rfl ?_
      refine S_val (Y_assign rfl) ?_
      refine S_nil (L' := (_ :: _ :: _ :: _ :: _ :: _ :: _ :: _ :: _ :: _ :: _ :: _ :: _ :: _ :: _ :: _ :: _ :: _ :: _ :: _ :: _ :: _ :: _ :: _ :: _ :: [])) rfl rfl ?_
      refine th_n ?_
      refine hK7 _ _ ?_
      clear hK7 K7
      refine wp_ret ?_
      refine th_r ?_
      clear hK5 K5
      refine ret_r1 rfl rfl ?_  -- r2
      exact ⟨by first | exact bF (fun e => by subst e; simp_all) | exact bT (cmd_ext (by omega) (by omega) (by omega) (by omega)), G⟩
    · -- c2F
      first | with_reducible (replace hb2 := nb_nt hb2) | with_reducible (replace hb2 := nb_nf hb2) | with_reducible (replace hb2 := nb_tt hb2) | with_reducible (replace hb2 := nb_tf hb2) | with_reducible (replace hb2 := nb_bt hb2) | with_reducible (replace hb2 := nb_bf hb2) | skip
      refine wp_skip ?_
      refine th_n ?_
      refine hK5 _ _ ?_
      clear hK5 K5
      refine wp_seq_k fun K8 hK8 => ?_
      refine wp_seq_k fun K9 hK9 => ?_
      refine wp_region_lit ?_  -- region 5 exact.go:360
      refine S_beg 25 rfl ?_
      refine S_val (Y_field Try.underlying25 rfl fz25_2 (by decide) rfl) ?_
      refine S_val (Y_load Try.underlying3 rfl rfl (by first | assumption | exact B1.at (by rfl) | exact B2.at (by rfl))) ?_
      refine S_val (Y_field Try.underlying25 rfl fz25_2 (by decide) rfl) ?_
      refine S_val (Y_load Try.underlying3 rfl rfl (by first | assumption | exact B1.at (by rfl) | exact B2.at (by rfl))) ?_
      refine S_val (Y_neq rfl rfl) ?_
      refine S_nil (L' := (_ :: _ :: _ :: _ :: _ :: _ :: _ :: _ :: _ :: _ :: _ :: _ :: _ :: _ :: _ :: _ :: _ :: _ :: _ :: _ :: _ :: _ :: _ :: _ :: _ :: [])) rfl rfl ?_
      refine th_n ?_
      refine hK9 _ _ ?_
      clear hK9 K9
      refine S_if rfl (fun hb3 => ?_) (fun hb3 => ?_)  -- c3
      · -- c3T
        first | with_reducible (replace hb3 := nb_nt hb3) | with_reducible (replace hb3 := nb_nf hb3) | with_reducible (replace hb3 := nb_tt hb3) | with_reducible (replace hb3 := nb_tf hb3) | with_reducible (replace hb3 := nb_bt hb3) | with_reducible (replace hb3 := nb_bf hb3) | skip
        refine wp_seq_k fun K10 hK10 => ?_
        refine wp_region_lit ?_  -- region 6 exact.go:361
        refine S_beg 25 rfl ?_
        refine S_val (Y_assign rfl) ?_
        refine S_nil (L' := (_ :: _ :: _ :: _ :: _ :: _ :: _ :: _ :: _ :: _ :: _ :: _ :: _ :: _ :: _ :: _ :: _ :: _ :: _ :: _ :: _ :: _ :: _ :: _ :: _ :: [])) rfl rfl ?_
        refine th_n ?_
        refine hK10 _ _ ?_
        clear hK10 K10
        refine wp_ret ?_
        refine th_r ?_
        clear hK8 K8
        refine ret_r1 rfl rfl ?_  -- r3
        exact ⟨by first | exact bF (fun e => by subst e; simp_all) | exact bT (cmd_ext (by omega) (by omega) (by omega) (by omega)), G⟩
      · -- c3F
        first | with_reducible (replace hb3 := nb_nt hb3) | with_reducible (replace hb3 := nb_nf hb3) | with_reducible (replace hb3 := nb_tt hb3) | with_reducible (replace hb3 := nb_tf hb3) | with_reducible (replace hb3 := nb_bt hb3) | with_reducible (replace hb3 := nb_bf hb3) | skip
        refine wp_skip ?_
        refine th_n ?_
        refine hK8 _ _ ?_
        clear hK8 K8
        refine wp_seq_k fun K11 hK11 => ?_
        refine wp_seq_k fun K12 hK12 => ?_
        refine wp_region_lit ?_  -- region 7 exact.go:363
        refine S_beg 25 rfl ?_
        refine S_val (Y_field Try.underlying25 rfl fz25_3 (by decide) rfl) ?_
        refine S_val (Y_load Try.underlying3 rfl rfl (by first | assumption | exact B1.at (by rfl) | exact B2.at (by rfl))) ?_
        refine S_val (Y_field Try.underlying25 rfl fz25_3 (by decide) rfl) ?_
        refine S_val (Y_load Try.underlying3 rfl rfl (by first | assumption | exact B1.at (by rfl) | exact B2.at (by rfl))) ?_
        refine S_val (Y_neq rfl rfl) ?_
        refine S_nil (L' := (_ :: _ :: _ :: _ :: _ :: _ :: _ :: _ :: _ :: _ :: _ :: _ :: _ :: _ :: _ :: _ :: _ :: _ :: _ :: _ :: _ :: _ :: _ :: _ :: _ :: [])) rfl rfl ?_
        refine th_n ?_
        refine hK12 _ _ ?_
        clear hK12 K12
        refine S_if rfl (fun hb4 => ?_) (fun hb4 => ?_)  -- c4
        · -- c4T
          first | with_reducible (replace hb4 := nb_nt hb4) | with_reducible (replace hb4 := nb_nf hb4) | with_reducible (replace hb4 := nb_tt hb4) | with_reducible (replace hb4 := nb_tf hb4) | with_reducible (replace hb4 := nb_bt hb4) | with_reducible (replace hb4 := nb_bf hb4) | skip
          refine wp_seq_k fun K13 hK13 => ?_
          refine wp_region_lit ?_  -- region 8 exact.go:364
          refine S_beg 25 rfl ?_
          refine S_val (Y_assign rfl) ?_
          refine S_nil (L' := (_ :: _ :: _ :: _ :: _ :: _ :: _ :: _ :: _ :: _ :: _ :: _ :: _ :: _ :: _ :: _ :: _ :: _ :: _ :: _ :: _ :: _ :: _ :: _ :: _ :: [])) rfl rfl ?_
          refine th_n ?_
          refine hK13 _ _ ?_
          clear hK13 K13
          refine wp_ret ?_
          refine th_r ?_
          clear hK11 K11
          refine ret_r1 rfl rfl ?_  -- r4
          exact ⟨by first | exact bF (fun e => by subst e; simp_all) | exact bT (cmd_ext (by omega) (by omega) (by omega) (by omega)), G⟩
        · -- c4F
          first | with_reducible (replace hb4 := nb_nt hb4) | with_reducible (replace hb4 := nb_nf hb4) | with_reducible (replace hb4 := nb_tt hb4) | with_reducible (replace hb4 := nb_tf hb4) | with_reducible (replace hb4 := nb_bt hb4) | with_reducible (replace hb4 := nb_bf hb4) | skip
          refine wp_skip ?_
          refine th_n ?_
          refine hK11 _ _ ?_
          clear hK11 K11
          refine wp_seq_k fun K14 hK14 => ?_
          refine wp_region_lit ?_  -- region 9 exact.go:366
          refine S_beg 25 rfl ?_
          refine S_val (Y_assign rfl) ?_
          refine S_nil (L' := (_ :: _ :: _ :: _ :: _ :: _ :: _ :: _ :: _ :: _ :: _ :: _ :: _ :: _ :: _ :: _ :: _ :: _ :: _ :: _ :: _ :: _ :: _ :: _ :: _ :: [])) rfl rfl ?_
          refine th_n ?_
          refine hK14 _ _ ?_
          clear hK14 K14
          refine wp_ret ?_
          refine ret_r1 rfl rfl ?_  -- r5
          exact ⟨by first | exact bF (fun e => by subst e; simp_all) | exact bT (cmd_ext (by omega) (by omega) (by omega) (by omega)), G⟩

set_option maxHeartbeats 400000 in
set_option maxRecDepth 20000 in
theorem laws_szCommandS_c (A : Option Addr) (n c : Nat) (left : Int) (w : World) (hn : n ≤ 9223372036854775807) (hl : -1 ≤ left) (hl2 : left ≤ 1048576) :
    Calls Try.prog 23 #[.slice A n c, .int .i64 left] w (Ret fun v w' => ∃ r : Int, v = .int .i64 r ∧ (-1 ≤ r ∧ r ≤ 1048576 ∧ (0 ≤ r → (n : Int) + r ≤ left)) ∧ Grow w w') := by
  refine enter Try.func23 rfl Try.ntmps23 (L := (_ :: _ :: _ :: _ :: _ :: _ :: _ :: _ :: _ :: _ :: _ :: _ :: [])) rfl ?_
  have G := Mod.refl No w
  refine wp_seq_k fun K1 hK1 => ?_
  refine wp_region_lit ?_  -- region 0 exact.go:345
  refine S_beg 12 rfl ?_
  refine S_val (Y_assign rfl) ?_
  refine S_nil (L' := (_ :: _ :: _ :: _ :: _ :: _ :: _ :: _ :: _ :: _ :: _ :: _ :: [])) rfl rfl ?_
  refine th_n ?_
  refine hK1 _ _ ?_
  clear hK1 K1
  refine wp_seq_k fun K2 hK2 => ?_
  refine wp_region_lit ?_  -- region 1 exact.go:346
  refine S_beg 12 rfl ?_
  refine S_val (Y_move rfl) ?_
  refine S_val (Y_move rfl) ?_
  refine S_val (Y_len Try.underlying36 rfl) ?_
  refine S_val (Y_sub rfl rfl rfl (by omega) (by omega)) ?_
  refine S_val (Y_assign rfl) ?_
  refine S_nil (L' := (_ :: _ :: _ :: _ :: _ :: _ :: _ :: _ :: _ :: _ :: _ :: _ :: [])) rfl rfl ?_
  refine th_n ?_
  refine hK2 _ _ ?_
  clear hK2 K2
  refine wp_seq_k fun K3 hK3 => ?_
  refine wp_seq_k fun K4 hK4 => ?_
  refine wp_region_lit ?_  -- region 2 exact.go:347
  refine S_beg 12 rfl ?_
  refine S_val (Y_move rfl) ?_
  refine S_val (Y_lss rfl rfl) ?_
  refine S_nil (L' := (_ :: _ :: _ :: _ :: _ :: _ :: _ :: _ :: _ :: _ :: _ :: _ :: [])) rfl rfl ?_
  refine th_n ?_
  refine hK4 _ _ ?_
  clear hK4 K4
  refine S_if rfl (fun hb1 => ?_) (fun hb1 => ?_)  -- c1
  · -- c1T
    first | with_reducible (replace hb1 := nb_nt hb1) | with_reducible (replace hb1 := nb_nf hb1) | with_reducible (replace hb1 := nb_tt hb1) | with_reducible (replace hb1 := nb_tf hb1) | with_reducible (replace hb1 := nb_bt hb1) | with_reducible (replace hb1 := nb_bf hb1) | skip
    refine wp_seq_k fun K5 hK5 => ?_
    refine wp_region_lit ?_  -- region 3 exact.go:348
    refine S_beg 12 rfl ?_
    refine S_val (Y_assign rfl) ?_
    refine S_nil (L' := (_ :: _ :: _ :: _ :: _ :: _ :: _ :: _ :: _ :: _ :: _ :: _ :: [])) rfl rfl ?_
    refine th_n ?_
    refine hK5 _ _ ?_
    clear hK5 K5
    refine wp_ret ?_
    refine th_r ?_
    clear hK3 K3
    refine ret_r1 rfl rfl ?_  -- r1
    exact ⟨_, rfl, by omega, G⟩
  · -- c1F
    first | with_reducible (replace hb1 := nb_nt hb1) | with_reducible (replace hb1 := nb_nf hb1) | with_reducible (replace hb1 := nb_tt hb1) | with_reducible (replace hb1 := nb_tf hb1) | with_reducible (replace hb1 := nb_bt hb1) | with_reducible (replace hb1 := nb_bf hb1) | skip
    refine wp_skip ?_
    refine th_n ?_
    refine hK3 _ _ ?_
    clear hK3 K3
    refine wp_seq_k fun K6 hK6 => ?_
    refine wp_region_lit ?_  -- region 4 exact.go:350
    refine S_beg 12 rfl ?_
    refine S_val (Y_move rfl) ?_
    refine S_val (Y_assign rfl) ?_
    refine S_nil (L' := (_ :: _ :: _ :: _ :: _ :: _ :: _ :: _ :: _ :: _ :: _ :: _ :: [])) rfl rfl ?_
    refine th_n ?_
    refine hK6 _ _ ?_
    clear hK6 K6
    refine wp_ret ?_
    refine ret_r1 rfl rfl ?_  -- r2
    exact ⟨_, rfl, by omega, G⟩

set_option maxHeartbeats 400000 in
set_option maxRecDepth 20000 in
theorem laws_toCommandS_c (Pr : Nat → Prop) (A : Option Addr) (xs : List LCmd) (c : Nat) (w : World) (hA : RO Pr w A xs) (hx : xs.length ≤ 1048576) :
    Calls Try.prog 25 #[.slice A xs.length c] w (Ret fun v w' => ∃ b, v = .slice (some ⟨b, 0, none⟩) xs.length xs.length ∧ w.heap.size ≤ b ∧ Blk w' b 25 (flatO xs).toArray ∧ Grow w w') := by
  refine enter Try.func25 rfl Try.ntmps25 (L := (_ :: _ :: _ :: _ :: _ :: _ :: _ :: _ :: _ :: _ :: _ :: _ :: _ :: _ :: _ :: _ :: _ :: _ :: _ :: _ :: _ :: _ :: _ :: [])) rfl ?_
  have G := Mod.refl No w
  have hA0 := hA
  refine wp_seq_k fun K1 hK1 => ?_
  refine wp_region_lit ?_  -- region 0 exact.go:337
  refine S_beg 23 rfl ?_
  refine S_val (Y_assign rfl) ?_
  refine S_nil (L' := (_ :: _ :: _ :: _ :: _ :: _ :: _ :: _ :: _ :: _ :: _ :: _ :: _ :: _ :: _ :: _ :: _ :: _ :: _ :: _ :: _ :: _ :: _ :: [])) rfl rfl ?_
  refine th_n ?_
  refine hK1 _ _ ?_
  clear hK1 K1
  refine wp_seq_k fun K2 hK2 => ?_
  refine wp_region_lit ?_  -- region 1 exact.go:338
  refine S_beg 23 rfl ?_
  refine S_val (Y_move rfl) ?_
  refine S_val (Y_len Try.underlying36 rfl) ?_
  refine S_make (z := [.int .i64 0, .int .i64 0, .int .i64 0, .int .i64 0]) Try.underlying39 zr25 sz25 by25 rfl rfl (by omega) (by omega) (by omega) ?_
  intro b1 w1 fb1 g1 B1
  have lb1 := B1.lt
  replace hA := hA.grow g1
  replace G := G.grow g1
  have zg1 := g1.size
  refine S_val (Y_assign rfl) ?_
  refine S_nil (L' := (_ :: _ :: _ :: _ :: _ :: _ :: _ :: _ :: _ :: _ :: _ :: _ :: _ :: _ :: _ :: _ :: _ :: _ :: _ :: _ :: _ :: _ :: _ :: [])) rfl rfl ?_
  refine th_n ?_
  refine hK2 _ _ ?_
  clear hK2 K2
  refine wp_seq_k fun K3 hK3 => ?_
  refine wp_seq_k fun K4 hK4 => ?_
  refine wp_region_lit ?_  -- region 2 exact.go:339
  refine S_beg 23 rfl ?_
  refine S_val (Y_assign rfl) ?_
  refine S_nil (L' := (_ :: _ :: _ :: _ :: _ :: _ :: _ :: _ :: _ :: _ :: _ :: _ :: _ :: _ :: _ :: _ :: _ :: _ :: _ :: _ :: _ :: _ :: _ :: [])) rfl rfl ?_
  refine th_n ?_
  refine hK4 _ _ ?_
  clear hK4 K4
  refine wp_block ?_
  go_loopw [4] (fun u4 wr => (∃ k : Nat, u4 = .int .i64 k ∧ k ≤ xs.length ∧ Blk wr b1 25 (flatO (xs.take k) ++ zeros [.int .i64 0, .int .i64 0, .int .i64 0, .int .i64 0] (xs.length - k)).toArray) ∧ Mod (fun i => i = b1) w1 wr) (fun u4 wr => xs.length - (intOf u4).toNat)  -- L1
  case atStart =>
    refine ⟨?_, Mod.refl _ _⟩
    exact ⟨0, rfl, by omega, by simpa [flatO] using B1⟩
  case round =>
    obtain ⟨w2, rfl⟩ : ∃ x : World, x = wr := ⟨_, rfl⟩
    obtain ⟨hrel, g2⟩ := hrel
    clear B1
    replace G := G.above g2 (by intro i h; first | omega | (dsimp only at h; omega))
    replace hA := hA0.grow G
    have zg2 := g2.size
    obtain ⟨k, rfl, hk, B1⟩ := hrel
    have GL2 := g2
    refine wp_seq_k fun K5 hK5 => ?_
    refine wp_seq_k fun K6 hK6 => ?_
    refine wp_region_lit ?_  -- region 3 exact.go:339
    refine S_beg 23 rfl ?_
    refine S_val (Y_move rfl) ?_
    refine S_val (Y_move rfl) ?_
    refine S_val (Y_len Try.underlying36 rfl) ?_
    refine S_val (Y_lss rfl rfl) ?_
    refine S_nil (L' := (_ :: _ :: _ :: _ :: _ :: _ :: _ :: _ :: _ :: _ :: _ :: _ :: _ :: _ :: _ :: _ :: _ :: _ :: _ :: _ :: _ :: _ :: _ :: [])) rfl rfl ?_
    refine th_n ?_
    refine hK6 _ _ ?_
    clear hK6 K6
    refine S_if rfl (fun hb1 => ?_) (fun hb1 => ?_)  -- c1
    · -- c1T
      first | with_reducible (replace hb1 := nb_nt hb1) | with_reducible (replace hb1 := nb_nf hb1) | with_reducible (replace hb1 := nb_tt hb1) | with_reducible (replace hb1 := nb_tf hb1) | with_reducible (replace hb1 := nb_bt hb1) | with_reducible (replace hb1 := nb_bf hb1) | skip
      have hk1 : k < xs.length := by omega
      obtain ⟨g1, o1, rfl, hp1, cc10⟩ := hA0.cell hk1
      have cc1 := cc10.grow G
      rw [zeros_pos (by omega)] at B1
      refine wp_skip ?_
      refine th_n ?_
      refine hK5 _ _ ?_
      clear hK5 K5
      refine wp_seq_k fun K7 hK7 => ?_
      refine wp_block ?_
      refine wp_region_lit ?_  -- region 5 exact.go:340
      refine S_beg 23 rfl ?_
      refine S_val (Y_move rfl) ?_
      refine S_val (Y_move rfl) ?_
      refine S_val (Y_move rfl) ?_
      refine S_val (Y_move rfl) ?_
      refine S_val (Y_index Try.underlying36 sz23 rfl rfl (by first | assumption | omega)) ?_
      refine S_val (Y_loadS Try.underlying23 rfl sz23 rfl (by first | assumption | exact B1.row (by rfl))) ?_
      refine S_call rfl en16 (laws_toCommand_c _ _ _ _ _) ?_  -- k1 laws.toCommand
      rintro v3 w3 ⟨rfl, g3⟩
      replace hA := hA.grow g3
      replace cc1 := cc1.grow g3
      replace G := G.grow g3
      replace GL2 := GL2.grow g3
      replace B1 := B1.grow g3
      have zg3 := g3.size
      refine S_val (Y_index Try.underlying39 sz25 rfl rfl (by first | assumption | omega)) ?_
      refine S_stM (pre := flatO (xs.take k)) (old := [.int .i64 0, .int .i64 0, .int .i64 0, .int .i64 0]) (post := zeros [.int .i64 0, .int .i64 0, .int .i64 0, .int .i64 0] (xs.length - k - 1)) (vs := [_, _, _, _]) sz25 rfl rfl rfl rfl (by rw [List.append_assoc]; exact B1) (by rw [flatO_len, List.length_take]; omega) rfl ?_
      intro w4 m4 X4
      replace B1 := Blk.eq X4 (flatO_snoc hk1)
      clear X4
      replace G := G.above m4 (by intro i h; first | omega | (dsimp only at h; omega))
      replace GL2 := Mod.trans' GL2 m4 (fun _ h _ => h) (fun i h _ => by first | exact h | omega | (dsimp only at h ⊢; omega) | (subst h; rfl) | (subst h; exact ⟨by omega, rfl⟩))
      replace hA := hA0.grow G
      replace cc1 := cc10.grow G
      have zm4 := m4.size
      refine S_nil (L' := (_ :: _ :: _ :: _ :: _ :: _ :: _ :: _ :: _ :: _ :: _ :: _ :: _ :: _ :: _ :: _ :: _ :: _ :: _ :: _ :: _ :: _ :: _ :: [])) rfl rfl ?_
      refine ib_n ?_
      refine th_n ?_
      refine hK7 _ _ ?_
      clear hK7 K7
      refine wp_region_lit ?_  -- region 4 exact.go:339
      refine S_beg 23 rfl ?_
      refine S_val (Y_move rfl) ?_
      refine S_val (Y_inc rfl rfl (by omega)) ?_
      refine S_val (Y_assign rfl) ?_
      refine S_nil (L' := (_ :: _ :: _ :: _ :: _ :: _ :: _ :: _ :: _ :: _ :: _ :: _ :: _ :: _ :: _ :: _ :: _ :: _ :: _ :: _ :: _ :: _ :: _ :: [])) rfl rfl ?_
      refine th_n ?_
      go_roundw  -- e1 of L1
      case rel =>
        refine ⟨?_, GL2⟩
        exact ⟨k + 1, rfl, by omega, B1⟩
      case measure =>
        exact dec_nat (by omega)
    · -- c1F
      first | with_reducible (replace hb1 := nb_nt hb1) | with_reducible (replace hb1 := nb_nf hb1) | with_reducible (replace hb1 := nb_tt hb1) | with_reducible (replace hb1 := nb_tf hb1) | with_reducible (replace hb1 := nb_bt hb1) | with_reducible (replace hb1 := nb_bf hb1) | skip
      refine wp_exit ?_
      refine th_x ?_
      refine th_x ?_
      refine ib_e ?_
      refine th_n ?_
      refine hK3 _ _ ?_
      clear hK5 K5 hK3 K3
      refine wp_seq_k fun K8 hK8 => ?_
      refine wp_region_lit ?_  -- region 6 exact.go:342
      refine S_beg 23 rfl ?_
      refine S_val (Y_move rfl) ?_
      refine S_val (Y_assign rfl) ?_
      refine S_nil (L' := (_ :: _ :: _ :: _ :: _ :: _ :: _ :: _ :: _ :: _ :: _ :: _ :: _ :: _ :: _ :: _ :: _ :: _ :: _ :: _ :: _ :: _ :: _ :: [])) rfl rfl ?_
      refine th_n ?_
      refine hK8 _ _ ?_
      clear hK8 K8
      refine wp_ret ?_
      refine ret_r1 rfl rfl ?_  -- r1
      have : k = xs.length := by omega
      subst this
      rw [List.take_length] at B1
      exact ⟨b1, rfl, fb1, Blk.eq B1 (by simp [zeros]), G⟩

set_option maxHeartbeats 400000 in
set_option maxRecDepth 20000 in
theorem laws_eqCommandS_c (P1 P2 : Nat → Prop) (A B : Option Addr) (xs ys : List LCmd) (c d : Nat) (w : World) (hA : RO P1 w A xs) (hB : RO P2 w B ys) (hx : xs.length ≤ 9223372036854775807) :
    Calls Try.prog 27 #[.slice A xs.length c, .slice B ys.length d] w (Ret fun v w' => v = .bool (decide (xs = ys)) ∧ Grow w w') := by
  refine enter Try.func27 rfl Try.ntmps27 (L := (_ :: _ :: _ :: _ :: _ :: _ :: _ :: _ :: _ :: _ :: _ :: _ :: _ :: _ :: _ :: _ :: _ :: _ :: _ :: _ :: _ :: _ :: _ :: _ :: _ :: _ :: _ :: [])) rfl ?_
  have G := Mod.refl No w
  have hA0 := hA
  have hB0 := hB
  refine wp_seq_k fun K1 hK1 => ?_
  refine wp_region_lit ?_  -- region 0 exact.go:369
  refine S_beg 27 rfl ?_
  refine S_val (Y_assign rfl) ?_
  refine S_nil (L' := (_ :: _ :: _ :: _ :: _ :: _ :: _ :: _ :: _ :: _ :: _ :: _ :: _ :: _ :: _ :: _ :: _ :: _ :: _ :: _ :: _ :: _ :: _ :: _ :: _ :: _ :: _ :: [])) rfl rfl ?_
  refine th_n ?_
  refine hK1 _ _ ?_
  clear hK1 K1
  refine wp_seq_k fun K2 hK2 => ?_
  refine wp_seq_k fun K3 hK3 => ?_
  refine wp_region_lit ?_  -- region 1 exact.go:370
  refine S_beg 27 rfl ?_
  refine S_val (Y_move rfl) ?_
  refine S_val (Y_len Try.underlying39 rfl) ?_
  refine S_val (Y_move rfl) ?_
  refine S_val (Y_len Try.underlying39 rfl) ?_
  refine S_val (Y_neq rfl rfl) ?_
  refine S_nil (L' := (_ :: _ :: _ :: _ :: _ :: _ :: _ :: _ :: _ :: _ :: _ :: _ :: _ :: _ :: _ :: _ :: _ :: _ :: _ :: _ :: _ :: _ :: _ :: _ :: _ :: _ :: _ :: [])) rfl rfl ?_
  refine th_n ?_
  refine hK3 _ _ ?_
  clear hK3 K3
  refine S_if rfl (fun hb1 => ?_) (fun hb1 => ?_)  -- c1
  · -- c1T
    first | with_reducible (replace hb1 := nb_nt hb1) | with_reducible (replace hb1 := nb_nf hb1) | with_reducible (replace hb1 := nb_tt hb1) | with_reducible (replace hb1 := nb_tf hb1) | with_reducible (replace hb1 := nb_bt hb1) | with_reducible (replace hb1 := nb_bf hb1) | skip
    refine wp_seq_k fun K4 hK4 => ?_
    refine wp_region_lit ?_  -- region 2 exact.go:371
    refine S_beg 27 rfl ?_
    refine S_val (Y_assign rfl) ?_
    refine S_nil (L' := (_ :: _ :: _ :: _ :: _ :: _ :: _ :: _ :: _ :: _ :: _ :: _ :: _ :: _ :: _ :: _ :: _ :: _ :: _ :: _ :: _ :: _ :: _ :: _ :: _ :: _ :: _ :: [])) rfl rfl ?_
    refine th_n ?_
    refine hK4 _ _ ?_
    clear hK4 K4
    refine wp_ret ?_
    refine th_r ?_
    clear hK2 K2
    refine ret_r1 rfl rfl ?_  -- r1
    exact ⟨bF (fun e => hb1 (by rw [e])), G⟩
  · -- c1F
    first | with_reducible (replace hb1 := nb_nt hb1) | with_reducible (replace hb1 := nb_nf hb1) | with_reducible (replace hb1 := nb_tt hb1) | with_reducible (replace hb1 := nb_tf hb1) | with_reducible (replace hb1 := nb_bt hb1) | with_reducible (replace hb1 := nb_bf hb1) | skip
    refine wp_skip ?_
    refine th_n ?_
    refine hK2 _ _ ?_
    clear hK2 K2
    refine wp_seq_k fun K5 hK5 => ?_
    refine wp_seq_k fun K6 hK6 => ?_
    refine wp_region_lit ?_  -- region 3 exact.go:373
    refine S_beg 27 rfl ?_
    refine S_val (Y_assign rfl) ?_
    refine S_nil (L' := (_ :: _ :: _ :: _ :: _ :: _ :: _ :: _ :: _ :: _ :: _ :: _ :: _ :: _ :: _ :: _ :: _ :: _ :: _ :: _ :: _ :: _ :: _ :: _ :: _ :: _ :: _ :: [])) rfl rfl ?_
    refine th_n ?_
    refine hK6 _ _ ?_
    clear hK6 K6
    refine wp_block ?_
    go_loopw [5] (fun u5 wr => (∃ k : Nat, u5 = .int .i64 k ∧ k ≤ xs.length ∧ xs.take k = ys.take k) ∧ Mod No w wr) (fun u5 wr => xs.length - (intOf u5).toNat)  -- L1
    case atStart =>
      refine ⟨?_, Mod.refl _ _⟩
      exact ⟨0, rfl, by omega, by simp⟩
    case round =>
      obtain ⟨w1, rfl⟩ : ∃ x : World, x = wr := ⟨_, rfl⟩
      obtain ⟨hrel, g1⟩ := hrel
      replace hA := hA.grow g1
      replace hB := hB.grow g1
      replace G := G.grow g1
      have zg1 := g1.size
      obtain ⟨k, rfl, hk, hs⟩ := hrel
      have GL1 := g1
      refine wp_seq_k fun K7 hK7 => ?_
      refine wp_seq_k fun K8 hK8 => ?_
      refine wp_region_lit ?_  -- region 4 exact.go:373
      refine S_beg 27 rfl ?_
      refine S_val (Y_move rfl) ?_
      refine S_val (Y_move rfl) ?_
      refine S_val (Y_len Try.underlying39 rfl) ?_
      refine S_val (Y_lss rfl rfl) ?_
      refine S_nil (L' := (_ :: _ :: _ :: _ :: _ :: _ :: _ :: _ :: _ :: _ :: _ :: _ :: _ :: _ :: _ :: _ :: _ :: _ :: _ :: _ :: _ :: _ :: _ :: _ :: _ :: _ :: _ :: [])) rfl rfl ?_
      refine th_n ?_
      refine hK8 _ _ ?_
      clear hK8 K8
      refine S_if rfl (fun hb2 => ?_) (fun hb2 => ?_)  -- c2
      · -- c2T
        first | with_reducible (replace hb2 := nb_nt hb2) | with_reducible (replace hb2 := nb_nf hb2) | with_reducible (replace hb2 := nb_tt hb2) | with_reducible (replace hb2 := nb_tf hb2) | with_reducible (replace hb2 := nb_bt hb2) | with_reducible (replace hb2 := nb_bf hb2) | skip
        refine wp_skip ?_
        refine th_n ?_
        refine hK7 _ _ ?_
        clear hK7 K7
        refine wp_seq_k fun K9 hK9 => ?_
        refine wp_block ?_
        refine wp_seq_k fun K10 hK10 => ?_
        refine D_start 10 27 (fun w => Mod (No) w) follows rfl rfl ?_  -- d1 region 6 exact.go:374
        intro w2 g2
        replace hA := hA.grow g2
        replace hB := hB.grow g2
        replace G := G.grow g2
        replace GL1 := GL1.grow g2
        have zg2 := g2.size
        have GS2 := Mod.refl (No) w2
        have hk1 : k < xs.length := by omega
        have hk2 : k < ys.length := by omega
        obtain ⟨g1, o1, rfl, hp1, cc1⟩ := hA.cell hk1
        obtain ⟨g2, o2, rfl, hp2, cc2⟩ := hB.cell hk2
        refine D_q (i := 0) rfl (by kernel_rfl) (fun _ _ _ h => h) GS2 (fun _ _ => Y_move rfl) ?_
        refine D_q (i := 1) rfl (by kernel_rfl) (fun _ _ _ h => h) GS2 (fun _ _ => Y_move rfl) ?_
        refine D_q (i := 2) rfl (by kernel_rfl) (fun _ _ _ h => h) GS2 (fun _ _ => Y_index Try.underlying39 sz25 rfl rfl (by first | assumption | omega)) ?_
        refine D_q (i := 3) rfl (by kernel_rfl) (fun _ _ _ h => h) GS2 (fun _ hs => Y_loadS Try.underlying25 rfl sz25 rfl (by first | exact hs.cells0 (by assumption))) ?_
        refine D_q (i := 4) rfl (by kernel_rfl) (fun _ _ _ h => h) GS2 (fun _ _ => Y_move rfl) ?_
        refine D_q (i := 5) rfl (by kernel_rfl) (fun _ _ _ h => h) GS2 (fun _ _ => Y_move rfl) ?_
        refine D_q (i := 6) rfl (by kernel_rfl) (fun _ _ _ h => h) GS2 (fun _ _ => Y_index Try.underlying39 sz25 rfl rfl (by first | assumption | omega)) ?_
        refine D_q (i := 7) rfl (by kernel_rfl) (fun _ _ _ h => h) GS2 (fun _ hs => Y_loadS Try.underlying25 rfl sz25 rfl (by first | exact hs.cells0 (by assumption))) ?_
        refine D_1 (i := 8) (by kernel_rfl) ?_
        refine E_call rfl rfl en59 (laws_eqCommand_c _ _ _) ?_  -- k1 laws.eqCommand
        rintro v3 w3 ⟨rfl, g3⟩
        replace hA := hA.grow g3
        replace hB := hB.grow g3
        replace G := G.grow g3
        replace GL1 := GL1.grow g3
        replace GS2 := GS2.grow g3
        replace cc1 := cc1.grow g3
        replace cc2 := cc2.grow g3
        have zg3 := g3.size
        refine ⟨GS2, ?_⟩
        refine D_q (i := 9) rfl (by kernel_rfl) (fun _ _ _ h => h) GS2 (fun _ _ => Y_not rfl) ?_
        refine D_end (L' := (_ :: _ :: _ :: _ :: _ :: _ :: _ :: _ :: _ :: _ :: _ :: _ :: _ :: _ :: _ :: _ :: _ :: _ :: _ :: _ :: _ :: _ :: _ :: _ :: _ :: _ :: _ :: [])) (by kernel_rfl) rfl rfl ?_
        refine th_n ?_
        refine hK10 _ _ ?_
        clear hK10 K10
        refine S_if rfl (fun hb3 => ?_) (fun hb3 => ?_)  -- c3
        · -- c3T
          first | with_reducible (replace hb3 := nb_nt hb3) | with_reducible (replace hb3 := nb_nf hb3) | with_reducible (replace hb3 := nb_tt hb3) | with_reducible (replace hb3 := nb_tf hb3) | with_reducible (replace hb3 := nb_bt hb3) | with_reducible (replace hb3 := nb_bf hb3) | skip
          refine wp_seq_k fun K11 hK11 => ?_
          refine wp_region_lit ?_  -- region 7 exact.go:375
          refine S_beg 27 rfl ?_
          refine S_val (Y_assign rfl) ?_
          refine S_nil (L' := (_ :: _ :: _ :: _ :: _ :: _ :: _ :: _ :: _ :: _ :: _ :: _ :: _ :: _ :: _ :: _ :: _ :: _ :: _ :: _ :: _ :: _ :: _ :: _ :: _ :: _ :: _ :: [])) rfl rfl ?_
          refine th_n ?_
          refine hK11 _ _ ?_
          clear hK11 K11
          refine wp_ret ?_
          refine ib_r ?_
          refine th_r ?_
          refine th_r ?_
          refine ib_r ?_
          refine th_r ?_
          clear hK9 K9 hK5 K5
          refine ret_r1 rfl rfl ?_  -- r2
          exact ⟨bF (fun e => hb3 (by subst e; rfl)), G⟩
        · -- c3F
          first | with_reducible (replace hb3 := nb_nt hb3) | with_reducible (replace hb3 := nb_nf hb3) | with_reducible (replace hb3 := nb_tt hb3) | with_reducible (replace hb3 := nb_tf hb3) | with_reducible (replace hb3 := nb_bt hb3) | with_reducible (replace hb3 := nb_bf hb3) | skip
          refine wp_skip ?_
          refine ib_n ?_
          refine th_n ?_
          refine hK9 _ _ ?_
          clear hK9 K9
          refine wp_region_lit ?_  -- region 5 exact.go:373
          refine S_beg 27 rfl ?_
          refine S_val (Y_move rfl) ?_
          refine S_val (Y_inc rfl rfl (by omega)) ?_
          refine S_val (Y_assign rfl) ?_
          refine S_nil (L' := (_ :: _ :: _ :: _ :: _ :: _ :: _ :: _ :: _ :: _ :: _ :: _ :: _ :: _ :: _ :: _ :: _ :: _ :: _ :: _ :: _ :: _ :: _ :: _ :: _ :: _ :: _ :: [])) rfl rfl ?_
          refine th_n ?_
          go_roundw  -- e1 of L1
          case rel =>
            refine ⟨?_, GL1⟩
            exact ⟨k + 1, rfl, by omega, take_eq hs (by omega) (by omega) hb3⟩
          case measure =>
            exact dec_nat (by omega)
      · -- c2F
        first | with_reducible (replace hb2 := nb_nt hb2) | with_reducible (replace hb2 := nb_nf hb2) | with_reducible (replace hb2 := nb_tt hb2) | with_reducible (replace hb2 := nb_tf hb2) | with_reducible (replace hb2 := nb_bt hb2) | with_reducible (replace hb2 := nb_bf hb2) | skip
        refine wp_exit ?_
        refine th_x ?_
        refine th_x ?_
        refine ib_e ?_
        refine th_n ?_
        refine hK5 _ _ ?_
        clear hK7 K7 hK5 K5
        refine wp_seq_k fun K12 hK12 => ?_
        refine wp_region_lit ?_  -- region 8 exact.go:378
        refine S_beg 27 rfl ?_
        refine S_val (Y_assign rfl) ?_
        refine S_nil (L' := (_ :: _ :: _ :: _ :: _ :: _ :: _ :: _ :: _ :: _ :: _ :: _ :: _ :: _ :: _ :: _ :: _ :: _ :: _ :: _ :: _ :: _ :: _ :: _ :: _ :: _ :: _ :: [])) rfl rfl ?_
        refine th_n ?_
        refine hK12 _ _ ?_
        clear hK12 K12
        refine wp_ret ?_
        refine ret_r1 rfl rfl ?_  -- r3
        exact ⟨bT (take_all hs (by omega) (by omega)), G⟩

theorem csB_len {l : List LCmd} (h : ¬ l.length ≤ 40) : Value.bool false = .bool (csB l) := by simp [csB, h]
theorem csB_bad {l : List LCmd} {k : Nat} (hk : k < l.length) (h : cvB l[k] = false) : Value.bool false = .bool (csB l) := by
  have := all_false hk h
  simp [csB, this]
theorem csB_ok {l : List LCmd} (h : l.all cvB = true) : Value.bool (decide (l.length ≤ 40)) = .bool (csB l) := by
  unfold csB
  rw [h]
  simp


set_option maxHeartbeats 400000 in
set_option maxRecDepth 20000 in
theorem spec_CommandsValid_c (Pr : Nat → Prop) (A : Option Addr) (xs : List LCmd) (c : Nat) (w : World) (hA : RO Pr w A xs) (hx : xs.length ≤ 1048576) :
    Calls Try.prog 24 #[.slice A xs.length c] w (Ret fun v w' => v = .bool (csB xs) ∧ Grow w w') := by
  refine enter Try.func24 rfl Try.ntmps24 (L := (_ :: _ :: _ :: _ :: _ :: _ :: _ :: _ :: _ :: _ :: _ :: _ :: _ :: _ :: _ :: _ :: _ :: _ :: _ :: [])) rfl ?_
  have G := Mod.refl No w
  have hA0 := hA
  refine wp_seq_k fun K1 hK1 => ?_
  refine wp_region_lit ?_  -- region 0 l8_programs.go:25
  refine S_beg 19 rfl ?_
  refine S_val (Y_assign rfl) ?_
  refine S_nil (L' := (_ :: _ :: _ :: _ :: _ :: _ :: _ :: _ :: _ :: _ :: _ :: _ :: _ :: _ :: _ :: _ :: _ :: _ :: _ :: [])) rfl rfl ?_
  refine th_n ?_
  refine hK1 _ _ ?_
  clear hK1 K1
  refine wp_seq_k fun K2 hK2 => ?_
  refine wp_seq_k fun K3 hK3 => ?_
  refine wp_region_lit ?_  -- region 1 l8_programs.go:26
  refine S_beg 19 rfl ?_
  refine S_val (Y_assign rfl) ?_
  refine S_nil (L' := (_ :: _ :: _ :: _ :: _ :: _ :: _ :: _ :: _ :: _ :: _ :: _ :: _ :: _ :: _ :: _ :: _ :: _ :: _ :: [])) rfl rfl ?_
  refine th_n ?_
  refine hK3 _ _ ?_
  clear hK3 K3
  refine wp_block ?_
  go_loopw [3] (fun u3 wr => (∃ k : Nat, u3 = .int .i64 k ∧ k ≤ xs.length ∧ (xs.take k).all cvB = true) ∧ Mod No w wr) (fun u3 wr => xs.length - (intOf u3).toNat)  -- L1
  case atStart =>
    refine ⟨?_, Mod.refl _ _⟩
    exact ⟨0, rfl, by omega, by simp⟩
  case round =>
    obtain ⟨w1, rfl⟩ : ∃ x : World, x = wr := ⟨_, rfl⟩
    obtain ⟨hrel, g1⟩ := hrel
    replace hA := hA.grow g1
    replace G := G.grow g1
    have zg1 := g1.size
    obtain ⟨k, rfl, hk, hs⟩ := hrel
    have GL1 := g1
    refine wp_seq_k fun K4 hK4 => ?_
    refine wp_seq_k fun K5 hK5 => ?_
    refine wp_region_lit ?_  -- region 2 l8_programs.go:26
    refine S_beg 19 rfl ?_
    refine S_val (Y_move rfl) ?_
    refine S_val (Y_move rfl) ?_
    refine S_val (Y_len Try.underlying39 rfl) ?_
    refine S_val (Y_lss rfl rfl) ?_
    refine S_nil (L' := (_ :: _ :: _ :: _ :: _ :: _ :: _ :: _ :: _ :: _ :: _ :: _ :: _ :: _ :: _ :: _ :: _ :: _ :: _ :: [])) rfl rfl ?_
    refine th_n ?_
    refine hK5 _ _ ?_
    clear hK5 K5
    refine S_if rfl (fun hb1 => ?_) (fun hb1 => ?_)  -- c1
    · -- c1T
      first | with_reducible (replace hb1 := nb_nt hb1) | with_reducible (replace hb1 := nb_nf hb1) | with_reducible (replace hb1 := nb_tt hb1) | with_reducible (replace hb1 := nb_tf hb1) | with_reducible (replace hb1 := nb_bt hb1) | with_reducible (replace hb1 := nb_bf hb1) | skip
      have hk1 : k < xs.length := by omega
      obtain ⟨g2, o2, rfl, hp2, cc20⟩ := hA0.cell hk1
      have cc2 := cc20.grow G
      refine wp_skip ?_
      refine th_n ?_
      refine hK4 _ _ ?_
      clear hK4 K4
      refine wp_seq_k fun K6 hK6 => ?_
      refine wp_block ?_
      refine wp_seq_k fun K7 hK7 => ?_
      refine wp_region_lit ?_  -- region 4 l8_programs.go:27
      refine S_beg 19 rfl ?_
      refine S_val (Y_move rfl) ?_
      refine S_val (Y_move rfl) ?_
      refine S_val (Y_index Try.underlying39 sz25 rfl rfl (by first | assumption | omega)) ?_
      refine S_val (Y_loadS Try.underlying25 rfl sz25 rfl (by first | assumption | skip)) ?_
      refine S_call rfl en15 (spec_CommandValid_c _ _ _ _ _) ?_  -- k1 spec.CommandValid
      rintro v2 w2 ⟨rfl, g2⟩
      replace hA := hA.grow g2
      replace cc2 := cc2.grow g2
      replace G := G.grow g2
      replace GL1 := GL1.grow g2
      have zg2 := g2.size
      refine S_val (Y_not rfl) ?_
      refine S_nil (L' := (_ :: _ :: _ :: _ :: _ :: _ :: _ :: _ :: _ :: _ :: _ :: _ :: _ :: _ :: _ :: _ :: _ :: _ :: _ :: [])) rfl rfl ?_
      refine th_n ?_
      refine hK7 _ _ ?_
      clear hK7 K7
      refine S_if rfl (fun hb2 => ?_) (fun hb2 => ?_)  -- c2
      · -- c2T
        first | with_reducible (replace hb2 := nb_nt hb2) | with_reducible (replace hb2 := nb_nf hb2) | with_reducible (replace hb2 := nb_tt hb2) | with_reducible (replace hb2 := nb_tf hb2) | with_reducible (replace hb2 := nb_bt hb2) | with_reducible (replace hb2 := nb_bf hb2) | skip
        refine wp_seq_k fun K8 hK8 => ?_
        refine wp_region_lit ?_  -- region 5 l8_programs.go:28
        refine S_beg 19 rfl ?_
        refine S_val (Y_assign rfl) ?_
        refine S_nil (L' := (_ :: _ :: _ :: _ :: _ :: _ :: _ :: _ :: _ :: _ :: _ :: _ :: _ :: _ :: _ :: _ :: _ :: _ :: _ :: [])) rfl rfl ?_
        refine th_n ?_
        refine hK8 _ _ ?_
        clear hK8 K8
        refine wp_ret ?_
        refine ib_r ?_
        refine th_r ?_
        refine th_r ?_
        refine ib_r ?_
        refine th_r ?_
        clear hK6 K6 hK2 K2
        refine ret_r1 rfl rfl ?_  -- r1
        exact ⟨csB_bad hk1 hb2, G⟩
      · -- c2F
        first | with_reducible (replace hb2 := nb_nt hb2) | with_reducible (replace hb2 := nb_nf hb2) | with_reducible (replace hb2 := nb_tt hb2) | with_reducible (replace hb2 := nb_tf hb2) | with_reducible (replace hb2 := nb_bt hb2) | with_reducible (replace hb2 := nb_bf hb2) | skip
        refine wp_skip ?_
        refine ib_n ?_
        refine th_n ?_
        refine hK6 _ _ ?_
        clear hK6 K6
        refine wp_region_lit ?_  -- region 3 l8_programs.go:26
        refine S_beg 19 rfl ?_
        refine S_val (Y_move rfl) ?_
        refine S_val (Y_inc rfl rfl (by omega)) ?_
        refine S_val (Y_assign rfl) ?_
        refine S_nil (L' := (_ :: _ :: _ :: _ :: _ :: _ :: _ :: _ :: _ :: _ :: _ :: _ :: _ :: _ :: _ :: _ :: _ :: _ :: _ :: [])) rfl rfl ?_
        refine th_n ?_
        go_roundw  -- e1 of L1
        case rel =>
          refine ⟨?_, GL1⟩
          exact ⟨k + 1, rfl, by omega, all_take_succ (by omega) hs hb2⟩
        case measure =>
          exact dec_nat (by omega)
    · -- c1F
      first | with_reducible (replace hb1 := nb_nt hb1) | with_reducible (replace hb1 := nb_nf hb1) | with_reducible (replace hb1 := nb_tt hb1) | with_reducible (replace hb1 := nb_tf hb1) | with_reducible (replace hb1 := nb_bt hb1) | with_reducible (replace hb1 := nb_bf hb1) | skip
      refine wp_exit ?_
      refine th_x ?_
      refine th_x ?_
      refine ib_e ?_
      refine th_n ?_
      refine hK2 _ _ ?_
      clear hK4 K4 hK2 K2
      refine wp_seq_k fun K9 hK9 => ?_
      refine wp_region_lit ?_  -- region 6 l8_programs.go:31
      refine S_beg 19 rfl ?_
      refine S_val (Y_move rfl) ?_
      refine S_val (Y_len Try.underlying39 rfl) ?_
      refine S_val (Y_leq rfl rfl) ?_
      refine S_val (Y_assign rfl) ?_
      refine S_nil (L' := (_ :: _ :: _ :: _ :: _ :: _ :: _ :: _ :: _ :: _ :: _ :: _ :: _ :: _ :: _ :: _ :: _ :: _ :: _ :: [])) rfl rfl ?_
      refine th_n ?_
      refine hK9 _ _ ?_
      clear hK9 K9
      refine wp_ret ?_
      refine ret_r1 rfl rfl ?_  -- r2
      rw [← csB_ok (all_of_take (by omega) hs)]
      exact ⟨bI (by omega), G⟩

set_option maxHeartbeats 400000 in
set_option maxRecDepth 20000 in
theorem impl_CommandsValid_c (Pr : Nat → Prop) (A : Option Addr) (xs : List LCmd) (c : Nat) (w : World) (hA : RO Pr w A xs) (hx : xs.length ≤ 1048576) :
    Calls Try.prog 26 #[.slice A xs.length c] w (Ret fun v w' => v = .bool (csB xs) ∧ Grow w w') := by
  refine enter Try.func26 rfl Try.ntmps26 (L := (_ :: _ :: _ :: _ :: _ :: _ :: _ :: _ :: _ :: _ :: _ :: _ :: _ :: _ :: _ :: _ :: _ :: _ :: [])) rfl ?_
  have G := Mod.refl No w
  have hA0 := hA
  refine wp_seq_k fun K1 hK1 => ?_
  refine wp_region_lit ?_  -- region 0 l8_programs.go:81
  refine S_beg 18 rfl ?_
  refine S_val (Y_assign rfl) ?_
  refine S_nil (L' := (_ :: _ :: _ :: _ :: _ :: _ :: _ :: _ :: _ :: _ :: _ :: _ :: _ :: _ :: _ :: _ :: _ :: _ :: [])) rfl rfl ?_
  refine th_n ?_
  refine hK1 _ _ ?_
  clear hK1 K1
  refine wp_seq_k fun K2 hK2 => ?_
  refine wp_seq_k fun K3 hK3 => ?_
  refine wp_region_lit ?_  -- region 1 l8_programs.go:82
  refine S_beg 18 rfl ?_
  refine S_val (Y_move rfl) ?_
  refine S_val (Y_len Try.underlying39 rfl) ?_
  refine S_val (Y_gtr rfl rfl) ?_
  refine S_nil (L' := (_ :: _ :: _ :: _ :: _ :: _ :: _ :: _ :: _ :: _ :: _ :: _ :: _ :: _ :: _ :: _ :: _ :: _ :: [])) rfl rfl ?_
  refine th_n ?_
  refine hK3 _ _ ?_
  clear hK3 K3
  refine S_if rfl (fun hb1 => ?_) (fun hb1 => ?_)  -- c1
  · -- c1T
    first | with_reducible (replace hb1 := nb_nt hb1) | with_reducible (replace hb1 := nb_nf hb1) | with_reducible (replace hb1 := nb_tt hb1) | with_reducible (replace hb1 := nb_tf hb1) | with_reducible (replace hb1 := nb_bt hb1) | with_reducible (replace hb1 := nb_bf hb1) | skip
    refine wp_seq_k fun K4 hK4 => ?_
    refine wp_region_lit ?_  -- region 2 l8_programs.go:83
    refine S_beg 18 rfl ?_
    refine S_val (Y_assign rfl) ?_
    refine S_nil (L' := (_ :: _ :: _ :: _ :: _ :: _ :: _ :: _ :: _ :: _ :: _ :: _ :: _ :: _ :: _ :: _ :: _ :: _ :: [])) rfl rfl ?_
    refine th_n ?_
    refine hK4 _ _ ?_
    clear hK4 K4
    refine wp_ret ?_
    refine th_r ?_
    clear hK2 K2
    refine ret_r1 rfl rfl ?_  -- r1
    exact ⟨csB_len (by omega), G⟩
  · -- c1F
    first | with_reducible (replace hb1 := nb_nt hb1) | with_reducible (replace hb1 := nb_nf hb1) | with_reducible (replace hb1 := nb_tt hb1) | with_reducible (replace hb1 := nb_tf hb1) | with_reducible (replace hb1 := nb_bt hb1) | with_reducible (replace hb1 := nb_bf hb1) | skip
    refine wp_skip ?_
    refine th_n ?_
    refine hK2 _ _ ?_
    clear hK2 K2
    refine wp_seq_k fun K5 hK5 => ?_
    refine wp_seq_k fun K6 hK6 => ?_
    refine wp_region_lit ?_  -- region 3 l8_programs.go:85
    refine S_beg 18 rfl ?_
    refine S_val (Y_move rfl) ?_
    refine S_val (Y_len Try.underlying39 rfl) ?_
    refine S_val (Y_move rfl) ?_
    refine S_nil (L' := (_ :: _ :: _ :: _ :: _ :: _ :: _ :: _ :: _ :: _ :: _ :: _ :: _ :: _ :: _ :: _ :: _ :: _ :: [])) rfl rfl ?_
    refine th_n ?_
    refine hK6 _ _ ?_
    clear hK6 K6
    refine wp_block ?_
    go_loopw [10] (fun u10 wr => (∃ k : Nat, u10 = .int .i64 k ∧ k ≤ xs.length ∧ (xs.take k).all cvB = true) ∧ Mod No w wr) (fun u10 wr => xs.length - (intOf u10).toNat)  -- L1
    case atStart =>
      refine ⟨?_, Mod.refl _ _⟩
      exact ⟨0, rfl, by omega, by simp⟩
    case round =>
      obtain ⟨w1, rfl⟩ : ∃ x : World, x = wr := ⟨_, rfl⟩
      obtain ⟨hrel, g1⟩ := hrel
      replace hA := hA.grow g1
      replace G := G.grow g1
      have zg1 := g1.size
      obtain ⟨k, rfl, hk, hs⟩ := hrel
      have GL1 := g1
      refine wp_seq_k fun K7 hK7 => ?_
      refine wp_region_lit ?_  -- region 4 l8_programs.go:85
      refine S_beg 18 rfl ?_
      refine S_val (Y_lss rfl rfl) ?_
      refine S_nil (L' := (_ :: _ :: _ :: _ :: _ :: _ :: _ :: _ :: _ :: _ :: _ :: _ :: _ :: _ :: _ :: _ :: _ :: _ :: [])) rfl rfl ?_
      refine th_n ?_
      refine hK7 _ _ ?_
      clear hK7 K7
      refine wp_seq_k fun K8 hK8 => ?_
      refine S_if rfl (fun hb2 => ?_) (fun hb2 => ?_)  -- c2
      · -- c2T
        first | with_reducible (replace hb2 := nb_nt hb2) | with_reducible (replace hb2 := nb_nf hb2) | with_reducible (replace hb2 := nb_tt hb2) | with_reducible (replace hb2 := nb_tf hb2) | with_reducible (replace hb2 := nb_bt hb2) | with_reducible (replace hb2 := nb_bf hb2) | skip
        have hk1 : k < xs.length := by omega
        obtain ⟨g2, o2, rfl, hp2, cc20⟩ := hA0.cell hk1
        have cc2 := cc20.grow G
        refine wp_skip ?_
        refine th_n ?_
        refine hK8 _ _ ?_
        clear hK8 K8
        refine wp_seq_k fun K9 hK9 => ?_
        refine wp_block ?_
        refine wp_seq_k fun K10 hK10 => ?_
        refine wp_region_lit ?_  -- region 5 l8_programs.go:85
        refine S_beg 18 rfl ?_
        refine S_val (Y_index Try.underlying39 sz25 rfl rfl (by first | assumption | omega)) ?_
        refine S_val (Y_loadS Try.underlying25 rfl sz25 rfl (by first | assumption | skip)) ?_
        refine S_alloc (cs := [_, _, _, _]) zr25 rfl ?_
        intro b2 w2 fb2 g2 B2
        have lb2 := B2.lt
        replace hA := hA.grow g2
        replace cc2 := cc2.grow g2
        replace G := G.grow g2
        replace GL1 := GL1.grow g2
        have zg2 := g2.size
        refine S_stM (pre := []) (old := [_, _, _, _]) (post := []) (vs := [_, _, _, _]) sz25 rfl rfl rfl (by first | rfl | assumption) B2 rfl rfl ?_
        intro w3 m3 X3
        replace B2 := Blk.eq (ys := [_, _, _, _]) X3 rfl
        clear X3
        replace G := G.above m3 (by intro i h; first | omega | (dsimp only at h; omega))
        replace GL1 := GL1.above m3 (by intro i h; first | omega | (dsimp only at h; omega))
        replace hA := hA0.grow G
        replace cc2 := cc20.grow G
        have zm3 := m3.size
        refine S_nil (L' := (_ :: _ :: _ :: _ :: _ :: _ :: _ :: _ :: _ :: _ :: _ :: _ :: _ :: _ :: _ :: _ :: _ :: _ :: [])) rfl rfl ?_
        refine th_n ?_
        refine hK10 _ _ ?_
        clear hK10 K10
        refine wp_seq_k fun K11 hK11 => ?_
        refine wp_region_lit ?_  -- region 6 l8_programs.go:86
        refine S_beg 18 rfl ?_
        refine S_val (Y_loadS Try.underlying25 rfl sz25 rfl (by first | assumption | exact B2.row (by rfl))) ?_
        refine S_call rfl en17 (impl_CommandValid_c _ _ _ _ _) ?_  -- k1 impl.CommandValid
        rintro v4 w4 ⟨rfl, g4⟩
        replace hA := hA.grow g4
        replace cc2 := cc2.grow g4
        replace G := G.grow g4
        replace GL1 := GL1.grow g4
        replace B2 := B2.grow g4
        have zg4 := g4.size
        refine S_val (Y_not rfl) ?_
        refine S_nil (L' := (_ :: _ :: _ :: _ :: _ :: _ :: _ :: _ :: _ :: _ :: _ :: _ :: _ :: _ :: _ :: _ :: _ :: _ :: [])) rfl rfl ?_
        refine th_n ?_
        refine hK11 _ _ ?_
        clear hK11 K11
        refine S_if rfl (fun hb3 => ?_) (fun hb3 => ?_)  -- c3
        · -- c3T
          first | with_reducible (replace hb3 := nb_nt hb3) | with_reducible (replace hb3 := nb_nf hb3) | with_reducible (replace hb3 := nb_tt hb3) | with_reducible (replace hb3 := nb_tf hb3) | with_reducible (replace hb3 := nb_bt hb3) | with_reducible (replace hb3 := nb_bf hb3) | skip
          refine wp_seq_k fun K12 hK12 => ?_
          refine wp_region_lit ?_  -- region 7 l8_programs.go:87
          refine S_beg 18 rfl ?_
          refine S_val (Y_assign rfl) ?_
          refine S_nil (L' := (_ :: _ :: _ :: _ :: _ :: _ :: _ :: _ :: _ :: _ :: _ :: _ :: _ :: _ :: _ :: _ :: _ :: _ :: [])) rfl rfl ?_
          refine th_n ?_
          refine hK12 _ _ ?_
          clear hK12 K12
          refine wp_ret ?_
          refine ib_r ?_
          refine th_r ?_
          refine th_r ?_
          refine ib_r ?_
          refine th_r ?_
          clear hK9 K9 hK5 K5
          refine ret_r1 rfl rfl ?_  -- r2
          exact ⟨csB_bad hk1 hb3, G⟩
        · -- c3F
          first | with_reducible (replace hb3 := nb_nt hb3) | with_reducible (replace hb3 := nb_nf hb3) | with_reducible (replace hb3 := nb_tt hb3) | with_reducible (replace hb3 := nb_tf hb3) | with_reducible (replace hb3 := nb_bt hb3) | with_reducible (replace hb3 := nb_bf hb3) | skip
          refine wp_skip ?_
          refine ib_n ?_
          refine th_n ?_
          refine hK9 _ _ ?_
          clear hK9 K9
          refine wp_region_lit ?_  -- region 8 l8_programs.go:85
          refine S_beg 18 rfl ?_
          refine S_val (Y_inc rfl rfl (by omega)) ?_
          refine S_val (Y_move rfl) ?_
          refine S_nil (L' := (_ :: _ :: _ :: _ :: _ :: _ :: _ :: _ :: _ :: _ :: _ :: _ :: _ :: _ :: _ :: _ :: _ :: _ :: [])) rfl rfl ?_
          refine th_n ?_
          go_roundw  -- e1 of L1
          case rel =>
            refine ⟨?_, GL1⟩
            exact ⟨k + 1, rfl, by omega, all_take_succ (by omega) hs hb3⟩
          case measure =>
            exact dec_nat (by omega)
      · -- c2F
        first | with_reducible (replace hb2 := nb_nt hb2) | with_reducible (replace hb2 := nb_nf hb2) | with_reducible (replace hb2 := nb_tt hb2) | with_reducible (replace hb2 := nb_tf hb2) | with_reducible (replace hb2 := nb_bt hb2) | with_reducible (replace hb2 := nb_bf hb2) | skip
        refine wp_exit ?_
        refine th_x ?_
        refine th_x ?_
        refine ib_e ?_
        refine th_n ?_
        refine hK5 _ _ ?_
        clear hK8 K8 hK5 K5
        refine wp_seq_k fun K13 hK13 => ?_
        refine wp_region_lit ?_  -- region 9 l8_programs.go:90
        refine S_beg 18 rfl ?_
        refine S_val (Y_assign rfl) ?_
        refine S_nil (L' := (_ :: _ :: _ :: _ :: _ :: _ :: _ :: _ :: _ :: _ :: _ :: _ :: _ :: _ :: _ :: _ :: _ :: _ :: [])) rfl rfl ?_
        refine th_n ?_
        refine hK13 _ _ ?_
        clear hK13 K13
        refine wp_ret ?_
        refine ret_r1 rfl rfl ?_  -- r3
        rw [← csB_ok (all_of_take (by omega) hs)]
        exact ⟨bT (by omega), G⟩

end Go.Proofs.Ytfcblicpfbfojaa
