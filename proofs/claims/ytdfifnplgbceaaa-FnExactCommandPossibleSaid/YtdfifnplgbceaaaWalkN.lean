/-
  Walks: instructions.
  Conditions: those that each theorem states.
-/
import Derived.Test.YtdfifnplgbceaaaTy
import Derived.Test.YtdfifnplgbceaaaWalkC
import Derived.Test.YtdfifnplgbceaaaCmd
namespace Go.Proofs.Ytdfifnplgbceaaa
open Go Go.RowKit
attribute [local irreducible] wpList wpAnyH Code.wp dOp

set_option maxHeartbeats 400000 in
set_option maxRecDepth 20000 in
theorem impl_operations_c (w : World) :
    Calls Try.prog 67 #[] w (Ret fun v w' => v = .agg (opsL 94 95 97 98 99 100 101 102 103).toArray ∧ Grow w w') := by
  refine enter Try.func67 rfl Try.ntmps67 (L := (_ :: _ :: _ :: _ :: _ :: _ :: _ :: _ :: [])) rfl ?_
  have G := Mod.refl No w
  refine wp_seq_k fun K1 hK1 => ?_
  refine wp_region_lit ?_  -- region 0 l8_programs.go:44
  refine S_beg 8 rfl ?_
  refine S_alloc (cs := [_, _, _, _, _, _, _, _, _, _, _, _, _, _, _, _, _, _, _, _, _, _, _, _, _, _, _, _]) zr76 rfl ?_
  intro b1 w1 fb1 g1 B1
  have lb1 := B1.lt
  replace G := G.grow g1
  have zg1 := g1.size
  refine S_nil (L' := (_ :: _ :: _ :: _ :: _ :: _ :: _ :: _ :: [])) rfl rfl ?_
  refine th_n ?_
  refine hK1 _ _ ?_
  clear hK1 K1
  refine wp_seq_k fun K2 hK2 => ?_
  refine wp_region_lit ?_  -- region 1 l8_programs.go:45
  refine S_beg 8 rfl ?_
  refine S_val (Y_build (cs := [_, _, _, _]) zr75 pc75 rfl rfl) ?_
  refine S_val (Y_build (cs := [_, _, _, _]) zr75 pc75 rfl rfl) ?_
  refine S_val (Y_build (cs := [_, _, _, _]) zr75 pc75 rfl rfl) ?_
  refine S_val (Y_build (cs := [_, _, _, _]) zr75 pc75 rfl rfl) ?_
  refine S_val (Y_build (cs := [_, _, _, _]) zr75 pc75 rfl rfl) ?_
  refine S_val (Y_build (cs := [_, _, _, _]) zr75 pc75 rfl rfl) ?_
  refine S_val (Y_build (cs := [_, _, _, _, _, _, _, _, _, _, _, _, _, _, _, _, _, _, _, _, _, _, _, _, _, _, _, _]) zr76 pc76 rfl rfl) ?_
  refine S_stM (pre := []) (old := [_, _, _, _, _, _, _, _, _, _, _, _, _, _, _, _, _, _, _, _, _, _, _, _, _, _, _, _]) (post := []) (vs := [_, _, _, _, _, _, _, _, _, _, _, _, _, _, _, _, _, _, _, _, _, _, _, _, _, _, _, _]) sz76 rfl rfl rfl (by first | rfl | assumption) B1 rfl rfl ?_
  intro w2 m2 X2
  replace B1 := Blk.eq (ys := [_, _, _, _, _, _, _, _, _, _, _, _, _, _, _, _, _, _, _, _, _, _, _, _, _, _, _, _]) X2 rfl
  clear X2
  replace G := G.above m2 (by intro i h; first | omega | (dsimp only at h; omega))
  have zm2 := m2.size
  refine S_nil (L' := (_ :: _ :: _ :: _ :: _ :: _ :: _ :: _ :: [])) rfl rfl ?_
  refine th_n ?_
  refine hK2 _ _ ?_
  clear hK2 K2
  refine wp_ret ?_
  refine ret_rc (cs := [_, _, _, _, _, _, _, _, _, _, _, _, _, _, _, _, _, _, _, _, _, _, _, _, _, _, _, _]) Try.underlying76 rfl sz76 rfl rfl (B1.row (by rfl)) ?_  -- r1
  exact ⟨rfl, G⟩

set_option maxHeartbeats 400000 in
set_option maxRecDepth 20000 in
theorem impl_CommandValid_c (op a b c : Int) (w : World) :
    Calls Try.prog 66 #[.agg #[.int .i64 op, .int .i64 a, .int .i64 b, .int .i64 c]] w (Ret fun v w' => v = .bool (cvB ⟨op, a, b, c⟩) ∧ Grow w w') := by
  refine enter Try.func66 rfl Try.ntmps66 (L := (_ :: _ :: _ :: _ :: _ :: _ :: _ :: _ :: _ :: _ :: _ :: _ :: _ :: _ :: _ :: _ :: _ :: _ :: _ :: _ :: _ :: _ :: _ :: _ :: _ :: _ :: _ :: _ :: _ :: _ :: _ :: _ :: _ :: _ :: _ :: _ :: _ :: _ :: _ :: _ :: _ :: _ :: _ :: _ :: _ :: _ :: _ :: _ :: [])) rfl ?_
  have G := Mod.refl No w
  refine wp_seq_k fun K1 hK1 => ?_
  refine wp_region_lit ?_  -- region 0 l8_programs.go:72
  refine S_beg 48 rfl ?_
  refine S_box (cs := [_, _, _, _]) rfl rfl ?_
  intro b1 w1 fb1 g1 B1
  have lb1 := B1.lt
  replace G := G.grow g1
  have zg1 := g1.size
  refine S_val (Y_assign rfl) ?_
  refine S_nil (L' := (_ :: _ :: _ :: _ :: _ :: _ :: _ :: _ :: _ :: _ :: _ :: _ :: _ :: _ :: _ :: _ :: _ :: _ :: _ :: _ :: _ :: _ :: _ :: _ :: _ :: _ :: _ :: _ :: _ :: _ :: _ :: _ :: _ :: _ :: _ :: _ :: _ :: _ :: _ :: _ :: _ :: _ :: _ :: _ :: _ :: _ :: _ :: _ :: [])) rfl rfl ?_
  refine th_n ?_
  refine hK1 _ _ ?_
  clear hK1 K1
  refine wp_seq_k fun K2 hK2 => ?_
  refine wp_seq_k fun K3 hK3 => ?_
  refine wp_region_lit ?_  -- region 1 l8_programs.go:73
  refine S_beg 48 rfl ?_
  refine S_val (Y_field Try.underlying40 rfl fz40_0 (by decide) rfl) ?_
  refine S_val (Y_load Try.underlying3 rfl rfl (by first | assumption | exact B1.at (by rfl))) ?_
  refine S_val (Y_lss rfl rfl) ?_
  refine S_val (Y_move rfl) ?_
  refine S_g 7 rfl (fun hb1 => ?_) (fun hb1 => ?_)  -- g1
  · -- g1T
    first | with_reducible (replace hb1 := nb_nt hb1) | with_reducible (replace hb1 := nb_nf hb1) | with_reducible (replace hb1 := nb_tt hb1) | with_reducible (replace hb1 := nb_tf hb1) | with_reducible (replace hb1 := nb_bt hb1) | with_reducible (replace hb1 := nb_bf hb1) | skip
    refine S_off rfl rfl ?_
    refine S_off rfl rfl ?_
    refine S_off rfl rfl ?_
    refine S_val (Y_pickT rfl rfl) ?_
    refine S_nil (L' := (_ :: _ :: _ :: _ :: _ :: _ :: _ :: _ :: _ :: _ :: _ :: _ :: _ :: _ :: _ :: _ :: _ :: _ :: _ :: _ :: _ :: _ :: _ :: _ :: _ :: _ :: _ :: _ :: _ :: _ :: _ :: _ :: _ :: _ :: _ :: _ :: _ :: _ :: _ :: _ :: _ :: _ :: _ :: _ :: _ :: _ :: _ :: _ :: [])) rfl rfl ?_
    refine th_n ?_
    refine hK3 _ _ ?_
    clear hK3 K3
    refine S_ifT rfl ?_
    refine wp_seq_k fun K4 hK4 => ?_
    refine wp_region_lit ?_  -- region 2 l8_programs.go:74
    refine S_beg 48 rfl ?_
    refine S_val (Y_assign rfl) ?_
    refine S_nil (L' := (_ :: _ :: _ :: _ :: _ :: _ :: _ :: _ :: _ :: _ :: _ :: _ :: _ :: _ :: _ :: _ :: _ :: _ :: _ :: _ :: _ :: _ :: _ :: _ :: _ :: _ :: _ :: _ :: _ :: _ :: _ :: _ :: _ :: _ :: _ :: _ :: _ :: _ :: _ :: _ :: _ :: _ :: _ :: _ :: _ :: _ :: _ :: _ :: [])) rfl rfl ?_
    refine th_n ?_
    refine hK4 _ _ ?_
    clear hK4 K4
    refine wp_ret ?_
    refine th_r ?_
    clear hK2 K2
    refine ret_r1 rfl rfl ?_  -- r1
    exact ⟨by first | exact cvB_f (by unfold cvP; dsimp only; omega) | exact cvB_d (by unfold cvP; dsimp only; omega) | exact cvB_t (by unfold cvP; dsimp only; omega), G⟩
  · -- g1F
    first | with_reducible (replace hb1 := nb_nt hb1) | with_reducible (replace hb1 := nb_nf hb1) | with_reducible (replace hb1 := nb_tt hb1) | with_reducible (replace hb1 := nb_tf hb1) | with_reducible (replace hb1 := nb_bt hb1) | with_reducible (replace hb1 := nb_bf hb1) | skip
    refine S_on rfl rfl ?_
    refine S_val (Y_field Try.underlying40 rfl fz40_0 (by decide) rfl) ?_
    refine S_on rfl rfl ?_
    refine S_val (Y_load Try.underlying3 rfl rfl (by first | assumption | exact B1.at (by rfl))) ?_
    refine S_on rfl rfl ?_
    refine S_val (Y_gtr rfl rfl) ?_
    refine S_val (Y_pickF rfl rfl) ?_
    refine S_nil (L' := (_ :: _ :: _ :: _ :: _ :: _ :: _ :: _ :: _ :: _ :: _ :: _ :: _ :: _ :: _ :: _ :: _ :: _ :: _ :: _ :: _ :: _ :: _ :: _ :: _ :: _ :: _ :: _ :: _ :: _ :: _ :: _ :: _ :: _ :: _ :: _ :: _ :: _ :: _ :: _ :: _ :: _ :: _ :: _ :: _ :: _ :: _ :: _ :: [])) rfl rfl ?_
    refine th_n ?_
    refine hK3 _ _ ?_
    clear hK3 K3
    refine S_if rfl (fun hb2 => ?_) (fun hb2 => ?_)  -- c1
    · -- c1T
      first | with_reducible (replace hb2 := nb_nt hb2) | with_reducible (replace hb2 := nb_nf hb2) | with_reducible (replace hb2 := nb_tt hb2) | with_reducible (replace hb2 := nb_tf hb2) | with_reducible (replace hb2 := nb_bt hb2) | with_reducible (replace hb2 := nb_bf hb2) | skip
      refine wp_seq_k fun K5 hK5 => ?_
      refine wp_region_lit ?_  -- region 2 l8_programs.go:74
      refine S_beg 48 rfl ?_
      refine S_val (Y_assign rfl) ?_
      refine S_nil (L' := (_ :: _ :: _ :: _ :: _ :: _ :: _ :: _ :: _ :: _ :: _ :: _ :: _ :: _ :: _ :: _ :: _ :: _ :: _ :: _ :: _ :: _ :: _ :: _ :: _ :: _ :: _ :: _ :: _ :: _ :: _ :: _ :: _ :: _ :: _ :: _ :: _ :: _ :: _ :: _ :: _ :: _ :: _ :: _ :: _ :: _ :: _ :: _ :: [])) rfl rfl ?_
      refine th_n ?_
      refine hK5 _ _ ?_
      clear hK5 K5
      refine wp_ret ?_
      refine th_r ?_
      clear hK2 K2
      refine ret_r1 rfl rfl ?_  -- r2
      exact ⟨by first | exact cvB_f (by unfold cvP; dsimp only; omega) | exact cvB_d (by unfold cvP; dsimp only; omega) | exact cvB_t (by unfold cvP; dsimp only; omega), G⟩
    · -- c1F
      first | with_reducible (replace hb2 := nb_nt hb2) | with_reducible (replace hb2 := nb_nf hb2) | with_reducible (replace hb2 := nb_tt hb2) | with_reducible (replace hb2 := nb_tf hb2) | with_reducible (replace hb2 := nb_bt hb2) | with_reducible (replace hb2 := nb_bf hb2) | skip
      obtain ⟨k, rfl⟩ := Int.eq_ofNat_of_zero_le (show 0 ≤ op by omega)
      obtain ⟨bb, cc, ff, gg, hops, hone, hcase⟩ := ops_at 94 95 97 98 99 100 101 102 103 k (by omega) (by omega)
      refine wp_skip ?_
      refine th_n ?_
      refine hK2 _ _ ?_
      clear hK2 K2
      refine wp_seq_k fun K6 hK6 => ?_
      refine D_start 6 48 (fun w => Mod (No) w) follows rfl rfl ?_  -- d1 region 3 l8_programs.go:76
      intro w2 g2
      replace G := G.grow g2
      replace B1 := B1.grow g2
      have zg2 := g2.size
      have GS2 := Mod.refl (No) w2
      refine D_q (i := 1) rfl (by kernel_rfl) (fun _ _ _ h => h) GS2 (fun _ _ => Y_field Try.underlying40 rfl fz40_0 (by decide) rfl) ?_
      refine D_q (i := 2) rfl (by kernel_rfl) (fun _ _ _ h => h) GS2 (fun _ hs => Y_load Try.underlying3 rfl rfl (by first | exact hs.cell0 (by assumption) | exact hs.cell0 (B1.at (by rfl)))) ?_
      refine D_2 (i := 0) (j := 4) (by kernel_rfl) ?_ ?_
      · -- operation 0 comes up
        refine E_call rfl rfl en67 (impl_operations_c _) ?_  -- k1 impl.operations
        rintro v3 w3 ⟨rfl, g3⟩
        replace G := G.grow g3
        replace GS2 := GS2.grow g3
        replace B1 := B1.grow g3
        have zg3 := g3.size
        refine ⟨GS2, ?_⟩
        refine D_q (i := 3) rfl (by kernel_rfl) (fun _ _ _ h => h) GS2 (fun _ _ => Y_elem Try.underlying76 Try.underlying75 rfl sz75 rfl rfl (by omega) hops) ?_
        refine D_1 (i := 4) (by kernel_rfl) ?_
        refine E_alloc (cs := [_, _, _, _]) rfl zr75 rfl (fun b4 w4 fb4 g4 B4 => ⟨GS2.grow g4, ?_⟩)
        have lb4 := B4.lt
        replace G := G.grow g4
        replace GS2 := GS2.grow g4
        replace B1 := B1.grow g4
        have zg4 := g4.size
        refine D_1 (i := 5) (by kernel_rfl) ?_
        refine E_stM (pre := []) (old := [_, _, _, _]) (post := []) (vs := [_, _, _, _]) (i := 5) rfl sz75 rfl rfl rfl (by first | rfl | assumption) B4 rfl rfl ?_
        intro w5 m5 X5
        replace B4 := Blk.eq (ys := [_, _, _, _]) X5 rfl
        clear X5
        replace G := G.above m5 (by intro i h; first | omega | (dsimp only at h; omega))
        replace GS2 := GS2.above m5 (by intro i h; first | omega | (dsimp only at h; omega))
        replace B1 := B1.mod m5 (by intro h; first | omega | (dsimp only at h; omega))
        have zm5 := m5.size
        refine ⟨GS2, ?_⟩
        refine D_end (L' := (_ :: _ :: _ :: _ :: _ :: _ :: _ :: _ :: _ :: _ :: _ :: _ :: _ :: _ :: _ :: _ :: _ :: _ :: _ :: _ :: _ :: _ :: _ :: _ :: _ :: _ :: _ :: _ :: _ :: _ :: _ :: _ :: _ :: _ :: _ :: _ :: _ :: _ :: _ :: _ :: _ :: _ :: _ :: _ :: _ :: _ :: _ :: _ :: [])) (by kernel_rfl) rfl rfl ?_
        refine th_n ?_
        refine hK6 _ _ ?_
        clear hK6 K6
        refine wp_seq_k fun K7 hK7 => ?_
        refine wp_region_lit ?_  -- region 4 l8_programs.go:77
        refine S_beg 48 rfl ?_
        refine S_val (Y_field Try.underlying40 rfl fz40_1 (by decide) rfl) ?_
        refine S_val (Y_load Try.underlying3 rfl rfl (by first | assumption | exact B1.at (by rfl) | exact B4.at (by rfl))) ?_
        refine S_val (Y_geq rfl rfl) ?_
        refine S_val (Y_move rfl) ?_
        refine S_g 19 rfl (fun hb3 => ?_) (fun hb3 => ?_)  -- g2
        · -- g2T
          first | with_reducible (replace hb3 := nb_nt hb3) | with_reducible (replace hb3 := nb_nf hb3) | with_reducible (replace hb3 := nb_tt hb3) | with_reducible (replace hb3 := nb_tf hb3) | with_reducible (replace hb3 := nb_bt hb3) | with_reducible (replace hb3 := nb_bf hb3) | skip
          refine S_on rfl rfl ?_
          refine S_val (Y_field Try.underlying40 rfl fz40_1 (by decide) rfl) ?_
          refine S_on rfl rfl ?_
          refine S_val (Y_load Try.underlying3 rfl rfl (by first | assumption | exact B1.at (by rfl) | exact B4.at (by rfl))) ?_
          refine S_on rfl rfl ?_
          refine S_val (Y_lss rfl rfl) ?_
          refine S_val (Y_pickT rfl rfl) ?_
          refine S_val (Y_move rfl) ?_
          refine S_g 24 rfl (fun hb4 => ?_) (fun hb4 => ?_)  -- g3
          · -- g3T
            first | with_reducible (replace hb4 := nb_nt hb4) | with_reducible (replace hb4 := nb_nf hb4) | with_reducible (replace hb4 := nb_tt hb4) | with_reducible (replace hb4 := nb_tf hb4) | with_reducible (replace hb4 := nb_bt hb4) | with_reducible (replace hb4 := nb_bf hb4) | skip
            refine S_on rfl rfl ?_
            refine S_val (Y_field Try.underlying40 rfl fz40_2 (by decide) rfl) ?_
            refine S_on rfl rfl ?_
            refine S_val (Y_load Try.underlying3 rfl rfl (by first | assumption | exact B1.at (by rfl) | exact B4.at (by rfl))) ?_
            refine S_on rfl rfl ?_
            refine S_val (Y_geq rfl rfl) ?_
            refine S_val (Y_pickT rfl rfl) ?_
            refine S_val (Y_move rfl) ?_
            refine S_g 29 rfl (fun hb5 => ?_) (fun hb5 => ?_)  -- g4
            · -- g4T
              first | with_reducible (replace hb5 := nb_nt hb5) | with_reducible (replace hb5 := nb_nf hb5) | with_reducible (replace hb5 := nb_tt hb5) | with_reducible (replace hb5 := nb_tf hb5) | with_reducible (replace hb5 := nb_bt hb5) | with_reducible (replace hb5 := nb_bf hb5) | skip
              refine S_on rfl rfl ?_
              refine S_val (Y_field Try.underlying40 rfl fz40_2 (by decide) rfl) ?_
              refine S_on rfl rfl ?_
              refine S_val (Y_load Try.underlying3 rfl rfl (by first | assumption | exact B1.at (by rfl) | exact B4.at (by rfl))) ?_
              refine S_on rfl rfl ?_
              refine S_val (Y_field Try.underlying75 rfl fz75_0 (by decide) rfl) ?_
              refine S_on rfl rfl ?_
              refine S_val (Y_load Try.underlying3 rfl rfl (by first | assumption | exact B1.at (by rfl) | exact B4.at (by rfl))) ?_
              refine S_on rfl rfl ?_
              refine S_val (Y_leq rfl rfl) ?_
              refine S_val (Y_pickT rfl rfl) ?_
              refine S_val (Y_move rfl) ?_
              refine S_g 36 rfl (fun hb6 => ?_) (fun hb6 => ?_)  -- g5
              · -- g5T
                first | with_reducible (replace hb6 := nb_nt hb6) | with_reducible (replace hb6 := nb_nf hb6) | with_reducible (replace hb6 := nb_tt hb6) | with_reducible (replace hb6 := nb_tf hb6) | with_reducible (replace hb6 := nb_bt hb6) | with_reducible (replace hb6 := nb_bf hb6) | skip
                refine S_on rfl rfl ?_
                refine S_val (Y_field Try.underlying40 rfl fz40_3 (by decide) rfl) ?_
                refine S_on rfl rfl ?_
                refine S_val (Y_load Try.underlying3 rfl rfl (by first | assumption | exact B1.at (by rfl) | exact B4.at (by rfl))) ?_
                refine S_on rfl rfl ?_
                refine S_val (Y_geq rfl rfl) ?_
                refine S_val (Y_pickT rfl rfl) ?_
                refine S_val (Y_move rfl) ?_
                refine S_g 41 rfl (fun hb7 => ?_) (fun hb7 => ?_)  -- g6
                · -- g6T
                  first | with_reducible (replace hb7 := nb_nt hb7) | with_reducible (replace hb7 := nb_nf hb7) | with_reducible (replace hb7 := nb_tt hb7) | with_reducible (replace hb7 := nb_tf hb7) | with_reducible (replace hb7 := nb_bt hb7) | with_reducible (replace hb7 := nb_bf hb7) | skip
                  refine S_on rfl rfl ?_
                  refine S_val (Y_field Try.underlying40 rfl fz40_3 (by decide) rfl) ?_
                  refine S_on rfl rfl ?_
                  refine S_val (Y_load Try.underlying3 rfl rfl (by first | assumption | exact B1.at (by rfl) | exact B4.at (by rfl))) ?_
                  refine S_on rfl rfl ?_
                  refine S_val (Y_field Try.underlying75 rfl fz75_1 (by decide) rfl) ?_
                  refine S_on rfl rfl ?_
                  refine S_val (Y_load Try.underlying3 rfl rfl (by first | assumption | exact B1.at (by rfl) | exact B4.at (by rfl))) ?_
                  refine S_on rfl rfl ?_
                  refine S_val (Y_leq rfl rfl) ?_
                  refine S_val (Y_pickT rfl rfl) ?_
                  refine S_val (Y_assign rfl) ?_
                  refine S_nil (L' := (_ :: _ :: _ :: _ :: _ :: _ :: _ :: _ :: _ :: _ :: _ :: _ :: _ :: _ :: _ :: _ :: _ :: _ :: _ :: _ :: _ :: _ :: _ :: _ :: _ :: _ :: _ :: _ :: _ :: _ :: _ :: _ :: _ :: _ :: _ :: _ :: _ :: _ :: _ :: _ :: _ :: _ :: _ :: _ :: _ :: _ :: _ :: _ :: [])) rfl rfl ?_
                  refine th_n ?_
                  refine hK7 _ _ ?_
                  clear hK7 K7
                  refine wp_ret ?_
                  refine ret_r1 rfl rfl ?_  -- r3
                  exact ⟨by first | exact cvB_f (by unfold cvP; dsimp only; omega) | exact cvB_d (by unfold cvP; dsimp only; omega) | exact cvB_t (by unfold cvP; dsimp only; omega), G⟩
                · -- g6F
                  first | with_reducible (replace hb7 := nb_nt hb7) | with_reducible (replace hb7 := nb_nf hb7) | with_reducible (replace hb7 := nb_tt hb7) | with_reducible (replace hb7 := nb_tf hb7) | with_reducible (replace hb7 := nb_bt hb7) | with_reducible (replace hb7 := nb_bf hb7) | skip
                  refine S_off rfl rfl ?_
                  refine S_off rfl rfl ?_
                  refine S_off rfl rfl ?_
                  refine S_off rfl rfl ?_
                  refine S_off rfl rfl ?_
                  refine S_val (Y_pickF rfl rfl) ?_
                  refine S_val (Y_assign rfl) ?_
                  refine S_nil (L' := (_ :: _ :: _ :: _ :: _ :: _ :: _ :: _ :: _ :: _ :: _ :: _ :: _ :: _ :: _ :: _ :: _ :: _ :: _ :: _ :: _ :: _ :: _ :: _ :: _ :: _ :: _ :: _ :: _ :: _ :: _ :: _ :: _ :: _ :: _ :: _ :: _ :: _ :: _ :: _ :: _ :: _ :: _ :: _ :: _ :: _ :: _ :: _ :: [])) rfl rfl ?_
                  refine th_n ?_
                  refine hK7 _ _ ?_
                  clear hK7 K7
                  refine wp_ret ?_
                  refine ret_r1 rfl rfl ?_  -- r4
                  exact ⟨by first | exact cvB_f (by unfold cvP; dsimp only; omega) | exact cvB_d (by unfold cvP; dsimp only; omega) | exact cvB_t (by unfold cvP; dsimp only; omega), G⟩
              · -- g5F
                first | with_reducible (replace hb6 := nb_nt hb6) | with_reducible (replace hb6 := nb_nf hb6) | with_reducible (replace hb6 := nb_tt hb6) | with_reducible (replace hb6 := nb_tf hb6) | with_reducible (replace hb6 := nb_bt hb6) | with_reducible (replace hb6 := nb_bf hb6) | skip
                refine S_off rfl rfl ?_
                refine S_off rfl rfl ?_
                refine S_off rfl rfl ?_
                refine S_val (Y_pickF rfl rfl) ?_
                refine S_val (Y_move rfl) ?_
                refine S_off rfl rfl ?_
                refine S_off rfl rfl ?_
                refine S_off rfl rfl ?_
                refine S_off rfl rfl ?_
                refine S_off rfl rfl ?_
                refine S_val (Y_pickF rfl rfl) ?_
                refine S_val (Y_assign rfl) ?_
                refine S_nil (L' := (_ :: _ :: _ :: _ :: _ :: _ :: _ :: _ :: _ :: _ :: _ :: _ :: _ :: _ :: _ :: _ :: _ :: _ :: _ :: _ :: _ :: _ :: _ :: _ :: _ :: _ :: _ :: _ :: _ :: _ :: _ :: _ :: _ :: _ :: _ :: _ :: _ :: _ :: _ :: _ :: _ :: _ :: _ :: _ :: _ :: _ :: _ :: _ :: [])) rfl rfl ?_
                refine th_n ?_
                refine hK7 _ _ ?_
                clear hK7 K7
                refine wp_ret ?_
                refine ret_r1 rfl rfl ?_  -- r5
                exact ⟨by first | exact cvB_f (by unfold cvP; dsimp only; omega) | exact cvB_d (by unfold cvP; dsimp only; omega) | exact cvB_t (by unfold cvP; dsimp only; omega), G⟩
            · -- g4F
              first | with_reducible (replace hb5 := nb_nt hb5) | with_reducible (replace hb5 := nb_nf hb5) | with_reducible (replace hb5 := nb_tt hb5) | with_reducible (replace hb5 := nb_tf hb5) | with_reducible (replace hb5 := nb_bt hb5) | with_reducible (replace hb5 := nb_bf hb5) | skip
              refine S_off rfl rfl ?_
              refine S_off rfl rfl ?_
              refine S_off rfl rfl ?_
              refine S_off rfl rfl ?_
              refine S_off rfl rfl ?_
              refine S_val (Y_pickF rfl rfl) ?_
              refine S_val (Y_move rfl) ?_
              refine S_off rfl rfl ?_
              refine S_off rfl rfl ?_
              refine S_off rfl rfl ?_
              refine S_val (Y_pickF rfl rfl) ?_
              refine S_val (Y_move rfl) ?_
              refine S_off rfl rfl ?_
              refine S_off rfl rfl ?_
              refine S_off rfl rfl ?_
              refine S_off rfl rfl ?_
              refine S_off rfl rfl ?_
              refine S_val (Y_pickF rfl rfl) ?_
              refine S_val (Y_assign rfl) ?_
              refine S_nil (L' := (_ :: _ :: _ :: _ :: _ :: _ :: _ :: _ :: _ :: _ :: _ :: _ :: _ :: _ :: _ :: _ :: _ :: _ :: _ :: _ :: _ :: _ :: _ :: _ :: _ :: _ :: _ :: _ :: _ :: _ :: _ :: _ :: _ :: _ :: _ :: _ :: _ :: _ :: _ :: _ :: _ :: _ :: _ :: _ :: _ :: _ :: _ :: _ :: [])) rfl rfl ?_
              refine th_n ?_
              refine hK7 _ _ ?_
              clear hK7 K7
              refine wp_ret ?_
              refine ret_r1 rfl rfl ?_  -- r6
              exact ⟨by first | exact cvB_f (by unfold cvP; dsimp only; omega) | exact cvB_d (by unfold cvP; dsimp only; omega) | exact cvB_t (by unfold cvP; dsimp only; omega), G⟩
          · -- g3F
            first | with_reducible (replace hb4 := nb_nt hb4) | with_reducible (replace hb4 := nb_nf hb4) | with_reducible (replace hb4 := nb_tt hb4) | with_reducible (replace hb4 := nb_tf hb4) | with_reducible (replace hb4 := nb_bt hb4) | with_reducible (replace hb4 := nb_bf hb4) | skip
            refine S_off rfl rfl ?_
            refine S_off rfl rfl ?_
            refine S_off rfl rfl ?_
            refine S_val (Y_pickF rfl rfl) ?_
            refine S_val (Y_move rfl) ?_
            refine S_off rfl rfl ?_
            refine S_off rfl rfl ?_
            refine S_off rfl rfl ?_
            refine S_off rfl rfl ?_
            refine S_off rfl rfl ?_
            refine S_val (Y_pickF rfl rfl) ?_
            refine S_val (Y_move rfl) ?_
            refine S_off rfl rfl ?_
            refine S_off rfl rfl ?_
            refine S_off rfl rfl ?_
            refine S_val (Y_pickF rfl rfl) ?_
            refine S_val (Y_move rfl) ?_
            refine S_off rfl rfl ?_
            refine S_off rfl rfl ?_
            refine S_off rfl rfl ?_
            refine S_off rfl rfl ?_
            refine S_off rfl rfl ?_
            refine S_val (Y_pickF rfl rfl) ?_
            refine S_val (Y_assign rfl) ?_
            refine S_nil (L' := (_ :: _ :: _ :: _ :: _ :: _ :: _ :: _ :: _ :: _ :: _ :: _ :: _ :: _ :: _ :: _ :: _ :: _ :: _ :: _ :: _ :: _ :: _ :: _ :: _ :: _ :: _ :: _ :: _ :: _ :: _ :: _ :: _ :: _ :: _ :: _ :: _ :: _ :: _ :: _ :: _ :: _ :: _ :: _ :: _ :: _ :: _ :: _ :: [])) rfl rfl ?_
            refine th_n ?_
            refine hK7 _ _ ?_
            clear hK7 K7
            refine wp_ret ?_
            refine ret_r1 rfl rfl ?_  -- r7
            exact ⟨by first | exact cvB_f (by unfold cvP; dsimp only; omega) | exact cvB_d (by unfold cvP; dsimp only; omega) | exact cvB_t (by unfold cvP; dsimp only; omega), G⟩
        · -- g2F
          first | with_reducible (replace hb3 := nb_nt hb3) | with_reducible (replace hb3 := nb_nf hb3) | with_reducible (replace hb3 := nb_tt hb3) | with_reducible (replace hb3 := nb_tf hb3) | with_reducible (replace hb3 := nb_bt hb3) | with_reducible (replace hb3 := nb_bf hb3) | skip
          refine S_off rfl rfl ?_
          refine S_off rfl rfl ?_
          refine S_off rfl rfl ?_
          refine S_val (Y_pickF rfl rfl) ?_
          refine S_val (Y_move rfl) ?_
          refine S_off rfl rfl ?_
          refine S_off rfl rfl ?_
          refine S_off rfl rfl ?_
          refine S_val (Y_pickF rfl rfl) ?_
          refine S_val (Y_move rfl) ?_
          refine S_off rfl rfl ?_
          refine S_off rfl rfl ?_
          refine S_off rfl rfl ?_
          refine S_off rfl rfl ?_
          refine S_off rfl rfl ?_
          refine S_val (Y_pickF rfl rfl) ?_
          refine S_val (Y_move rfl) ?_
          refine S_off rfl rfl ?_
          refine S_off rfl rfl ?_
          refine S_off rfl rfl ?_
          refine S_val (Y_pickF rfl rfl) ?_
          refine S_val (Y_move rfl) ?_
          refine S_off rfl rfl ?_
          refine S_off rfl rfl ?_
          refine S_off rfl rfl ?_
          refine S_off rfl rfl ?_
          refine S_off rfl rfl ?_
          refine S_val (Y_pickF rfl rfl) ?_
          refine S_val (Y_assign rfl) ?_
          refine S_nil (L' := (_ :: _ :: _ :: _ :: _ :: _ :: _ :: _ :: _ :: _ :: _ :: _ :: _ :: _ :: _ :: _ :: _ :: _ :: _ :: _ :: _ :: _ :: _ :: _ :: _ :: _ :: _ :: _ :: _ :: _ :: _ :: _ :: _ :: _ :: _ :: _ :: _ :: _ :: _ :: _ :: _ :: _ :: _ :: _ :: _ :: _ :: _ :: _ :: [])) rfl rfl ?_
          refine th_n ?_
          refine hK7 _ _ ?_
          clear hK7 K7
          refine wp_ret ?_
          refine ret_r1 rfl rfl ?_  -- r8
          exact ⟨by first | exact cvB_f (by unfold cvP; dsimp only; omega) | exact cvB_d (by unfold cvP; dsimp only; omega) | exact cvB_t (by unfold cvP; dsimp only; omega), G⟩
      · -- operation 4 comes up
        refine E_alloc (cs := [_, _, _, _]) rfl zr75 rfl (fun b6 w6 fb6 g6 B6 => ⟨GS2.grow g6, ?_⟩)
        have lb6 := B6.lt
        replace G := G.grow g6
        replace GS2 := GS2.grow g6
        replace B1 := B1.grow g6
        have zg6 := g6.size
        refine D_1 (i := 0) (by kernel_rfl) ?_
        refine E_call rfl rfl en67 (impl_operations_c _) ?_  -- k2 impl.operations
        rintro v7 w7 ⟨rfl, g7⟩
        replace G := G.grow g7
        replace GS2 := GS2.grow g7
        replace B1 := B1.grow g7
        replace B6 := B6.grow g7
        have zg7 := g7.size
        refine ⟨GS2, ?_⟩
        refine D_q (i := 3) rfl (by kernel_rfl) (fun _ _ _ h => h) GS2 (fun _ _ => Y_elem Try.underlying76 Try.underlying75 rfl sz75 rfl rfl (by omega) hops) ?_
        refine D_1 (i := 5) (by kernel_rfl) ?_
        refine E_stM (pre := []) (old := [_, _, _, _]) (post := []) (vs := [_, _, _, _]) (i := 5) rfl sz75 rfl rfl rfl (by first | rfl | assumption) B6 rfl rfl ?_
        intro w8 m8 X8
        replace B6 := Blk.eq (ys := [_, _, _, _]) X8 rfl
        clear X8
        replace G := G.above m8 (by intro i h; first | omega | (dsimp only at h; omega))
        replace GS2 := GS2.above m8 (by intro i h; first | omega | (dsimp only at h; omega))
        replace B1 := B1.mod m8 (by intro h; first | omega | (dsimp only at h; omega))
        have zm8 := m8.size
        refine ⟨GS2, ?_⟩
        refine D_end (L' := (_ :: _ :: _ :: _ :: _ :: _ :: _ :: _ :: _ :: _ :: _ :: _ :: _ :: _ :: _ :: _ :: _ :: _ :: _ :: _ :: _ :: _ :: _ :: _ :: _ :: _ :: _ :: _ :: _ :: _ :: _ :: _ :: _ :: _ :: _ :: _ :: _ :: _ :: _ :: _ :: _ :: _ :: _ :: _ :: _ :: _ :: _ :: _ :: [])) (by kernel_rfl) rfl rfl ?_
        refine th_n ?_
        refine hK6 _ _ ?_
        clear hK6 K6
        refine wp_seq_k fun K8 hK8 => ?_
        refine wp_region_lit ?_  -- region 4 l8_programs.go:77
        refine S_beg 48 rfl ?_
        refine S_val (Y_field Try.underlying40 rfl fz40_1 (by decide) rfl) ?_
        refine S_val (Y_load Try.underlying3 rfl rfl (by first | assumption | exact B1.at (by rfl) | exact B6.at (by rfl))) ?_
        refine S_val (Y_geq rfl rfl) ?_
        refine S_val (Y_move rfl) ?_
        refine S_g 19 rfl (fun hb3 => ?_) (fun hb3 => ?_)  -- g7
        · -- g7T
          first | with_reducible (replace hb3 := nb_nt hb3) | with_reducible (replace hb3 := nb_nf hb3) | with_reducible (replace hb3 := nb_tt hb3) | with_reducible (replace hb3 := nb_tf hb3) | with_reducible (replace hb3 := nb_bt hb3) | with_reducible (replace hb3 := nb_bf hb3) | skip
          refine S_on rfl rfl ?_
          refine S_val (Y_field Try.underlying40 rfl fz40_1 (by decide) rfl) ?_
          refine S_on rfl rfl ?_
          refine S_val (Y_load Try.underlying3 rfl rfl (by first | assumption | exact B1.at (by rfl) | exact B6.at (by rfl))) ?_
          refine S_on rfl rfl ?_
          refine S_val (Y_lss rfl rfl) ?_
          refine S_val (Y_pickT rfl rfl) ?_
          refine S_val (Y_move rfl) ?_
          refine S_g 24 rfl (fun hb4 => ?_) (fun hb4 => ?_)  -- g8
          · -- g8T
            first | with_reducible (replace hb4 := nb_nt hb4) | with_reducible (replace hb4 := nb_nf hb4) | with_reducible (replace hb4 := nb_tt hb4) | with_reducible (replace hb4 := nb_tf hb4) | with_reducible (replace hb4 := nb_bt hb4) | with_reducible (replace hb4 := nb_bf hb4) | skip
            refine S_on rfl rfl ?_
            refine S_val (Y_field Try.underlying40 rfl fz40_2 (by decide) rfl) ?_
            refine S_on rfl rfl ?_
            refine S_val (Y_load Try.underlying3 rfl rfl (by first | assumption | exact B1.at (by rfl) | exact B6.at (by rfl))) ?_
            refine S_on rfl rfl ?_
            refine S_val (Y_geq rfl rfl) ?_
            refine S_val (Y_pickT rfl rfl) ?_
            refine S_val (Y_move rfl) ?_
            refine S_g 29 rfl (fun hb5 => ?_) (fun hb5 => ?_)  -- g9
            · -- g9T
              first | with_reducible (replace hb5 := nb_nt hb5) | with_reducible (replace hb5 := nb_nf hb5) | with_reducible (replace hb5 := nb_tt hb5) | with_reducible (replace hb5 := nb_tf hb5) | with_reducible (replace hb5 := nb_bt hb5) | with_reducible (replace hb5 := nb_bf hb5) | skip
              refine S_on rfl rfl ?_
              refine S_val (Y_field Try.underlying40 rfl fz40_2 (by decide) rfl) ?_
              refine S_on rfl rfl ?_
              refine S_val (Y_load Try.underlying3 rfl rfl (by first | assumption | exact B1.at (by rfl) | exact B6.at (by rfl))) ?_
              refine S_on rfl rfl ?_
              refine S_val (Y_field Try.underlying75 rfl fz75_0 (by decide) rfl) ?_
              refine S_on rfl rfl ?_
              refine S_val (Y_load Try.underlying3 rfl rfl (by first | assumption | exact B1.at (by rfl) | exact B6.at (by rfl))) ?_
              refine S_on rfl rfl ?_
              refine S_val (Y_leq rfl rfl) ?_
              refine S_val (Y_pickT rfl rfl) ?_
              refine S_val (Y_move rfl) ?_
              refine S_g 36 rfl (fun hb6 => ?_) (fun hb6 => ?_)  -- g10
              · -- g10T
                first | with_reducible (replace hb6 := nb_nt hb6) | with_reducible (replace hb6 := nb_nf hb6) | with_reducible (replace hb6 := nb_tt hb6) | with_reducible (replace hb6 := nb_tf hb6) | with_reducible (replace hb6 := nb_bt hb6) | with_reducible (replace hb6 := nb_bf hb6) | skip
                refine S_on rfl rfl ?_
                refine S_val (Y_field Try.underlying40 rfl fz40_3 (by decide) rfl) ?_
                refine S_on rfl rfl ?_
                refine S_val (Y_load Try.underlying3 rfl rfl (by first | assumption | exact B1.at (by rfl) | exact B6.at (by rfl))) ?_
                refine S_on rfl rfl ?_
                refine S_val (Y_geq rfl rfl) ?_
                refine S_val (Y_pickT rfl rfl) ?_
                refine S_val (Y_move rfl) ?_
                refine S_g 41 rfl (fun hb7 => ?_) (fun hb7 => ?_)  -- g11
                · -- g11T
                  first | with_reducible (replace hb7 := nb_nt hb7) | with_reducible (replace hb7 := nb_nf hb7) | with_reducible (replace hb7 := nb_tt hb7) | with_reducible (replace hb7 := nb_tf hb7) | with_reducible (replace hb7 := nb_bt hb7) | with_reducible (replace hb7 := nb_bf hb7) | skip
                  refine S_on rfl rfl ?_
                  refine S_val (Y_field Try.underlying40 rfl fz40_3 (by decide) rfl) ?_
                  refine S_on rfl rfl ?_
                  refine S_val (Y_load Try.underlying3 rfl rfl (by first | assumption | exact B1.at (by rfl) | exact B6.at (by rfl))) ?_
                  refine S_on rfl rfl ?_
                  refine S_val (Y_field Try.underlying75 rfl fz75_1 (by decide) rfl) ?_
                  refine S_on rfl rfl ?_
                  refine S_val (Y_load Try.underlying3 rfl rfl (by first | assumption | exact B1.at (by rfl) | exact B6.at (by rfl))) ?_
                  refine S_on rfl rfl ?_
                  refine S_val (Y_leq rfl rfl) ?_
                  refine S_val (Y_pickT rfl rfl) ?_
                  refine S_val (Y_assign rfl) ?_
                  refine S_nil (L' := (_ :: _ :: _ :: _ :: _ :: _ :: _ :: _ :: _ :: _ :: _ :: _ :: _ :: _ :: _ :: _ :: _ :: _ :: _ :: _ :: _ :: _ :: _ :: _ :: _ :: _ :: _ :: _ :: _ :: _ :: _ :: _ :: _ :: _ :: _ :: _ :: _ :: _ :: _ :: _ :: _ :: _ :: _ :: _ :: _ :: _ :: _ :: _ :: [])) rfl rfl ?_
                  refine th_n ?_
                  refine hK8 _ _ ?_
                  clear hK8 K8
                  refine wp_ret ?_
                  refine ret_r1 rfl rfl ?_  -- r9
                  exact ⟨by first | exact cvB_f (by unfold cvP; dsimp only; omega) | exact cvB_d (by unfold cvP; dsimp only; omega) | exact cvB_t (by unfold cvP; dsimp only; omega), G⟩
                · -- g11F
                  first | with_reducible (replace hb7 := nb_nt hb7) | with_reducible (replace hb7 := nb_nf hb7) | with_reducible (replace hb7 := nb_tt hb7) | with_reducible (replace hb7 := nb_tf hb7) | with_reducible (replace hb7 := nb_bt hb7) | with_reducible (replace hb7 := nb_bf hb7) | skip
                  refine S_off rfl rfl ?_
                  refine S_off rfl rfl ?_
                  refine S_off rfl rfl ?_
                  refine S_off rfl rfl ?_
                  refine S_off rfl rfl ?_
                  refine S_val (Y_pickF rfl rfl) ?_
                  refine S_val (Y_assign rfl) ?_
                  refine S_nil (L' := (_ :: _ :: _ :: _ :: _ :: _ :: _ :: _ :: _ :: _ :: _ :: _ :: _ :: _ :: _ :: _ :: _ :: _ :: _ :: _ :: _ :: _ :: _ :: _ :: _ :: _ :: _ :: _ :: _ :: _ :: _ :: _ :: _ :: _ :: _ :: _ :: _ :: _ :: _ :: _ :: _ :: _ :: _ :: _ :: _ :: _ :: _ :: _ :: [])) rfl rfl ?_
                  refine th_n ?_
                  refine hK8 _ _ ?_
                  clear hK8 K8
                  refine wp_ret ?_
                  refine ret_r1 rfl rfl ?_  -- r10
                  exact ⟨by first | exact cvB_f (by unfold cvP; dsimp only; omega) | exact cvB_d (by unfold cvP; dsimp only; omega) | exact cvB_t (by unfold cvP; dsimp only; omega), G⟩
              · -- g10F
                first | with_reducible (replace hb6 := nb_nt hb6) | with_reducible (replace hb6 := nb_nf hb6) | with_reducible (replace hb6 := nb_tt hb6) | with_reducible (replace hb6 := nb_tf hb6) | with_reducible (replace hb6 := nb_bt hb6) | with_reducible (replace hb6 := nb_bf hb6) | skip
                refine S_off rfl rfl ?_
                refine S_off rfl rfl ?_
                refine S_off rfl rfl ?_
                refine S_val (Y_pickF rfl rfl) ?_
                refine S_val (Y_move rfl) ?_
                refine S_off rfl rfl ?_
                refine S_off rfl rfl ?_
                refine S_off rfl rfl ?_
                refine S_off rfl rfl ?_
                refine S_off rfl rfl ?_
                refine S_val (Y_pickF rfl rfl) ?_
                refine S_val (Y_assign rfl) ?_
                refine S_nil (L' := (_ :: _ :: _ :: _ :: _ :: _ :: _ :: _ :: _ :: _ :: _ :: _ :: _ :: _ :: _ :: _ :: _ :: _ :: _ :: _ :: _ :: _ :: _ :: _ :: _ :: _ :: _ :: _ :: _ :: _ :: _ :: _ :: _ :: _ :: _ :: _ :: _ :: _ :: _ :: _ :: _ :: _ :: _ :: _ :: _ :: _ :: _ :: _ :: [])) rfl rfl ?_
                refine th_n ?_
                refine hK8 _ _ ?_
                clear hK8 K8
                refine wp_ret ?_
                refine ret_r1 rfl rfl ?_  -- r11
                exact ⟨by first | exact cvB_f (by unfold cvP; dsimp only; omega) | exact cvB_d (by unfold cvP; dsimp only; omega) | exact cvB_t (by unfold cvP; dsimp only; omega), G⟩
            · -- g9F
              first | with_reducible (replace hb5 := nb_nt hb5) | with_reducible (replace hb5 := nb_nf hb5) | with_reducible (replace hb5 := nb_tt hb5) | with_reducible (replace hb5 := nb_tf hb5) | with_reducible (replace hb5 := nb_bt hb5) | with_reducible (replace hb5 := nb_bf hb5) | skip
              refine S_off rfl rfl ?_
              refine S_off rfl rfl ?_
              refine S_off rfl rfl ?_
              refine S_off rfl rfl ?_
              refine S_off rfl rfl ?_
              refine S_val (Y_pickF rfl rfl) ?_
              refine S_val (Y_move rfl) ?_
              refine S_off rfl rfl ?_
              refine S_off rfl rfl ?_
              refine S_off rfl rfl ?_
              refine S_val (Y_pickF rfl rfl) ?_
              refine S_val (Y_move rfl) ?_
              refine S_off rfl rfl ?_
              refine S_off rfl rfl ?_
              refine S_off rfl rfl ?_
              refine S_off rfl rfl ?_
              refine S_off rfl rfl ?_
              refine S_val (Y_pickF rfl rfl) ?_
              refine S_val (Y_assign rfl) ?_
              refine S_nil (L' := (_ :: _ :: _ :: _ :: _ :: _ :: _ :: _ :: _ :: _ :: _ :: _ :: _ :: _ :: _ :: _ :: _ :: _ :: _ :: _ :: _ :: _ :: _ :: _ :: _ :: _ :: _ :: _ :: _ :: _ :: _ :: _ :: _ :: _ :: _ :: _ :: _ :: _ :: _ :: _ :: _ :: _ :: _ :: _ :: _ :: _ :: _ :: _ :: [])) rfl rfl ?_
              refine th_n ?_
              refine hK8 _ _ ?_
              clear hK8 K8
              refine wp_ret ?_
              refine ret_r1 rfl rfl ?_  -- r12
              exact ⟨by first | exact cvB_f (by unfold cvP; dsimp only; omega) | exact cvB_d (by unfold cvP; dsimp only; omega) | exact cvB_t (by unfold cvP; dsimp only; omega), G⟩
          · -- g8F
            first | with_reducible (replace hb4 := nb_nt hb4) | with_reducible (replace hb4 := nb_nf hb4) | with_reducible (replace hb4 := nb_tt hb4) | with_reducible (replace hb4 := nb_tf hb4) | with_reducible (replace hb4 := nb_bt hb4) | with_reducible (replace hb4 := nb_bf hb4) | skip
            refine S_off rfl rfl ?_
            refine S_off rfl rfl ?_
            refine S_off rfl rfl ?_
            refine S_val (Y_pickF rfl rfl) ?_
            refine S_val (Y_move rfl) ?_
            refine S_off rfl rfl ?_
            refine S_off rfl rfl ?_
            refine S_off rfl rfl ?_
            refine S_off rfl rfl ?_
            refine S_off rfl rfl ?_
            refine S_val (Y_pickF rfl rfl) ?_
            refine S_val (Y_move rfl) ?_
            refine S_off rfl rfl ?_
            refine S_off rfl rfl ?_
            refine S_off rfl rfl ?_
            refine S_val (Y_pickF rfl rfl) ?_
            refine S_val (Y_move rfl) ?_
            refine S_off rfl rfl ?_
            refine S_off rfl rfl ?_
            refine S_off rfl rfl ?_
            refine S_off rfl rfl ?_
            refine S_off rfl rfl ?_
            refine S_val (Y_pickF rfl rfl) ?_
            refine S_val (Y_assign rfl) ?_
            refine S_nil (L' := (_ :: _ :: _ :: _ :: _ :: _ :: _ :: _ :: _ :: _ :: _ :: _ :: _ :: _ :: _ :: _ :: _ :: _ :: _ :: _ :: _ :: _ :: _ :: _ :: _ :: _ :: _ :: _ :: _ :: _ :: _ :: _ :: _ :: _ :: _ :: _ :: _ :: _ :: _ :: _ :: _ :: _ :: _ :: _ :: _ :: _ :: _ :: _ :: [])) rfl rfl ?_
            refine th_n ?_
            refine hK8 _ _ ?_
            clear hK8 K8
            refine wp_ret ?_
            refine ret_r1 rfl rfl ?_  -- r13
            exact ⟨by first | exact cvB_f (by unfold cvP; dsimp only; omega) | exact cvB_d (by unfold cvP; dsimp only; omega) | exact cvB_t (by unfold cvP; dsimp only; omega), G⟩
        · -- g7F
          first | with_reducible (replace hb3 := nb_nt hb3) | with_reducible (replace hb3 := nb_nf hb3) | with_reducible (replace hb3 := nb_tt hb3) | with_reducible (replace hb3 := nb_tf hb3) | with_reducible (replace hb3 := nb_bt hb3) | with_reducible (replace hb3 := nb_bf hb3) | skip
          refine S_off rfl rfl ?_
          refine S_off rfl rfl ?_
          refine S_off rfl rfl ?_
          refine S_val (Y_pickF rfl rfl) ?_
          refine S_val (Y_move rfl) ?_
          refine S_off rfl rfl ?_
          refine S_off rfl rfl ?_
          refine S_off rfl rfl ?_
          refine S_val (Y_pickF rfl rfl) ?_
          refine S_val (Y_move rfl) ?_
          refine S_off rfl rfl ?_
          refine S_off rfl rfl ?_
          refine S_off rfl rfl ?_
          refine S_off rfl rfl ?_
          refine S_off rfl rfl ?_
          refine S_val (Y_pickF rfl rfl) ?_
          refine S_val (Y_move rfl) ?_
          refine S_off rfl rfl ?_
          refine S_off rfl rfl ?_
          refine S_off rfl rfl ?_
          refine S_val (Y_pickF rfl rfl) ?_
          refine S_val (Y_move rfl) ?_
          refine S_off rfl rfl ?_
          refine S_off rfl rfl ?_
          refine S_off rfl rfl ?_
          refine S_off rfl rfl ?_
          refine S_off rfl rfl ?_
          refine S_val (Y_pickF rfl rfl) ?_
          refine S_val (Y_assign rfl) ?_
          refine S_nil (L' := (_ :: _ :: _ :: _ :: _ :: _ :: _ :: _ :: _ :: _ :: _ :: _ :: _ :: _ :: _ :: _ :: _ :: _ :: _ :: _ :: _ :: _ :: _ :: _ :: _ :: _ :: _ :: _ :: _ :: _ :: _ :: _ :: _ :: _ :: _ :: _ :: _ :: _ :: _ :: _ :: _ :: _ :: _ :: _ :: _ :: _ :: _ :: _ :: [])) rfl rfl ?_
          refine th_n ?_
          refine hK8 _ _ ?_
          clear hK8 K8
          refine wp_ret ?_
          refine ret_r1 rfl rfl ?_  -- r14
          exact ⟨by first | exact cvB_f (by unfold cvP; dsimp only; omega) | exact cvB_d (by unfold cvP; dsimp only; omega) | exact cvB_t (by unfold cvP; dsimp only; omega), G⟩

set_option maxHeartbeats 400000 in
set_option maxRecDepth 20000 in
theorem spec_CommandValid_c (op a b c : Int) (w : World) :
    Calls Try.prog 64 #[.agg #[.int .i64 op, .int .i64 a, .int .i64 b, .int .i64 c]] w (Ret fun v w' => v = .bool (cvB ⟨op, a, b, c⟩) ∧ Grow w w') := by
  refine enter Try.func64 rfl Try.ntmps64 (L := (_ :: _ :: _ :: _ :: _ :: _ :: _ :: _ :: _ :: _ :: _ :: _ :: _ :: _ :: _ :: _ :: _ :: _ :: _ :: _ :: _ :: _ :: _ :: _ :: _ :: _ :: _ :: _ :: _ :: _ :: _ :: _ :: _ :: _ :: _ :: _ :: _ :: _ :: _ :: _ :: _ :: _ :: _ :: _ :: _ :: _ :: _ :: _ :: _ :: _ :: _ :: _ :: _ :: _ :: _ :: _ :: _ :: _ :: _ :: _ :: _ :: _ :: _ :: _ :: _ :: _ :: _ :: _ :: _ :: _ :: _ :: _ :: _ :: _ :: _ :: [])) rfl ?_
  have G := Mod.refl No w
  refine wp_seq_k fun K1 hK1 => ?_
  refine wp_region_lit ?_  -- region 0 l8_programs.go:6
  refine S_beg 75 rfl ?_
  refine S_box (cs := [_, _, _, _]) rfl rfl ?_
  intro b1 w1 fb1 g1 B1
  have lb1 := B1.lt
  replace G := G.grow g1
  have zg1 := g1.size
  refine S_val (Y_assign rfl) ?_
  refine S_nil (L' := (_ :: _ :: _ :: _ :: _ :: _ :: _ :: _ :: _ :: _ :: _ :: _ :: _ :: _ :: _ :: _ :: _ :: _ :: _ :: _ :: _ :: _ :: _ :: _ :: _ :: _ :: _ :: _ :: _ :: _ :: _ :: _ :: _ :: _ :: _ :: _ :: _ :: _ :: _ :: _ :: _ :: _ :: _ :: _ :: _ :: _ :: _ :: _ :: _ :: _ :: _ :: _ :: _ :: _ :: _ :: _ :: _ :: _ :: _ :: _ :: _ :: _ :: _ :: _ :: _ :: _ :: _ :: _ :: _ :: _ :: _ :: _ :: _ :: _ :: _ :: [])) rfl rfl ?_
  refine th_n ?_
  refine hK1 _ _ ?_
  clear hK1 K1
  refine wp_seq_k fun K2 hK2 => ?_
  refine wp_region_lit ?_  -- region 1 l8_programs.go:7
  refine S_beg 75 rfl ?_
  refine S_val (Y_field Try.underlying40 rfl fz40_1 (by decide) rfl) ?_
  refine S_val (Y_load Try.underlying3 rfl rfl (by first | assumption | exact B1.at (by rfl))) ?_
  refine S_call rfl en81 (spec_l1In_c _ _ _ _) ?_  -- k1 spec.l1In
  rintro v w' ⟨rfl, rfl⟩
  refine S_val (Y_assign rfl) ?_
  refine S_nil (L' := (_ :: _ :: _ :: _ :: _ :: _ :: _ :: _ :: _ :: _ :: _ :: _ :: _ :: _ :: _ :: _ :: _ :: _ :: _ :: _ :: _ :: _ :: _ :: _ :: _ :: _ :: _ :: _ :: _ :: _ :: _ :: _ :: _ :: _ :: _ :: _ :: _ :: _ :: _ :: _ :: _ :: _ :: _ :: _ :: _ :: _ :: _ :: _ :: _ :: _ :: _ :: _ :: _ :: _ :: _ :: _ :: _ :: _ :: _ :: _ :: _ :: _ :: _ :: _ :: _ :: _ :: _ :: _ :: _ :: _ :: _ :: _ :: _ :: _ :: _ :: [])) rfl rfl ?_
  refine th_n ?_
  refine hK2 _ _ ?_
  clear hK2 K2
  refine wp_seq_k fun K3 hK3 => ?_
  refine wp_region_lit ?_  -- region 2 l8_programs.go:8
  refine S_beg 75 rfl ?_
  refine S_val (Y_field Try.underlying40 rfl fz40_2 (by decide) rfl) ?_
  refine S_val (Y_load Try.underlying3 rfl rfl (by first | assumption | exact B1.at (by rfl))) ?_
  refine S_call rfl en81 (spec_l1In_c _ _ _ _) ?_  -- k2 spec.l1In
  rintro v w' ⟨rfl, rfl⟩
  refine S_val (Y_assign rfl) ?_
  refine S_nil (L' := (_ :: _ :: _ :: _ :: _ :: _ :: _ :: _ :: _ :: _ :: _ :: _ :: _ :: _ :: _ :: _ :: _ :: _ :: _ :: _ :: _ :: _ :: _ :: _ :: _ :: _ :: _ :: _ :: _ :: _ :: _ :: _ :: _ :: _ :: _ :: _ :: _ :: _ :: _ :: _ :: _ :: _ :: _ :: _ :: _ :: _ :: _ :: _ :: _ :: _ :: _ :: _ :: _ :: _ :: _ :: _ :: _ :: _ :: _ :: _ :: _ :: _ :: _ :: _ :: _ :: _ :: _ :: _ :: _ :: _ :: _ :: _ :: _ :: _ :: _ :: [])) rfl rfl ?_
  refine th_n ?_
  refine hK3 _ _ ?_
  clear hK3 K3
  refine wp_seq_k fun K4 hK4 => ?_
  refine wp_seq_k fun K5 hK5 => ?_
  refine wp_region_lit ?_  -- region 3 l8_programs.go:9
  refine S_beg 75 rfl ?_
  refine S_val (Y_field Try.underlying40 rfl fz40_0 (by decide) rfl) ?_
  refine S_val (Y_load Try.underlying3 rfl rfl (by first | assumption | exact B1.at (by rfl))) ?_
  refine S_nil (L' := (_ :: _ :: _ :: _ :: _ :: _ :: _ :: _ :: _ :: _ :: _ :: _ :: _ :: _ :: _ :: _ :: _ :: _ :: _ :: _ :: _ :: _ :: _ :: _ :: _ :: _ :: _ :: _ :: _ :: _ :: _ :: _ :: _ :: _ :: _ :: _ :: _ :: _ :: _ :: _ :: _ :: _ :: _ :: _ :: _ :: _ :: _ :: _ :: _ :: _ :: _ :: _ :: _ :: _ :: _ :: _ :: _ :: _ :: _ :: _ :: _ :: _ :: _ :: _ :: _ :: _ :: _ :: _ :: _ :: _ :: _ :: _ :: _ :: _ :: _ :: [])) rfl rfl ?_
  refine th_n ?_
  refine hK5 _ _ ?_
  clear hK5 K5
  refine wp_block ?_
  refine wp_seq_k fun K6 hK6 => ?_
  refine wp_region_lit ?_  -- region 4 l8_programs.go:10
  refine S_beg 75 rfl ?_
  refine S_val (Y_eql rfl rfl) ?_
  refine S_val (Y_assign rfl) ?_
  refine S_nil (L' := (_ :: _ :: _ :: _ :: _ :: _ :: _ :: _ :: _ :: _ :: _ :: _ :: _ :: _ :: _ :: _ :: _ :: _ :: _ :: _ :: _ :: _ :: _ :: _ :: _ :: _ :: _ :: _ :: _ :: _ :: _ :: _ :: _ :: _ :: _ :: _ :: _ :: _ :: _ :: _ :: _ :: _ :: _ :: _ :: _ :: _ :: _ :: _ :: _ :: _ :: _ :: _ :: _ :: _ :: _ :: _ :: _ :: _ :: _ :: _ :: _ :: _ :: _ :: _ :: _ :: _ :: _ :: _ :: _ :: _ :: _ :: _ :: _ :: _ :: _ :: [])) rfl rfl ?_
  refine th_n ?_
  refine hK6 _ _ ?_
  clear hK6 K6
  refine S_if rfl (fun hb1 => ?_) (fun hb1 => ?_)  -- c1
  · -- c1T
    first | with_reducible (replace hb1 := nb_nt hb1) | with_reducible (replace hb1 := nb_nf hb1) | with_reducible (replace hb1 := nb_tt hb1) | with_reducible (replace hb1 := nb_tf hb1) | with_reducible (replace hb1 := nb_bt hb1) | with_reducible (replace hb1 := nb_bf hb1) | skip
    refine wp_seq_k fun K7 hK7 => ?_
    refine wp_region_lit ?_  -- region 5 l8_programs.go:11
    refine S_beg 75 rfl ?_
    refine S_val (Y_move rfl) ?_
    refine S_val (Y_move rfl) ?_
    refine S_g 16 rfl (fun hb2 => ?_) (fun hb2 => ?_)  -- g1
    · -- g1T
      first | with_reducible (replace hb2 := nb_nt hb2) | with_reducible (replace hb2 := nb_nf hb2) | with_reducible (replace hb2 := nb_tt hb2) | with_reducible (replace hb2 := nb_tf hb2) | with_reducible (replace hb2 := nb_bt hb2) | with_reducible (replace hb2 := nb_bf hb2) | skip
      refine S_on rfl rfl ?_
      refine S_val (Y_field Try.underlying40 rfl fz40_2 (by decide) rfl) ?_
      refine S_on rfl rfl ?_
      refine S_val (Y_load Try.underlying3 rfl rfl (by first | assumption | exact B1.at (by rfl))) ?_
      refine S_on rfl rfl ?_
      refine S_call rfl en81 (spec_l1In_c _ _ _ _) ?_  -- k3 spec.l1In
      rintro v w' ⟨rfl, rfl⟩
      refine S_val (Y_pickT rfl rfl) ?_
      refine S_val (Y_move rfl) ?_
      refine S_g 21 rfl (fun hb3 => ?_) (fun hb3 => ?_)  -- g2
      · -- g2T
        first | with_reducible (replace hb3 := nb_nt hb3) | with_reducible (replace hb3 := nb_nf hb3) | with_reducible (replace hb3 := nb_tt hb3) | with_reducible (replace hb3 := nb_tf hb3) | with_reducible (replace hb3 := nb_bt hb3) | with_reducible (replace hb3 := nb_bf hb3) | skip
        refine S_on rfl rfl ?_
        refine S_val (Y_field Try.underlying40 rfl fz40_3 (by decide) rfl) ?_
        refine S_on rfl rfl ?_
        refine S_val (Y_load Try.underlying3 rfl rfl (by first | assumption | exact B1.at (by rfl))) ?_
        refine S_on rfl rfl ?_
        refine S_call rfl en81 (spec_l1In_c _ _ _ _) ?_  -- k4 spec.l1In
        rintro v w' ⟨rfl, rfl⟩
        refine S_val (Y_pickT rfl rfl) ?_
        refine S_val (Y_assign rfl) ?_
        refine S_nil (L' := (_ :: _ :: _ :: _ :: _ :: _ :: _ :: _ :: _ :: _ :: _ :: _ :: _ :: _ :: _ :: _ :: _ :: _ :: _ :: _ :: _ :: _ :: _ :: _ :: _ :: _ :: _ :: _ :: _ :: _ :: _ :: _ :: _ :: _ :: _ :: _ :: _ :: _ :: _ :: _ :: _ :: _ :: _ :: _ :: _ :: _ :: _ :: _ :: _ :: _ :: _ :: _ :: _ :: _ :: _ :: _ :: _ :: _ :: _ :: _ :: _ :: _ :: _ :: _ :: _ :: _ :: _ :: _ :: _ :: _ :: _ :: _ :: _ :: _ :: _ :: [])) rfl rfl ?_
        refine th_n ?_
        refine hK7 _ _ ?_
        clear hK7 K7
        refine wp_ret ?_
        refine ib_r ?_
        refine th_r ?_
        clear hK4 K4
        refine ret_r1 rfl rfl ?_  -- r1
        exact ⟨by first | exact cvB_f (by unfold cvP; dsimp only; omega) | exact cvB_d (by unfold cvP; dsimp only; omega) | exact cvB_t (by unfold cvP; dsimp only; omega), G⟩
      · -- g2F
        first | with_reducible (replace hb3 := nb_nt hb3) | with_reducible (replace hb3 := nb_nf hb3) | with_reducible (replace hb3 := nb_tt hb3) | with_reducible (replace hb3 := nb_tf hb3) | with_reducible (replace hb3 := nb_bt hb3) | with_reducible (replace hb3 := nb_bf hb3) | skip
        refine S_off rfl rfl ?_
        refine S_off rfl rfl ?_
        refine S_off rfl rfl ?_
        refine S_val (Y_pickF rfl rfl) ?_
        refine S_val (Y_assign rfl) ?_
        refine S_nil (L' := (_ :: _ :: _ :: _ :: _ :: _ :: _ :: _ :: _ :: _ :: _ :: _ :: _ :: _ :: _ :: _ :: _ :: _ :: _ :: _ :: _ :: _ :: _ :: _ :: _ :: _ :: _ :: _ :: _ :: _ :: _ :: _ :: _ :: _ :: _ :: _ :: _ :: _ :: _ :: _ :: _ :: _ :: _ :: _ :: _ :: _ :: _ :: _ :: _ :: _ :: _ :: _ :: _ :: _ :: _ :: _ :: _ :: _ :: _ :: _ :: _ :: _ :: _ :: _ :: _ :: _ :: _ :: _ :: _ :: _ :: _ :: _ :: _ :: _ :: _ :: [])) rfl rfl ?_
        refine th_n ?_
        refine hK7 _ _ ?_
        clear hK7 K7
        refine wp_ret ?_
        refine ib_r ?_
        refine th_r ?_
        clear hK4 K4
        refine ret_r1 rfl rfl ?_  -- r2
        exact ⟨by first | exact cvB_f (by unfold cvP; dsimp only; omega) | exact cvB_d (by unfold cvP; dsimp only; omega) | exact cvB_t (by unfold cvP; dsimp only; omega), G⟩
    · -- g1F
      first | with_reducible (replace hb2 := nb_nt hb2) | with_reducible (replace hb2 := nb_nf hb2) | with_reducible (replace hb2 := nb_tt hb2) | with_reducible (replace hb2 := nb_tf hb2) | with_reducible (replace hb2 := nb_bt hb2) | with_reducible (replace hb2 := nb_bf hb2) | skip
      refine S_off rfl rfl ?_
      refine S_off rfl rfl ?_
      refine S_off rfl rfl ?_
      refine S_val (Y_pickF rfl rfl) ?_
      refine S_val (Y_move rfl) ?_
      refine S_off rfl rfl ?_
      refine S_off rfl rfl ?_
      refine S_off rfl rfl ?_
      refine S_val (Y_pickF rfl rfl) ?_
      refine S_val (Y_assign rfl) ?_
      refine S_nil (L' := (_ :: _ :: _ :: _ :: _ :: _ :: _ :: _ :: _ :: _ :: _ :: _ :: _ :: _ :: _ :: _ :: _ :: _ :: _ :: _ :: _ :: _ :: _ :: _ :: _ :: _ :: _ :: _ :: _ :: _ :: _ :: _ :: _ :: _ :: _ :: _ :: _ :: _ :: _ :: _ :: _ :: _ :: _ :: _ :: _ :: _ :: _ :: _ :: _ :: _ :: _ :: _ :: _ :: _ :: _ :: _ :: _ :: _ :: _ :: _ :: _ :: _ :: _ :: _ :: _ :: _ :: _ :: _ :: _ :: _ :: _ :: _ :: _ :: _ :: _ :: [])) rfl rfl ?_
      refine th_n ?_
      refine hK7 _ _ ?_
      clear hK7 K7
      refine wp_ret ?_
      refine ib_r ?_
      refine th_r ?_
      clear hK4 K4
      refine ret_r1 rfl rfl ?_  -- r3
      exact ⟨by first | exact cvB_f (by unfold cvP; dsimp only; omega) | exact cvB_d (by unfold cvP; dsimp only; omega) | exact cvB_t (by unfold cvP; dsimp only; omega), G⟩
  · -- c1F
    first | with_reducible (replace hb1 := nb_nt hb1) | with_reducible (replace hb1 := nb_nf hb1) | with_reducible (replace hb1 := nb_tt hb1) | with_reducible (replace hb1 := nb_tf hb1) | with_reducible (replace hb1 := nb_bt hb1) | with_reducible (replace hb1 := nb_bf hb1) | skip
    refine wp_seq_k fun K8 hK8 => ?_
    refine wp_seq_k fun K9 hK9 => ?_
    refine wp_region_lit ?_  -- region 6 l8_programs.go:12
    refine S_beg 75 rfl ?_
    refine S_val (Y_eql rfl rfl) ?_
    refine S_val (Y_assign rfl) ?_
    refine S_nil (L' := (_ :: _ :: _ :: _ :: _ :: _ :: _ :: _ :: _ :: _ :: _ :: _ :: _ :: _ :: _ :: _ :: _ :: _ :: _ :: _ :: _ :: _ :: _ :: _ :: _ :: _ :: _ :: _ :: _ :: _ :: _ :: _ :: _ :: _ :: _ :: _ :: _ :: _ :: _ :: _ :: _ :: _ :: _ :: _ :: _ :: _ :: _ :: _ :: _ :: _ :: _ :: _ :: _ :: _ :: _ :: _ :: _ :: _ :: _ :: _ :: _ :: _ :: _ :: _ :: _ :: _ :: _ :: _ :: _ :: _ :: _ :: _ :: _ :: _ :: _ :: [])) rfl rfl ?_
    refine th_n ?_
    refine hK9 _ _ ?_
    clear hK9 K9
    refine S_if rfl (fun hb2 => ?_) (fun hb2 => ?_)  -- c2
    · -- c2T
      first | with_reducible (replace hb2 := nb_nt hb2) | with_reducible (replace hb2 := nb_nf hb2) | with_reducible (replace hb2 := nb_tt hb2) | with_reducible (replace hb2 := nb_tf hb2) | with_reducible (replace hb2 := nb_bt hb2) | with_reducible (replace hb2 := nb_bf hb2) | skip
      refine wp_skip ?_
      refine th_n ?_
      refine hK8 _ _ ?_
      clear hK8 K8
      refine S_if rfl (fun hb3 => ?_) (fun hb3 => ?_)  -- c3
      · -- c3T
        first | with_reducible (replace hb3 := nb_nt hb3) | with_reducible (replace hb3 := nb_nf hb3) | with_reducible (replace hb3 := nb_tt hb3) | with_reducible (replace hb3 := nb_tf hb3) | with_reducible (replace hb3 := nb_bt hb3) | with_reducible (replace hb3 := nb_bf hb3) | skip
        refine wp_seq_k fun K10 hK10 => ?_
        refine wp_region_lit ?_  -- region 8 l8_programs.go:13
        refine S_beg 75 rfl ?_
        refine S_val (Y_move rfl) ?_
        refine S_val (Y_move rfl) ?_
        refine S_g 30 rfl (fun hb4 => ?_) (fun hb4 => ?_)  -- g3
        · -- g3T
          first | with_reducible (replace hb4 := nb_nt hb4) | with_reducible (replace hb4 := nb_nf hb4) | with_reducible (replace hb4 := nb_tt hb4) | with_reducible (replace hb4 := nb_tf hb4) | with_reducible (replace hb4 := nb_bt hb4) | with_reducible (replace hb4 := nb_bf hb4) | skip
          refine S_on rfl rfl ?_
          refine S_val (Y_move rfl) ?_
          refine S_val (Y_pickT rfl rfl) ?_
          refine S_val (Y_move rfl) ?_
          refine S_g 33 rfl (fun hb5 => ?_) (fun hb5 => ?_)  -- g4
          · -- g4T
            first | with_reducible (replace hb5 := nb_nt hb5) | with_reducible (replace hb5 := nb_nf hb5) | with_reducible (replace hb5 := nb_tt hb5) | with_reducible (replace hb5 := nb_tf hb5) | with_reducible (replace hb5 := nb_bt hb5) | with_reducible (replace hb5 := nb_bf hb5) | skip
            refine S_on rfl rfl ?_
            refine S_val (Y_field Try.underlying40 rfl fz40_3 (by decide) rfl) ?_
            refine S_on rfl rfl ?_
            refine S_val (Y_load Try.underlying3 rfl rfl (by first | assumption | exact B1.at (by rfl))) ?_
            refine S_on rfl rfl ?_
            refine S_call rfl en81 (spec_l1In_c _ _ _ _) ?_  -- k5 spec.l1In
            rintro v w' ⟨rfl, rfl⟩
            refine S_val (Y_pickT rfl rfl) ?_
            refine S_val (Y_assign rfl) ?_
            refine S_nil (L' := (_ :: _ :: _ :: _ :: _ :: _ :: _ :: _ :: _ :: _ :: _ :: _ :: _ :: _ :: _ :: _ :: _ :: _ :: _ :: _ :: _ :: _ :: _ :: _ :: _ :: _ :: _ :: _ :: _ :: _ :: _ :: _ :: _ :: _ :: _ :: _ :: _ :: _ :: _ :: _ :: _ :: _ :: _ :: _ :: _ :: _ :: _ :: _ :: _ :: _ :: _ :: _ :: _ :: _ :: _ :: _ :: _ :: _ :: _ :: _ :: _ :: _ :: _ :: _ :: _ :: _ :: _ :: _ :: _ :: _ :: _ :: _ :: _ :: _ :: _ :: [])) rfl rfl ?_
            refine th_n ?_
            refine hK10 _ _ ?_
            clear hK10 K10
            refine wp_ret ?_
            refine ib_r ?_
            refine th_r ?_
            clear hK4 K4
            refine ret_r1 rfl rfl ?_  -- r4
            exact ⟨by first | exact cvB_f (by unfold cvP; dsimp only; omega) | exact cvB_d (by unfold cvP; dsimp only; omega) | exact cvB_t (by unfold cvP; dsimp only; omega), G⟩
          · -- g4F
            first | with_reducible (replace hb5 := nb_nt hb5) | with_reducible (replace hb5 := nb_nf hb5) | with_reducible (replace hb5 := nb_tt hb5) | with_reducible (replace hb5 := nb_tf hb5) | with_reducible (replace hb5 := nb_bt hb5) | with_reducible (replace hb5 := nb_bf hb5) | skip
            refine S_off rfl rfl ?_
            refine S_off rfl rfl ?_
            refine S_off rfl rfl ?_
            refine S_val (Y_pickF rfl rfl) ?_
            refine S_val (Y_assign rfl) ?_
            refine S_nil (L' := (_ :: _ :: _ :: _ :: _ :: _ :: _ :: _ :: _ :: _ :: _ :: _ :: _ :: _ :: _ :: _ :: _ :: _ :: _ :: _ :: _ :: _ :: _ :: _ :: _ :: _ :: _ :: _ :: _ :: _ :: _ :: _ :: _ :: _ :: _ :: _ :: _ :: _ :: _ :: _ :: _ :: _ :: _ :: _ :: _ :: _ :: _ :: _ :: _ :: _ :: _ :: _ :: _ :: _ :: _ :: _ :: _ :: _ :: _ :: _ :: _ :: _ :: _ :: _ :: _ :: _ :: _ :: _ :: _ :: _ :: _ :: _ :: _ :: _ :: _ :: [])) rfl rfl ?_
            refine th_n ?_
            refine hK10 _ _ ?_
            clear hK10 K10
            refine wp_ret ?_
            refine ib_r ?_
            refine th_r ?_
            clear hK4 K4
            refine ret_r1 rfl rfl ?_  -- r5
            exact ⟨by first | exact cvB_f (by unfold cvP; dsimp only; omega) | exact cvB_d (by unfold cvP; dsimp only; omega) | exact cvB_t (by unfold cvP; dsimp only; omega), G⟩
        · -- g3F
          first | with_reducible (replace hb4 := nb_nt hb4) | with_reducible (replace hb4 := nb_nf hb4) | with_reducible (replace hb4 := nb_tt hb4) | with_reducible (replace hb4 := nb_tf hb4) | with_reducible (replace hb4 := nb_bt hb4) | with_reducible (replace hb4 := nb_bf hb4) | skip
          refine S_off rfl rfl ?_
          refine S_val (Y_pickF rfl rfl) ?_
          refine S_val (Y_move rfl) ?_
          refine S_off rfl rfl ?_
          refine S_off rfl rfl ?_
          refine S_off rfl rfl ?_
          refine S_val (Y_pickF rfl rfl) ?_
          refine S_val (Y_assign rfl) ?_
          refine S_nil (L' := (_ :: _ :: _ :: _ :: _ :: _ :: _ :: _ :: _ :: _ :: _ :: _ :: _ :: _ :: _ :: _ :: _ :: _ :: _ :: _ :: _ :: _ :: _ :: _ :: _ :: _ :: _ :: _ :: _ :: _ :: _ :: _ :: _ :: _ :: _ :: _ :: _ :: _ :: _ :: _ :: _ :: _ :: _ :: _ :: _ :: _ :: _ :: _ :: _ :: _ :: _ :: _ :: _ :: _ :: _ :: _ :: _ :: _ :: _ :: _ :: _ :: _ :: _ :: _ :: _ :: _ :: _ :: _ :: _ :: _ :: _ :: _ :: _ :: _ :: _ :: [])) rfl rfl ?_
          refine th_n ?_
          refine hK10 _ _ ?_
          clear hK10 K10
          refine wp_ret ?_
          refine ib_r ?_
          refine th_r ?_
          clear hK4 K4
          refine ret_r1 rfl rfl ?_  -- r6
          exact ⟨by first | exact cvB_f (by unfold cvP; dsimp only; omega) | exact cvB_d (by unfold cvP; dsimp only; omega) | exact cvB_t (by unfold cvP; dsimp only; omega), G⟩
      · -- c3F
        first | with_reducible (replace hb3 := nb_nt hb3) | with_reducible (replace hb3 := nb_nf hb3) | with_reducible (replace hb3 := nb_tt hb3) | with_reducible (replace hb3 := nb_tf hb3) | with_reducible (replace hb3 := nb_bt hb3) | with_reducible (replace hb3 := nb_bf hb3) | skip
        refine wp_seq_k fun K11 hK11 => ?_
        refine wp_region_lit ?_  -- region 9 l8_programs.go:14
        refine S_beg 75 rfl ?_
        refine S_val (Y_eql rfl rfl) ?_
        refine S_val (Y_assign rfl) ?_
        refine S_nil (L' := (_ :: _ :: _ :: _ :: _ :: _ :: _ :: _ :: _ :: _ :: _ :: _ :: _ :: _ :: _ :: _ :: _ :: _ :: _ :: _ :: _ :: _ :: _ :: _ :: _ :: _ :: _ :: _ :: _ :: _ :: _ :: _ :: _ :: _ :: _ :: _ :: _ :: _ :: _ :: _ :: _ :: _ :: _ :: _ :: _ :: _ :: _ :: _ :: _ :: _ :: _ :: _ :: _ :: _ :: _ :: _ :: _ :: _ :: _ :: _ :: _ :: _ :: _ :: _ :: _ :: _ :: _ :: _ :: _ :: _ :: _ :: _ :: _ :: _ :: _ :: [])) rfl rfl ?_
        refine th_n ?_
        refine hK11 _ _ ?_
        clear hK11 K11
        refine S_if rfl (fun hb4 => ?_) (fun hb4 => ?_)  -- c4
        · -- c4T
          first | with_reducible (replace hb4 := nb_nt hb4) | with_reducible (replace hb4 := nb_nf hb4) | with_reducible (replace hb4 := nb_tt hb4) | with_reducible (replace hb4 := nb_tf hb4) | with_reducible (replace hb4 := nb_bt hb4) | with_reducible (replace hb4 := nb_bf hb4) | skip
          refine wp_seq_k fun K12 hK12 => ?_
          refine wp_region_lit ?_  -- region 10 l8_programs.go:15
          refine S_beg 75 rfl ?_
          refine S_val (Y_move rfl) ?_
          refine S_val (Y_move rfl) ?_
          refine S_g 41 rfl (fun hb5 => ?_) (fun hb5 => ?_)  -- g5
          · -- g5T
            first | with_reducible (replace hb5 := nb_nt hb5) | with_reducible (replace hb5 := nb_nf hb5) | with_reducible (replace hb5 := nb_tt hb5) | with_reducible (replace hb5 := nb_tf hb5) | with_reducible (replace hb5 := nb_bt hb5) | with_reducible (replace hb5 := nb_bf hb5) | skip
            refine S_on rfl rfl ?_
            refine S_val (Y_move rfl) ?_
            refine S_val (Y_pickT rfl rfl) ?_
            refine S_val (Y_move rfl) ?_
            refine S_g 44 rfl (fun hb6 => ?_) (fun hb6 => ?_)  -- g6
            · -- g6T
              first | with_reducible (replace hb6 := nb_nt hb6) | with_reducible (replace hb6 := nb_nf hb6) | with_reducible (replace hb6 := nb_tt hb6) | with_reducible (replace hb6 := nb_tf hb6) | with_reducible (replace hb6 := nb_bt hb6) | with_reducible (replace hb6 := nb_bf hb6) | skip
              refine S_on rfl rfl ?_
              refine S_val (Y_field Try.underlying40 rfl fz40_3 (by decide) rfl) ?_
              refine S_on rfl rfl ?_
              refine S_val (Y_load Try.underlying3 rfl rfl (by first | assumption | exact B1.at (by rfl))) ?_
              refine S_on rfl rfl ?_
              refine S_val (Y_eql rfl rfl) ?_
              refine S_val (Y_pickT rfl rfl) ?_
              refine S_val (Y_assign rfl) ?_
              refine S_nil (L' := (_ :: _ :: _ :: _ :: _ :: _ :: _ :: _ :: _ :: _ :: _ :: _ :: _ :: _ :: _ :: _ :: _ :: _ :: _ :: _ :: _ :: _ :: _ :: _ :: _ :: _ :: _ :: _ :: _ :: _ :: _ :: _ :: _ :: _ :: _ :: _ :: _ :: _ :: _ :: _ :: _ :: _ :: _ :: _ :: _ :: _ :: _ :: _ :: _ :: _ :: _ :: _ :: _ :: _ :: _ :: _ :: _ :: _ :: _ :: _ :: _ :: _ :: _ :: _ :: _ :: _ :: _ :: _ :: _ :: _ :: _ :: _ :: _ :: _ :: _ :: [])) rfl rfl ?_
              refine th_n ?_
              refine hK12 _ _ ?_
              clear hK12 K12
              refine wp_ret ?_
              refine ib_r ?_
              refine th_r ?_
              clear hK4 K4
              refine ret_r1 rfl rfl ?_  -- r7
              exact ⟨by first | exact cvB_f (by unfold cvP; dsimp only; omega) | exact cvB_d (by unfold cvP; dsimp only; omega) | exact cvB_t (by unfold cvP; dsimp only; omega), G⟩
            · -- g6F
              first | with_reducible (replace hb6 := nb_nt hb6) | with_reducible (replace hb6 := nb_nf hb6) | with_reducible (replace hb6 := nb_tt hb6) | with_reducible (replace hb6 := nb_tf hb6) | with_reducible (replace hb6 := nb_bt hb6) | with_reducible (replace hb6 := nb_bf hb6) | skip
              refine S_off rfl rfl ?_
              refine S_off rfl rfl ?_
              refine S_off rfl rfl ?_
              refine S_val (Y_pickF rfl rfl) ?_
              refine S_val (Y_assign rfl) ?_
              refine S_nil (L' := (_ :: _ :: _ :: _ :: _ :: _ :: _ :: _ :: _ :: _ :: _ :: _ :: _ :: _ :: _ :: _ :: _ :: _ :: _ :: _ :: _ :: _ :: _ :: _ :: _ :: _ :: _ :: _ :: _ :: _ :: _ :: _ :: _ :: _ :: _ :: _ :: _ :: _ :: _ :: _ :: _ :: _ :: _ :: _ :: _ :: _ :: _ :: _ :: _ :: _ :: _ :: _ :: _ :: _ :: _ :: _ :: _ :: _ :: _ :: _ :: _ :: _ :: _ :: _ :: _ :: _ :: _ :: _ :: _ :: _ :: _ :: _ :: _ :: _ :: _ :: [])) rfl rfl ?_
              refine th_n ?_
              refine hK12 _ _ ?_
              clear hK12 K12
              refine wp_ret ?_
              refine ib_r ?_
              refine th_r ?_
              clear hK4 K4
              refine ret_r1 rfl rfl ?_  -- r8
              exact ⟨by first | exact cvB_f (by unfold cvP; dsimp only; omega) | exact cvB_d (by unfold cvP; dsimp only; omega) | exact cvB_t (by unfold cvP; dsimp only; omega), G⟩
          · -- g5F
            first | with_reducible (replace hb5 := nb_nt hb5) | with_reducible (replace hb5 := nb_nf hb5) | with_reducible (replace hb5 := nb_tt hb5) | with_reducible (replace hb5 := nb_tf hb5) | with_reducible (replace hb5 := nb_bt hb5) | with_reducible (replace hb5 := nb_bf hb5) | skip
            refine S_off rfl rfl ?_
            refine S_val (Y_pickF rfl rfl) ?_
            refine S_val (Y_move rfl) ?_
            refine S_off rfl rfl ?_
            refine S_off rfl rfl ?_
            refine S_off rfl rfl ?_
            refine S_val (Y_pickF rfl rfl) ?_
            refine S_val (Y_assign rfl) ?_
            refine S_nil (L' := (_ :: _ :: _ :: _ :: _ :: _ :: _ :: _ :: _ :: _ :: _ :: _ :: _ :: _ :: _ :: _ :: _ :: _ :: _ :: _ :: _ :: _ :: _ :: _ :: _ :: _ :: _ :: _ :: _ :: _ :: _ :: _ :: _ :: _ :: _ :: _ :: _ :: _ :: _ :: _ :: _ :: _ :: _ :: _ :: _ :: _ :: _ :: _ :: _ :: _ :: _ :: _ :: _ :: _ :: _ :: _ :: _ :: _ :: _ :: _ :: _ :: _ :: _ :: _ :: _ :: _ :: _ :: _ :: _ :: _ :: _ :: _ :: _ :: _ :: _ :: [])) rfl rfl ?_
            refine th_n ?_
            refine hK12 _ _ ?_
            clear hK12 K12
            refine wp_ret ?_
            refine ib_r ?_
            refine th_r ?_
            clear hK4 K4
            refine ret_r1 rfl rfl ?_  -- r9
            exact ⟨by first | exact cvB_f (by unfold cvP; dsimp only; omega) | exact cvB_d (by unfold cvP; dsimp only; omega) | exact cvB_t (by unfold cvP; dsimp only; omega), G⟩
        · -- c4F
          first | with_reducible (replace hb4 := nb_nt hb4) | with_reducible (replace hb4 := nb_nf hb4) | with_reducible (replace hb4 := nb_tt hb4) | with_reducible (replace hb4 := nb_tf hb4) | with_reducible (replace hb4 := nb_bt hb4) | with_reducible (replace hb4 := nb_bf hb4) | skip
          refine wp_seq_k fun K13 hK13 => ?_
          refine wp_region_lit ?_  -- region 11 l8_programs.go:16
          refine S_beg 75 rfl ?_
          refine S_val (Y_eql rfl rfl) ?_
          refine S_val (Y_assign rfl) ?_
          refine S_nil (L' := (_ :: _ :: _ :: _ :: _ :: _ :: _ :: _ :: _ :: _ :: _ :: _ :: _ :: _ :: _ :: _ :: _ :: _ :: _ :: _ :: _ :: _ :: _ :: _ :: _ :: _ :: _ :: _ :: _ :: _ :: _ :: _ :: _ :: _ :: _ :: _ :: _ :: _ :: _ :: _ :: _ :: _ :: _ :: _ :: _ :: _ :: _ :: _ :: _ :: _ :: _ :: _ :: _ :: _ :: _ :: _ :: _ :: _ :: _ :: _ :: _ :: _ :: _ :: _ :: _ :: _ :: _ :: _ :: _ :: _ :: _ :: _ :: _ :: _ :: _ :: [])) rfl rfl ?_
          refine th_n ?_
          refine hK13 _ _ ?_
          clear hK13 K13
          refine S_if rfl (fun hb5 => ?_) (fun hb5 => ?_)  -- c5
          · -- c5T
            first | with_reducible (replace hb5 := nb_nt hb5) | with_reducible (replace hb5 := nb_nf hb5) | with_reducible (replace hb5 := nb_tt hb5) | with_reducible (replace hb5 := nb_tf hb5) | with_reducible (replace hb5 := nb_bt hb5) | with_reducible (replace hb5 := nb_bf hb5) | skip
            refine wp_seq_k fun K14 hK14 => ?_
            refine wp_region_lit ?_  -- region 12 l8_programs.go:17
            refine S_beg 75 rfl ?_
            refine S_val (Y_move rfl) ?_
            refine S_val (Y_move rfl) ?_
            refine S_g 52 rfl (fun hb6 => ?_) (fun hb6 => ?_)  -- g7
            · -- g7T
              first | with_reducible (replace hb6 := nb_nt hb6) | with_reducible (replace hb6 := nb_nf hb6) | with_reducible (replace hb6 := nb_tt hb6) | with_reducible (replace hb6 := nb_tf hb6) | with_reducible (replace hb6 := nb_bt hb6) | with_reducible (replace hb6 := nb_bf hb6) | skip
              refine S_on rfl rfl ?_
              refine S_val (Y_field Try.underlying40 rfl fz40_2 (by decide) rfl) ?_
              refine S_on rfl rfl ?_
              refine S_val (Y_load Try.underlying3 rfl rfl (by first | assumption | exact B1.at (by rfl))) ?_
              refine S_on rfl rfl ?_
              refine S_val (Y_eql rfl rfl) ?_
              refine S_val (Y_pickT rfl rfl) ?_
              refine S_val (Y_move rfl) ?_
              refine S_g 57 rfl (fun hb7 => ?_) (fun hb7 => ?_)  -- g8
              · -- g8T
                first | with_reducible (replace hb7 := nb_nt hb7) | with_reducible (replace hb7 := nb_nf hb7) | with_reducible (replace hb7 := nb_tt hb7) | with_reducible (replace hb7 := nb_tf hb7) | with_reducible (replace hb7 := nb_bt hb7) | with_reducible (replace hb7 := nb_bf hb7) | skip
                refine S_on rfl rfl ?_
                refine S_val (Y_field Try.underlying40 rfl fz40_3 (by decide) rfl) ?_
                refine S_on rfl rfl ?_
                refine S_val (Y_load Try.underlying3 rfl rfl (by first | assumption | exact B1.at (by rfl))) ?_
                refine S_on rfl rfl ?_
                refine S_val (Y_eql rfl rfl) ?_
                refine S_val (Y_pickT rfl rfl) ?_
                refine S_val (Y_assign rfl) ?_
                refine S_nil (L' := (_ :: _ :: _ :: _ :: _ :: _ :: _ :: _ :: _ :: _ :: _ :: _ :: _ :: _ :: _ :: _ :: _ :: _ :: _ :: _ :: _ :: _ :: _ :: _ :: _ :: _ :: _ :: _ :: _ :: _ :: _ :: _ :: _ :: _ :: _ :: _ :: _ :: _ :: _ :: _ :: _ :: _ :: _ :: _ :: _ :: _ :: _ :: _ :: _ :: _ :: _ :: _ :: _ :: _ :: _ :: _ :: _ :: _ :: _ :: _ :: _ :: _ :: _ :: _ :: _ :: _ :: _ :: _ :: _ :: _ :: _ :: _ :: _ :: _ :: _ :: [])) rfl rfl ?_
                refine th_n ?_
                refine hK14 _ _ ?_
                clear hK14 K14
                refine wp_ret ?_
                refine ib_r ?_
                refine th_r ?_
                clear hK4 K4
                refine ret_r1 rfl rfl ?_  -- r10
                exact ⟨by first | exact cvB_f (by unfold cvP; dsimp only; omega) | exact cvB_d (by unfold cvP; dsimp only; omega) | exact cvB_t (by unfold cvP; dsimp only; omega), G⟩
              · -- g8F
                first | with_reducible (replace hb7 := nb_nt hb7) | with_reducible (replace hb7 := nb_nf hb7) | with_reducible (replace hb7 := nb_tt hb7) | with_reducible (replace hb7 := nb_tf hb7) | with_reducible (replace hb7 := nb_bt hb7) | with_reducible (replace hb7 := nb_bf hb7) | skip
                refine S_off rfl rfl ?_
                refine S_off rfl rfl ?_
                refine S_off rfl rfl ?_
                refine S_val (Y_pickF rfl rfl) ?_
                refine S_val (Y_assign rfl) ?_
                refine S_nil (L' := (_ :: _ :: _ :: _ :: _ :: _ :: _ :: _ :: _ :: _ :: _ :: _ :: _ :: _ :: _ :: _ :: _ :: _ :: _ :: _ :: _ :: _ :: _ :: _ :: _ :: _ :: _ :: _ :: _ :: _ :: _ :: _ :: _ :: _ :: _ :: _ :: _ :: _ :: _ :: _ :: _ :: _ :: _ :: _ :: _ :: _ :: _ :: _ :: _ :: _ :: _ :: _ :: _ :: _ :: _ :: _ :: _ :: _ :: _ :: _ :: _ :: _ :: _ :: _ :: _ :: _ :: _ :: _ :: _ :: _ :: _ :: _ :: _ :: _ :: _ :: [])) rfl rfl ?_
                refine th_n ?_
                refine hK14 _ _ ?_
                clear hK14 K14
                refine wp_ret ?_
                refine ib_r ?_
                refine th_r ?_
                clear hK4 K4
                refine ret_r1 rfl rfl ?_  -- r11
                exact ⟨by first | exact cvB_f (by unfold cvP; dsimp only; omega) | exact cvB_d (by unfold cvP; dsimp only; omega) | exact cvB_t (by unfold cvP; dsimp only; omega), G⟩
            · -- g7F
              first | with_reducible (replace hb6 := nb_nt hb6) | with_reducible (replace hb6 := nb_nf hb6) | with_reducible (replace hb6 := nb_tt hb6) | with_reducible (replace hb6 := nb_tf hb6) | with_reducible (replace hb6 := nb_bt hb6) | with_reducible (replace hb6 := nb_bf hb6) | skip
              refine S_off rfl rfl ?_
              refine S_off rfl rfl ?_
              refine S_off rfl rfl ?_
              refine S_val (Y_pickF rfl rfl) ?_
              refine S_val (Y_move rfl) ?_
              refine S_off rfl rfl ?_
              refine S_off rfl rfl ?_
              refine S_off rfl rfl ?_
              refine S_val (Y_pickF rfl rfl) ?_
              refine S_val (Y_assign rfl) ?_
              refine S_nil (L' := (_ :: _ :: _ :: _ :: _ :: _ :: _ :: _ :: _ :: _ :: _ :: _ :: _ :: _ :: _ :: _ :: _ :: _ :: _ :: _ :: _ :: _ :: _ :: _ :: _ :: _ :: _ :: _ :: _ :: _ :: _ :: _ :: _ :: _ :: _ :: _ :: _ :: _ :: _ :: _ :: _ :: _ :: _ :: _ :: _ :: _ :: _ :: _ :: _ :: _ :: _ :: _ :: _ :: _ :: _ :: _ :: _ :: _ :: _ :: _ :: _ :: _ :: _ :: _ :: _ :: _ :: _ :: _ :: _ :: _ :: _ :: _ :: _ :: _ :: _ :: [])) rfl rfl ?_
              refine th_n ?_
              refine hK14 _ _ ?_
              clear hK14 K14
              refine wp_ret ?_
              refine ib_r ?_
              refine th_r ?_
              clear hK4 K4
              refine ret_r1 rfl rfl ?_  -- r12
              exact ⟨by first | exact cvB_f (by unfold cvP; dsimp only; omega) | exact cvB_d (by unfold cvP; dsimp only; omega) | exact cvB_t (by unfold cvP; dsimp only; omega), G⟩
          · -- c5F
            first | with_reducible (replace hb5 := nb_nt hb5) | with_reducible (replace hb5 := nb_nf hb5) | with_reducible (replace hb5 := nb_tt hb5) | with_reducible (replace hb5 := nb_tf hb5) | with_reducible (replace hb5 := nb_bt hb5) | with_reducible (replace hb5 := nb_bf hb5) | skip
            refine wp_seq_k fun K15 hK15 => ?_
            refine wp_region_lit ?_  -- region 13 l8_programs.go:18
            refine S_beg 75 rfl ?_
            refine S_val (Y_eql rfl rfl) ?_
            refine S_val (Y_assign rfl) ?_
            refine S_nil (L' := (_ :: _ :: _ :: _ :: _ :: _ :: _ :: _ :: _ :: _ :: _ :: _ :: _ :: _ :: _ :: _ :: _ :: _ :: _ :: _ :: _ :: _ :: _ :: _ :: _ :: _ :: _ :: _ :: _ :: _ :: _ :: _ :: _ :: _ :: _ :: _ :: _ :: _ :: _ :: _ :: _ :: _ :: _ :: _ :: _ :: _ :: _ :: _ :: _ :: _ :: _ :: _ :: _ :: _ :: _ :: _ :: _ :: _ :: _ :: _ :: _ :: _ :: _ :: _ :: _ :: _ :: _ :: _ :: _ :: _ :: _ :: _ :: _ :: _ :: _ :: [])) rfl rfl ?_
            refine th_n ?_
            refine hK15 _ _ ?_
            clear hK15 K15
            refine S_if rfl (fun hb6 => ?_) (fun hb6 => ?_)  -- c6
            · -- c6T
              first | with_reducible (replace hb6 := nb_nt hb6) | with_reducible (replace hb6 := nb_nf hb6) | with_reducible (replace hb6 := nb_tt hb6) | with_reducible (replace hb6 := nb_tf hb6) | with_reducible (replace hb6 := nb_bt hb6) | with_reducible (replace hb6 := nb_bf hb6) | skip
              refine wp_seq_k fun K16 hK16 => ?_
              refine wp_region_lit ?_  -- region 14 l8_programs.go:19
              refine S_beg 75 rfl ?_
              refine S_val (Y_move rfl) ?_
              refine S_val (Y_move rfl) ?_
              refine S_g 65 rfl (fun hb7 => ?_) (fun hb7 => ?_)  -- g9
              · -- g9T
                first | with_reducible (replace hb7 := nb_nt hb7) | with_reducible (replace hb7 := nb_nf hb7) | with_reducible (replace hb7 := nb_tt hb7) | with_reducible (replace hb7 := nb_tf hb7) | with_reducible (replace hb7 := nb_bt hb7) | with_reducible (replace hb7 := nb_bf hb7) | skip
                refine S_on rfl rfl ?_
                refine S_val (Y_field Try.underlying40 rfl fz40_2 (by decide) rfl) ?_
                refine S_on rfl rfl ?_
                refine S_val (Y_load Try.underlying3 rfl rfl (by first | assumption | exact B1.at (by rfl))) ?_
                refine S_on rfl rfl ?_
                refine S_call rfl en81 (spec_l1In_c _ _ _ _) ?_  -- k6 spec.l1In
                rintro v w' ⟨rfl, rfl⟩
                refine S_val (Y_pickT rfl rfl) ?_
                refine S_val (Y_move rfl) ?_
                refine S_g 70 rfl (fun hb8 => ?_) (fun hb8 => ?_)  -- g10
                · -- g10T
                  first | with_reducible (replace hb8 := nb_nt hb8) | with_reducible (replace hb8 := nb_nf hb8) | with_reducible (replace hb8 := nb_tt hb8) | with_reducible (replace hb8 := nb_tf hb8) | with_reducible (replace hb8 := nb_bt hb8) | with_reducible (replace hb8 := nb_bf hb8) | skip
                  refine S_on rfl rfl ?_
                  refine S_val (Y_field Try.underlying40 rfl fz40_3 (by decide) rfl) ?_
                  refine S_on rfl rfl ?_
                  refine S_val (Y_load Try.underlying3 rfl rfl (by first | assumption | exact B1.at (by rfl))) ?_
                  refine S_on rfl rfl ?_
                  refine S_val (Y_eql rfl rfl) ?_
                  refine S_val (Y_pickT rfl rfl) ?_
                  refine S_val (Y_assign rfl) ?_
                  refine S_nil (L' := (_ :: _ :: _ :: _ :: _ :: _ :: _ :: _ :: _ :: _ :: _ :: _ :: _ :: _ :: _ :: _ :: _ :: _ :: _ :: _ :: _ :: _ :: _ :: _ :: _ :: _ :: _ :: _ :: _ :: _ :: _ :: _ :: _ :: _ :: _ :: _ :: _ :: _ :: _ :: _ :: _ :: _ :: _ :: _ :: _ :: _ :: _ :: _ :: _ :: _ :: _ :: _ :: _ :: _ :: _ :: _ :: _ :: _ :: _ :: _ :: _ :: _ :: _ :: _ :: _ :: _ :: _ :: _ :: _ :: _ :: _ :: _ :: _ :: _ :: _ :: [])) rfl rfl ?_
                  refine th_n ?_
                  refine hK16 _ _ ?_
                  clear hK16 K16
                  refine wp_ret ?_
                  refine ib_r ?_
                  refine th_r ?_
                  clear hK4 K4
                  refine ret_r1 rfl rfl ?_  -- r13
                  exact ⟨by first | exact cvB_f (by unfold cvP; dsimp only; omega) | exact cvB_d (by unfold cvP; dsimp only; omega) | exact cvB_t (by unfold cvP; dsimp only; omega), G⟩
                · -- g10F
                  first | with_reducible (replace hb8 := nb_nt hb8) | with_reducible (replace hb8 := nb_nf hb8) | with_reducible (replace hb8 := nb_tt hb8) | with_reducible (replace hb8 := nb_tf hb8) | with_reducible (replace hb8 := nb_bt hb8) | with_reducible (replace hb8 := nb_bf hb8) | skip
                  refine S_off rfl rfl ?_
                  refine S_off rfl rfl ?_
                  refine S_off rfl rfl ?_
                  refine S_val (Y_pickF rfl rfl) ?_
                  refine S_val (Y_assign rfl) ?_
                  refine S_nil (L' := (_ :: _ :: _ :: _ :: _ :: _ :: _ :: _ :: _ :: _ :: _ :: _ :: _ :: _ :: _ :: _ :: _ :: _ :: _ :: _ :: _ :: _ :: _ :: _ :: _ :: _ :: _ :: _ :: _ :: _ :: _ :: _ :: _ :: _ :: _ :: _ :: _ :: _ :: _ :: _ :: _ :: _ :: _ :: _ :: _ :: _ :: _ :: _ :: _ :: _ :: _ :: _ :: _ :: _ :: _ :: _ :: _ :: _ :: _ :: _ :: _ :: _ :: _ :: _ :: _ :: _ :: _ :: _ :: _ :: _ :: _ :: _ :: _ :: _ :: _ :: [])) rfl rfl ?_
                  refine th_n ?_
                  refine hK16 _ _ ?_
                  clear hK16 K16
                  refine wp_ret ?_
                  refine ib_r ?_
                  refine th_r ?_
                  clear hK4 K4
                  refine ret_r1 rfl rfl ?_  -- r14
                  exact ⟨by first | exact cvB_f (by unfold cvP; dsimp only; omega) | exact cvB_d (by unfold cvP; dsimp only; omega) | exact cvB_t (by unfold cvP; dsimp only; omega), G⟩
              · -- g9F
                first | with_reducible (replace hb7 := nb_nt hb7) | with_reducible (replace hb7 := nb_nf hb7) | with_reducible (replace hb7 := nb_tt hb7) | with_reducible (replace hb7 := nb_tf hb7) | with_reducible (replace hb7 := nb_bt hb7) | with_reducible (replace hb7 := nb_bf hb7) | skip
                refine S_off rfl rfl ?_
                refine S_off rfl rfl ?_
                refine S_off rfl rfl ?_
                refine S_val (Y_pickF rfl rfl) ?_
                refine S_val (Y_move rfl) ?_
                refine S_off rfl rfl ?_
                refine S_off rfl rfl ?_
                refine S_off rfl rfl ?_
                refine S_val (Y_pickF rfl rfl) ?_
                refine S_val (Y_assign rfl) ?_
                refine S_nil (L' := (_ :: _ :: _ :: _ :: _ :: _ :: _ :: _ :: _ :: _ :: _ :: _ :: _ :: _ :: _ :: _ :: _ :: _ :: _ :: _ :: _ :: _ :: _ :: _ :: _ :: _ :: _ :: _ :: _ :: _ :: _ :: _ :: _ :: _ :: _ :: _ :: _ :: _ :: _ :: _ :: _ :: _ :: _ :: _ :: _ :: _ :: _ :: _ :: _ :: _ :: _ :: _ :: _ :: _ :: _ :: _ :: _ :: _ :: _ :: _ :: _ :: _ :: _ :: _ :: _ :: _ :: _ :: _ :: _ :: _ :: _ :: _ :: _ :: _ :: _ :: [])) rfl rfl ?_
                refine th_n ?_
                refine hK16 _ _ ?_
                clear hK16 K16
                refine wp_ret ?_
                refine ib_r ?_
                refine th_r ?_
                clear hK4 K4
                refine ret_r1 rfl rfl ?_  -- r15
                exact ⟨by first | exact cvB_f (by unfold cvP; dsimp only; omega) | exact cvB_d (by unfold cvP; dsimp only; omega) | exact cvB_t (by unfold cvP; dsimp only; omega), G⟩
            · -- c6F
              first | with_reducible (replace hb6 := nb_nt hb6) | with_reducible (replace hb6 := nb_nf hb6) | with_reducible (replace hb6 := nb_tt hb6) | with_reducible (replace hb6 := nb_tf hb6) | with_reducible (replace hb6 := nb_bt hb6) | with_reducible (replace hb6 := nb_bf hb6) | skip
              refine wp_skip ?_
              refine ib_n ?_
              refine th_n ?_
              refine hK4 _ _ ?_
              clear hK4 K4
              refine wp_seq_k fun K17 hK17 => ?_
              refine wp_region_lit ?_  -- region 15 l8_programs.go:21
              refine S_beg 75 rfl ?_
              refine S_val (Y_assign rfl) ?_
              refine S_nil (L' := (_ :: _ :: _ :: _ :: _ :: _ :: _ :: _ :: _ :: _ :: _ :: _ :: _ :: _ :: _ :: _ :: _ :: _ :: _ :: _ :: _ :: _ :: _ :: _ :: _ :: _ :: _ :: _ :: _ :: _ :: _ :: _ :: _ :: _ :: _ :: _ :: _ :: _ :: _ :: _ :: _ :: _ :: _ :: _ :: _ :: _ :: _ :: _ :: _ :: _ :: _ :: _ :: _ :: _ :: _ :: _ :: _ :: _ :: _ :: _ :: _ :: _ :: _ :: _ :: _ :: _ :: _ :: _ :: _ :: _ :: _ :: _ :: _ :: _ :: _ :: [])) rfl rfl ?_
              refine th_n ?_
              refine hK17 _ _ ?_
              clear hK17 K17
              refine wp_ret ?_
              refine ret_r1 rfl rfl ?_  -- r16
              exact ⟨by first | exact cvB_f (by unfold cvP; dsimp only; omega) | exact cvB_d (by unfold cvP; dsimp only; omega) | exact cvB_t (by unfold cvP; dsimp only; omega), G⟩
    · -- c2F
      first | with_reducible (replace hb2 := nb_nt hb2) | with_reducible (replace hb2 := nb_nf hb2) | with_reducible (replace hb2 := nb_tt hb2) | with_reducible (replace hb2 := nb_tf hb2) | with_reducible (replace hb2 := nb_bt hb2) | with_reducible (replace hb2 := nb_bf hb2) | skip
      refine wp_region_lit ?_  -- region 7 l8_programs.go:12
      refine S_beg 75 rfl ?_
      refine S_val (Y_eql rfl rfl) ?_
      refine S_val (Y_assign rfl) ?_
      refine S_nil (L' := (_ :: _ :: _ :: _ :: _ :: _ :: _ :: _ :: _ :: _ :: _ :: _ :: _ :: _ :: _ :: _ :: _ :: _ :: _ :: _ :: _ :: _ :: _ :: _ :: _ :: _ :: _ :: _ :: _ :: _ :: _ :: _ :: _ :: _ :: _ :: _ :: _ :: _ :: _ :: _ :: _ :: _ :: _ :: _ :: _ :: _ :: _ :: _ :: _ :: _ :: _ :: _ :: _ :: _ :: _ :: _ :: _ :: _ :: _ :: _ :: _ :: _ :: _ :: _ :: _ :: _ :: _ :: _ :: _ :: _ :: _ :: _ :: _ :: _ :: _ :: [])) rfl rfl ?_
      refine th_n ?_
      refine hK8 _ _ ?_
      clear hK8 K8
      refine S_if rfl (fun hb3 => ?_) (fun hb3 => ?_)  -- c7
      · -- c7T
        first | with_reducible (replace hb3 := nb_nt hb3) | with_reducible (replace hb3 := nb_nf hb3) | with_reducible (replace hb3 := nb_tt hb3) | with_reducible (replace hb3 := nb_tf hb3) | with_reducible (replace hb3 := nb_bt hb3) | with_reducible (replace hb3 := nb_bf hb3) | skip
        refine wp_seq_k fun K18 hK18 => ?_
        refine wp_region_lit ?_  -- region 8 l8_programs.go:13
        refine S_beg 75 rfl ?_
        refine S_val (Y_move rfl) ?_
        refine S_val (Y_move rfl) ?_
        refine S_g 30 rfl (fun hb4 => ?_) (fun hb4 => ?_)  -- g11
        · -- g11T
          first | with_reducible (replace hb4 := nb_nt hb4) | with_reducible (replace hb4 := nb_nf hb4) | with_reducible (replace hb4 := nb_tt hb4) | with_reducible (replace hb4 := nb_tf hb4) | with_reducible (replace hb4 := nb_bt hb4) | with_reducible (replace hb4 := nb_bf hb4) | skip
          refine S_on rfl rfl ?_
          refine S_val (Y_move rfl) ?_
          refine S_val (Y_pickT rfl rfl) ?_
          refine S_val (Y_move rfl) ?_
          refine S_g 33 rfl (fun hb5 => ?_) (fun hb5 => ?_)  -- g12
          · -- g12T
            first | with_reducible (replace hb5 := nb_nt hb5) | with_reducible (replace hb5 := nb_nf hb5) | with_reducible (replace hb5 := nb_tt hb5) | with_reducible (replace hb5 := nb_tf hb5) | with_reducible (replace hb5 := nb_bt hb5) | with_reducible (replace hb5 := nb_bf hb5) | skip
            refine S_on rfl rfl ?_
            refine S_val (Y_field Try.underlying40 rfl fz40_3 (by decide) rfl) ?_
            refine S_on rfl rfl ?_
            refine S_val (Y_load Try.underlying3 rfl rfl (by first | assumption | exact B1.at (by rfl))) ?_
            refine S_on rfl rfl ?_
            refine S_call rfl en81 (spec_l1In_c _ _ _ _) ?_  -- k7 spec.l1In
            rintro v w' ⟨rfl, rfl⟩
            refine S_val (Y_pickT rfl rfl) ?_
            refine S_val (Y_assign rfl) ?_
            refine S_nil (L' := (_ :: _ :: _ :: _ :: _ :: _ :: _ :: _ :: _ :: _ :: _ :: _ :: _ :: _ :: _ :: _ :: _ :: _ :: _ :: _ :: _ :: _ :: _ :: _ :: _ :: _ :: _ :: _ :: _ :: _ :: _ :: _ :: _ :: _ :: _ :: _ :: _ :: _ :: _ :: _ :: _ :: _ :: _ :: _ :: _ :: _ :: _ :: _ :: _ :: _ :: _ :: _ :: _ :: _ :: _ :: _ :: _ :: _ :: _ :: _ :: _ :: _ :: _ :: _ :: _ :: _ :: _ :: _ :: _ :: _ :: _ :: _ :: _ :: _ :: _ :: [])) rfl rfl ?_
            refine th_n ?_
            refine hK18 _ _ ?_
            clear hK18 K18
            refine wp_ret ?_
            refine ib_r ?_
            refine th_r ?_
            clear hK4 K4
            refine ret_r1 rfl rfl ?_  -- r17
            exact ⟨by first | exact cvB_f (by unfold cvP; dsimp only; omega) | exact cvB_d (by unfold cvP; dsimp only; omega) | exact cvB_t (by unfold cvP; dsimp only; omega), G⟩
          · -- g12F
            first | with_reducible (replace hb5 := nb_nt hb5) | with_reducible (replace hb5 := nb_nf hb5) | with_reducible (replace hb5 := nb_tt hb5) | with_reducible (replace hb5 := nb_tf hb5) | with_reducible (replace hb5 := nb_bt hb5) | with_reducible (replace hb5 := nb_bf hb5) | skip
            refine S_off rfl rfl ?_
            refine S_off rfl rfl ?_
            refine S_off rfl rfl ?_
            refine S_val (Y_pickF rfl rfl) ?_
            refine S_val (Y_assign rfl) ?_
            refine S_nil (L' := (_ :: _ :: _ :: _ :: _ :: _ :: _ :: _ :: _ :: _ :: _ :: _ :: _ :: _ :: _ :: _ :: _ :: _ :: _ :: _ :: _ :: _ :: _ :: _ :: _ :: _ :: _ :: _ :: _ :: _ :: _ :: _ :: _ :: _ :: _ :: _ :: _ :: _ :: _ :: _ :: _ :: _ :: _ :: _ :: _ :: _ :: _ :: _ :: _ :: _ :: _ :: _ :: _ :: _ :: _ :: _ :: _ :: _ :: _ :: _ :: _ :: _ :: _ :: _ :: _ :: _ :: _ :: _ :: _ :: _ :: _ :: _ :: _ :: _ :: _ :: [])) rfl rfl ?_
            refine th_n ?_
            refine hK18 _ _ ?_
            clear hK18 K18
            refine wp_ret ?_
            refine ib_r ?_
            refine th_r ?_
            clear hK4 K4
            refine ret_r1 rfl rfl ?_  -- r18
            exact ⟨by first | exact cvB_f (by unfold cvP; dsimp only; omega) | exact cvB_d (by unfold cvP; dsimp only; omega) | exact cvB_t (by unfold cvP; dsimp only; omega), G⟩
        · -- g11F
          first | with_reducible (replace hb4 := nb_nt hb4) | with_reducible (replace hb4 := nb_nf hb4) | with_reducible (replace hb4 := nb_tt hb4) | with_reducible (replace hb4 := nb_tf hb4) | with_reducible (replace hb4 := nb_bt hb4) | with_reducible (replace hb4 := nb_bf hb4) | skip
          refine S_off rfl rfl ?_
          refine S_val (Y_pickF rfl rfl) ?_
          refine S_val (Y_move rfl) ?_
          refine S_off rfl rfl ?_
          refine S_off rfl rfl ?_
          refine S_off rfl rfl ?_
          refine S_val (Y_pickF rfl rfl) ?_
          refine S_val (Y_assign rfl) ?_
          refine S_nil (L' := (_ :: _ :: _ :: _ :: _ :: _ :: _ :: _ :: _ :: _ :: _ :: _ :: _ :: _ :: _ :: _ :: _ :: _ :: _ :: _ :: _ :: _ :: _ :: _ :: _ :: _ :: _ :: _ :: _ :: _ :: _ :: _ :: _ :: _ :: _ :: _ :: _ :: _ :: _ :: _ :: _ :: _ :: _ :: _ :: _ :: _ :: _ :: _ :: _ :: _ :: _ :: _ :: _ :: _ :: _ :: _ :: _ :: _ :: _ :: _ :: _ :: _ :: _ :: _ :: _ :: _ :: _ :: _ :: _ :: _ :: _ :: _ :: _ :: _ :: _ :: [])) rfl rfl ?_
          refine th_n ?_
          refine hK18 _ _ ?_
          clear hK18 K18
          refine wp_ret ?_
          refine ib_r ?_
          refine th_r ?_
          clear hK4 K4
          refine ret_r1 rfl rfl ?_  -- r19
          exact ⟨by first | exact cvB_f (by unfold cvP; dsimp only; omega) | exact cvB_d (by unfold cvP; dsimp only; omega) | exact cvB_t (by unfold cvP; dsimp only; omega), G⟩
      · -- c7F
        first | with_reducible (replace hb3 := nb_nt hb3) | with_reducible (replace hb3 := nb_nf hb3) | with_reducible (replace hb3 := nb_tt hb3) | with_reducible (replace hb3 := nb_tf hb3) | with_reducible (replace hb3 := nb_bt hb3) | with_reducible (replace hb3 := nb_bf hb3) | skip
        refine wp_seq_k fun K19 hK19 => ?_
        refine wp_region_lit ?_  -- region 9 l8_programs.go:14
        refine S_beg 75 rfl ?_
        refine S_val (Y_eql rfl rfl) ?_
        refine S_val (Y_assign rfl) ?_
        refine S_nil (L' := (_ :: _ :: _ :: _ :: _ :: _ :: _ :: _ :: _ :: _ :: _ :: _ :: _ :: _ :: _ :: _ :: _ :: _ :: _ :: _ :: _ :: _ :: _ :: _ :: _ :: _ :: _ :: _ :: _ :: _ :: _ :: _ :: _ :: _ :: _ :: _ :: _ :: _ :: _ :: _ :: _ :: _ :: _ :: _ :: _ :: _ :: _ :: _ :: _ :: _ :: _ :: _ :: _ :: _ :: _ :: _ :: _ :: _ :: _ :: _ :: _ :: _ :: _ :: _ :: _ :: _ :: _ :: _ :: _ :: _ :: _ :: _ :: _ :: _ :: _ :: [])) rfl rfl ?_
        refine th_n ?_
        refine hK19 _ _ ?_
        clear hK19 K19
        refine S_if rfl (fun hb4 => ?_) (fun hb4 => ?_)  -- c8
        · -- c8T
          first | with_reducible (replace hb4 := nb_nt hb4) | with_reducible (replace hb4 := nb_nf hb4) | with_reducible (replace hb4 := nb_tt hb4) | with_reducible (replace hb4 := nb_tf hb4) | with_reducible (replace hb4 := nb_bt hb4) | with_reducible (replace hb4 := nb_bf hb4) | skip
          refine wp_seq_k fun K20 hK20 => ?_
          refine wp_region_lit ?_  -- region 10 l8_programs.go:15
          refine S_beg 75 rfl ?_
          refine S_val (Y_move rfl) ?_
          refine S_val (Y_move rfl) ?_
          refine S_g 41 rfl (fun hb5 => ?_) (fun hb5 => ?_)  -- g13
          · -- g13T
            first | with_reducible (replace hb5 := nb_nt hb5) | with_reducible (replace hb5 := nb_nf hb5) | with_reducible (replace hb5 := nb_tt hb5) | with_reducible (replace hb5 := nb_tf hb5) | with_reducible (replace hb5 := nb_bt hb5) | with_reducible (replace hb5 := nb_bf hb5) | skip
            refine S_on rfl rfl ?_
            refine S_val (Y_move rfl) ?_
            refine S_val (Y_pickT rfl rfl) ?_
            refine S_val (Y_move rfl) ?_
            refine S_g 44 rfl (fun hb6 => ?_) (fun hb6 => ?_)  -- g14
            · -- g14T
              first | with_reducible (replace hb6 := nb_nt hb6) | with_reducible (replace hb6 := nb_nf hb6) | with_reducible (replace hb6 := nb_tt hb6) | with_reducible (replace hb6 := nb_tf hb6) | with_reducible (replace hb6 := nb_bt hb6) | with_reducible (replace hb6 := nb_bf hb6) | skip
              refine S_on rfl rfl ?_
              refine S_val (Y_field Try.underlying40 rfl fz40_3 (by decide) rfl) ?_
              refine S_on rfl rfl ?_
              refine S_val (Y_load Try.underlying3 rfl rfl (by first | assumption | exact B1.at (by rfl))) ?_
              refine S_on rfl rfl ?_
              refine S_val (Y_eql rfl rfl) ?_
              refine S_val (Y_pickT rfl rfl) ?_
              refine S_val (Y_assign rfl) ?_
              refine S_nil (L' := (_ :: _ :: _ :: _ :: _ :: _ :: _ :: _ :: _ :: _ :: _ :: _ :: _ :: _ :: _ :: _ :: _ :: _ :: _ :: _ :: _ :: _ :: _ :: _ :: _ :: _ :: _ :: _ :: _ :: _ :: _ :: _ :: _ :: _ :: _ :: _ :: _ :: _ :: _ :: _ :: _ :: _ :: _ :: _ :: _ :: _ :: _ :: _ :: _ :: _ :: _ :: _ :: _ :: _ :: _ :: _ :: _ :: _ :: _ :: _ :: _ :: _ :: _ :: _ :: _ :: _ :: _ :: _ :: _ :: _ :: _ :: _ :: _ :: _ :: _ :: [])) rfl rfl ?_
              refine th_n ?_
              refine hK20 _ _ ?_
              clear hK20 K20
              refine wp_ret ?_
              refine ib_r ?_
              refine th_r ?_
              clear hK4 K4
              refine ret_r1 rfl rfl ?_  -- r20
              exact ⟨by first | exact cvB_f (by unfold cvP; dsimp only; omega) | exact cvB_d (by unfold cvP; dsimp only; omega) | exact cvB_t (by unfold cvP; dsimp only; omega), G⟩
            · -- g14F
              first | with_reducible (replace hb6 := nb_nt hb6) | with_reducible (replace hb6 := nb_nf hb6) | with_reducible (replace hb6 := nb_tt hb6) | with_reducible (replace hb6 := nb_tf hb6) | with_reducible (replace hb6 := nb_bt hb6) | with_reducible (replace hb6 := nb_bf hb6) | skip
              refine S_off rfl rfl ?_
              refine S_off rfl rfl ?_
              refine S_off rfl rfl ?_
              refine S_val (Y_pickF rfl rfl) ?_
              refine S_val (Y_assign rfl) ?_
              refine S_nil (L' := (_ :: _ :: _ :: _ :: _ :: _ :: _ :: _ :: _ :: _ :: _ :: _ :: _ :: _ :: _ :: _ :: _ :: _ :: _ :: _ :: _ :: _ :: _ :: _ :: _ :: _ :: _ :: _ :: _ :: _ :: _ :: _ :: _ :: _ :: _ :: _ :: _ :: _ :: _ :: _ :: _ :: _ :: _ :: _ :: _ :: _ :: _ :: _ :: _ :: _ :: _ :: _ :: _ :: _ :: _ :: _ :: _ :: _ :: _ :: _ :: _ :: _ :: _ :: _ :: _ :: _ :: _ :: _ :: _ :: _ :: _ :: _ :: _ :: _ :: _ :: [])) rfl rfl ?_
              refine th_n ?_
              refine hK20 _ _ ?_
              clear hK20 K20
              refine wp_ret ?_
              refine ib_r ?_
              refine th_r ?_
              clear hK4 K4
              refine ret_r1 rfl rfl ?_  -- r21
              exact ⟨by first | exact cvB_f (by unfold cvP; dsimp only; omega) | exact cvB_d (by unfold cvP; dsimp only; omega) | exact cvB_t (by unfold cvP; dsimp only; omega), G⟩
          · -- g13F
            first | with_reducible (replace hb5 := nb_nt hb5) | with_reducible (replace hb5 := nb_nf hb5) | with_reducible (replace hb5 := nb_tt hb5) | with_reducible (replace hb5 := nb_tf hb5) | with_reducible (replace hb5 := nb_bt hb5) | with_reducible (replace hb5 := nb_bf hb5) | skip
            refine S_off rfl rfl ?_
            refine S_val (Y_pickF rfl rfl) ?_
            refine S_val (Y_move rfl) ?_
            refine S_off rfl rfl ?_
            refine S_off rfl rfl ?_
            refine S_off rfl rfl ?_
            refine S_val (Y_pickF rfl rfl) ?_
            refine S_val (Y_assign rfl) ?_
            refine S_nil (L' := (_ :: _ :: _ :: _ :: _ :: _ :: _ :: _ :: _ :: _ :: _ :: _ :: _ :: _ :: _ :: _ :: _ :: _ :: _ :: _ :: _ :: _ :: _ :: _ :: _ :: _ :: _ :: _ :: _ :: _ :: _ :: _ :: _ :: _ :: _ :: _ :: _ :: _ :: _ :: _ :: _ :: _ :: _ :: _ :: _ :: _ :: _ :: _ :: _ :: _ :: _ :: _ :: _ :: _ :: _ :: _ :: _ :: _ :: _ :: _ :: _ :: _ :: _ :: _ :: _ :: _ :: _ :: _ :: _ :: _ :: _ :: _ :: _ :: _ :: _ :: [])) rfl rfl ?_
            refine th_n ?_
            refine hK20 _ _ ?_
            clear hK20 K20
            refine wp_ret ?_
            refine ib_r ?_
            refine th_r ?_
            clear hK4 K4
            refine ret_r1 rfl rfl ?_  -- r22
            exact ⟨by first | exact cvB_f (by unfold cvP; dsimp only; omega) | exact cvB_d (by unfold cvP; dsimp only; omega) | exact cvB_t (by unfold cvP; dsimp only; omega), G⟩
        · -- c8F
          first | with_reducible (replace hb4 := nb_nt hb4) | with_reducible (replace hb4 := nb_nf hb4) | with_reducible (replace hb4 := nb_tt hb4) | with_reducible (replace hb4 := nb_tf hb4) | with_reducible (replace hb4 := nb_bt hb4) | with_reducible (replace hb4 := nb_bf hb4) | skip
          refine wp_seq_k fun K21 hK21 => ?_
          refine wp_region_lit ?_  -- region 11 l8_programs.go:16
          refine S_beg 75 rfl ?_
          refine S_val (Y_eql rfl rfl) ?_
          refine S_val (Y_assign rfl) ?_
          refine S_nil (L' := (_ :: _ :: _ :: _ :: _ :: _ :: _ :: _ :: _ :: _ :: _ :: _ :: _ :: _ :: _ :: _ :: _ :: _ :: _ :: _ :: _ :: _ :: _ :: _ :: _ :: _ :: _ :: _ :: _ :: _ :: _ :: _ :: _ :: _ :: _ :: _ :: _ :: _ :: _ :: _ :: _ :: _ :: _ :: _ :: _ :: _ :: _ :: _ :: _ :: _ :: _ :: _ :: _ :: _ :: _ :: _ :: _ :: _ :: _ :: _ :: _ :: _ :: _ :: _ :: _ :: _ :: _ :: _ :: _ :: _ :: _ :: _ :: _ :: _ :: _ :: [])) rfl rfl ?_
          refine th_n ?_
          refine hK21 _ _ ?_
          clear hK21 K21
          refine S_if rfl (fun hb5 => ?_) (fun hb5 => ?_)  -- c9
          · -- c9T
            first | with_reducible (replace hb5 := nb_nt hb5) | with_reducible (replace hb5 := nb_nf hb5) | with_reducible (replace hb5 := nb_tt hb5) | with_reducible (replace hb5 := nb_tf hb5) | with_reducible (replace hb5 := nb_bt hb5) | with_reducible (replace hb5 := nb_bf hb5) | skip
            refine wp_seq_k fun K22 hK22 => ?_
            refine wp_region_lit ?_  -- region 12 l8_programs.go:17
            refine S_beg 75 rfl ?_
            refine S_val (Y_move rfl) ?_
            refine S_val (Y_move rfl) ?_
            refine S_g 52 rfl (fun hb6 => ?_) (fun hb6 => ?_)  -- g15
            · -- g15T
              first | with_reducible (replace hb6 := nb_nt hb6) | with_reducible (replace hb6 := nb_nf hb6) | with_reducible (replace hb6 := nb_tt hb6) | with_reducible (replace hb6 := nb_tf hb6) | with_reducible (replace hb6 := nb_bt hb6) | with_reducible (replace hb6 := nb_bf hb6) | skip
              refine S_on rfl rfl ?_
              refine S_val (Y_field Try.underlying40 rfl fz40_2 (by decide) rfl) ?_
              refine S_on rfl rfl ?_
              refine S_val (Y_load Try.underlying3 rfl rfl (by first | assumption | exact B1.at (by rfl))) ?_
              refine S_on rfl rfl ?_
              refine S_val (Y_eql rfl rfl) ?_
              refine S_val (Y_pickT rfl rfl) ?_
              refine S_val (Y_move rfl) ?_
              refine S_g 57 rfl (fun hb7 => ?_) (fun hb7 => ?_)  -- g16
              · -- g16T
                first | with_reducible (replace hb7 := nb_nt hb7) | with_reducible (replace hb7 := nb_nf hb7) | with_reducible (replace hb7 := nb_tt hb7) | with_reducible (replace hb7 := nb_tf hb7) | with_reducible (replace hb7 := nb_bt hb7) | with_reducible (replace hb7 := nb_bf hb7) | skip
                refine S_on rfl rfl ?_
                refine S_val (Y_field Try.underlying40 rfl fz40_3 (by decide) rfl) ?_
                refine S_on rfl rfl ?_
                refine S_val (Y_load Try.underlying3 rfl rfl (by first | assumption | exact B1.at (by rfl))) ?_
                refine S_on rfl rfl ?_
                refine S_val (Y_eql rfl rfl) ?_
                refine S_val (Y_pickT rfl rfl) ?_
                refine S_val (Y_assign rfl) ?_
                refine S_nil (L' := (_ :: _ :: _ :: _ :: _ :: _ :: _ :: _ :: _ :: _ :: _ :: _ :: _ :: _ :: _ :: _ :: _ :: _ :: _ :: _ :: _ :: _ :: _ :: _ :: _ :: _ :: _ :: _ :: _ :: _ :: _ :: _ :: _ :: _ :: _ :: _ :: _ :: _ :: _ :: _ :: _ :: _ :: _ :: _ :: _ :: _ :: _ :: _ :: _ :: _ :: _ :: _ :: _ :: _ :: _ :: _ :: _ :: _ :: _ :: _ :: _ :: _ :: _ :: _ :: _ :: _ :: _ :: _ :: _ :: _ :: _ :: _ :: _ :: _ :: _ :: [])) rfl rfl ?_
                refine th_n ?_
                refine hK22 _ _ ?_
                clear hK22 K22
                refine wp_ret ?_
                refine ib_r ?_
                refine th_r ?_
                clear hK4 K4
                refine ret_r1 rfl rfl ?_  -- r23
                exact ⟨by first | exact cvB_f (by unfold cvP; dsimp only; omega) | exact cvB_d (by unfold cvP; dsimp only; omega) | exact cvB_t (by unfold cvP; dsimp only; omega), G⟩
              · -- g16F
                first | with_reducible (replace hb7 := nb_nt hb7) | with_reducible (replace hb7 := nb_nf hb7) | with_reducible (replace hb7 := nb_tt hb7) | with_reducible (replace hb7 := nb_tf hb7) | with_reducible (replace hb7 := nb_bt hb7) | with_reducible (replace hb7 := nb_bf hb7) | skip
                refine S_off rfl rfl ?_
                refine S_off rfl rfl ?_
                refine S_off rfl rfl ?_
                refine S_val (Y_pickF rfl rfl) ?_
                refine S_val (Y_assign rfl) ?_
                refine S_nil (L' := (_ :: _ :: _ :: _ :: _ :: _ :: _ :: _ :: _ :: _ :: _ :: _ :: _ :: _ :: _ :: _ :: _ :: _ :: _ :: _ :: _ :: _ :: _ :: _ :: _ :: _ :: _ :: _ :: _ :: _ :: _ :: _ :: _ :: _ :: _ :: _ :: _ :: _ :: _ :: _ :: _ :: _ :: _ :: _ :: _ :: _ :: _ :: _ :: _ :: _ :: _ :: _ :: _ :: _ :: _ :: _ :: _ :: _ :: _ :: _ :: _ :: _ :: _ :: _ :: _ :: _ :: _ :: _ :: _ :: _ :: _ :: _ :: _ :: _ :: _ :: [])) rfl rfl ?_
                refine th_n ?_
                refine hK22 _ _ ?_
                clear hK22 K22
                refine wp_ret ?_
                refine ib_r ?_
                refine th_r ?_
                clear hK4 K4
                refine ret_r1 rfl rfl ?_  -- r24
                exact ⟨by first | exact cvB_f (by unfold cvP; dsimp only; omega) | exact cvB_d (by unfold cvP; dsimp only; omega) | exact cvB_t (by unfold cvP; dsimp only; omega), G⟩
            · -- g15F
              first | with_reducible (replace hb6 := nb_nt hb6) | with_reducible (replace hb6 := nb_nf hb6) | with_reducible (replace hb6 := nb_tt hb6) | with_reducible (replace hb6 := nb_tf hb6) | with_reducible (replace hb6 := nb_bt hb6) | with_reducible (replace hb6 := nb_bf hb6) | skip
              refine S_off rfl rfl ?_
              refine S_off rfl rfl ?_
              refine S_off rfl rfl ?_
              refine S_val (Y_pickF rfl rfl) ?_
              refine S_val (Y_move rfl) ?_
              refine S_off rfl rfl ?_
              refine S_off rfl rfl ?_
              refine S_off rfl rfl ?_
              refine S_val (Y_pickF rfl rfl) ?_
              refine S_val (Y_assign rfl) ?_
              refine S_nil (L' := (_ :: _ :: _ :: _ :: _ :: _ :: _ :: _ :: _ :: _ :: _ :: _ :: _ :: _ :: _ :: _ :: _ :: _ :: _ :: _ :: _ :: _ :: _ :: _ :: _ :: _ :: _ :: _ :: _ :: _ :: _ :: _ :: _ :: _ :: _ :: _ :: _ :: _ :: _ :: _ :: _ :: _ :: _ :: _ :: _ :: _ :: _ :: _ :: _ :: _ :: _ :: _ :: _ :: _ :: _ :: _ :: _ :: _ :: _ :: _ :: _ :: _ :: _ :: _ :: _ :: _ :: _ :: _ :: _ :: _ :: _ :: _ :: _ :: _ :: _ :: [])) rfl rfl ?_
              refine th_n ?_
              refine hK22 _ _ ?_
              clear hK22 K22
              refine wp_ret ?_
              refine ib_r ?_
              refine th_r ?_
              clear hK4 K4
              refine ret_r1 rfl rfl ?_  -- r25
              exact ⟨by first | exact cvB_f (by unfold cvP; dsimp only; omega) | exact cvB_d (by unfold cvP; dsimp only; omega) | exact cvB_t (by unfold cvP; dsimp only; omega), G⟩
          · -- c9F
            first | with_reducible (replace hb5 := nb_nt hb5) | with_reducible (replace hb5 := nb_nf hb5) | with_reducible (replace hb5 := nb_tt hb5) | with_reducible (replace hb5 := nb_tf hb5) | with_reducible (replace hb5 := nb_bt hb5) | with_reducible (replace hb5 := nb_bf hb5) | skip
            refine wp_seq_k fun K23 hK23 => ?_
            refine wp_region_lit ?_  -- region 13 l8_programs.go:18
            refine S_beg 75 rfl ?_
            refine S_val (Y_eql rfl rfl) ?_
            refine S_val (Y_assign rfl) ?_
            refine S_nil (L' := (_ :: _ :: _ :: _ :: _ :: _ :: _ :: _ :: _ :: _ :: _ :: _ :: _ :: _ :: _ :: _ :: _ :: _ :: _ :: _ :: _ :: _ :: _ :: _ :: _ :: _ :: _ :: _ :: _ :: _ :: _ :: _ :: _ :: _ :: _ :: _ :: _ :: _ :: _ :: _ :: _ :: _ :: _ :: _ :: _ :: _ :: _ :: _ :: _ :: _ :: _ :: _ :: _ :: _ :: _ :: _ :: _ :: _ :: _ :: _ :: _ :: _ :: _ :: _ :: _ :: _ :: _ :: _ :: _ :: _ :: _ :: _ :: _ :: _ :: _ :: [])) rfl rfl ?_
            refine th_n ?_
            refine hK23 _ _ ?_
            clear hK23 K23
            refine S_if rfl (fun hb6 => ?_) (fun hb6 => ?_)  -- c10
            · -- c10T
              first | with_reducible (replace hb6 := nb_nt hb6) | with_reducible (replace hb6 := nb_nf hb6) | with_reducible (replace hb6 := nb_tt hb6) | with_reducible (replace hb6 := nb_tf hb6) | with_reducible (replace hb6 := nb_bt hb6) | with_reducible (replace hb6 := nb_bf hb6) | skip
              refine wp_seq_k fun K24 hK24 => ?_
              refine wp_region_lit ?_  -- region 14 l8_programs.go:19
              refine S_beg 75 rfl ?_
              refine S_val (Y_move rfl) ?_
              refine S_val (Y_move rfl) ?_
              refine S_g 65 rfl (fun hb7 => ?_) (fun hb7 => ?_)  -- g17
              · -- g17T
                first | with_reducible (replace hb7 := nb_nt hb7) | with_reducible (replace hb7 := nb_nf hb7) | with_reducible (replace hb7 := nb_tt hb7) | with_reducible (replace hb7 := nb_tf hb7) | with_reducible (replace hb7 := nb_bt hb7) | with_reducible (replace hb7 := nb_bf hb7) | skip
                refine S_on rfl rfl ?_
                refine S_val (Y_field Try.underlying40 rfl fz40_2 (by decide) rfl) ?_
                refine S_on rfl rfl ?_
                refine S_val (Y_load Try.underlying3 rfl rfl (by first | assumption | exact B1.at (by rfl))) ?_
                refine S_on rfl rfl ?_
                refine S_call rfl en81 (spec_l1In_c _ _ _ _) ?_  -- k8 spec.l1In
                rintro v w' ⟨rfl, rfl⟩
                refine S_val (Y_pickT rfl rfl) ?_
                refine S_val (Y_move rfl) ?_
                refine S_g 70 rfl (fun hb8 => ?_) (fun hb8 => ?_)  -- g18
                · -- g18T
                  first | with_reducible (replace hb8 := nb_nt hb8) | with_reducible (replace hb8 := nb_nf hb8) | with_reducible (replace hb8 := nb_tt hb8) | with_reducible (replace hb8 := nb_tf hb8) | with_reducible (replace hb8 := nb_bt hb8) | with_reducible (replace hb8 := nb_bf hb8) | skip
                  refine S_on rfl rfl ?_
                  refine S_val (Y_field Try.underlying40 rfl fz40_3 (by decide) rfl) ?_
                  refine S_on rfl rfl ?_
                  refine S_val (Y_load Try.underlying3 rfl rfl (by first | assumption | exact B1.at (by rfl))) ?_
                  refine S_on rfl rfl ?_
                  refine S_val (Y_eql rfl rfl) ?_
                  refine S_val (Y_pickT rfl rfl) ?_
                  refine S_val (Y_assign rfl) ?_
                  refine S_nil (L' := (_ :: _ :: _ :: _ :: _ :: _ :: _ :: _ :: _ :: _ :: _ :: _ :: _ :: _ :: _ :: _ :: _ :: _ :: _ :: _ :: _ :: _ :: _ :: _ :: _ :: _ :: _ :: _ :: _ :: _ :: _ :: _ :: _ :: _ :: _ :: _ :: _ :: _ :: _ :: _ :: _ :: _ :: _ :: _ :: _ :: _ :: _ :: _ :: _ :: _ :: _ :: _ :: _ :: _ :: _ :: _ :: _ :: _ :: _ :: _ :: _ :: _ :: _ :: _ :: _ :: _ :: _ :: _ :: _ :: _ :: _ :: _ :: _ :: _ :: _ :: [])) rfl rfl ?_
                  refine th_n ?_
                  refine hK24 _ _ ?_
                  clear hK24 K24
                  refine wp_ret ?_
                  refine ib_r ?_
                  refine th_r ?_
                  clear hK4 K4
                  refine ret_r1 rfl rfl ?_  -- r26
                  exact ⟨by first | exact cvB_f (by unfold cvP; dsimp only; omega) | exact cvB_d (by unfold cvP; dsimp only; omega) | exact cvB_t (by unfold cvP; dsimp only; omega), G⟩
                · -- g18F
                  first | with_reducible (replace hb8 := nb_nt hb8) | with_reducible (replace hb8 := nb_nf hb8) | with_reducible (replace hb8 := nb_tt hb8) | with_reducible (replace hb8 := nb_tf hb8) | with_reducible (replace hb8 := nb_bt hb8) | with_reducible (replace hb8 := nb_bf hb8) | skip
                  refine S_off rfl rfl ?_
                  refine S_off rfl rfl ?_
                  refine S_off rfl rfl ?_
                  refine S_val (Y_pickF rfl rfl) ?_
                  refine S_val (Y_assign rfl) ?_
                  refine S_nil (L' := (_ :: _ :: _ :: _ :: _ :: _ :: _ :: _ :: _ :: _ :: _ :: _ :: _ :: _ :: _ :: _ :: _ :: _ :: _ :: _ :: _ :: _ :: _ :: _ :: _ :: _ :: _ :: _ :: _ :: _ :: _ :: _ :: _ :: _ :: _ :: _ :: _ :: _ :: _ :: _ :: _ :: _ :: _ :: _ :: _ :: _ :: _ :: _ :: _ :: _ :: _ :: _ :: _ :: _ :: _ :: _ :: _ :: _ :: _ :: _ :: _ :: _ :: _ :: _ :: _ :: _ :: _ :: _ :: _ :: _ :: _ :: _ :: _ :: _ :: _ :: [])) rfl rfl ?_
                  refine th_n ?_
                  refine hK24 _ _ ?_
                  clear hK24 K24
                  refine wp_ret ?_
                  refine ib_r ?_
                  refine th_r ?_
                  clear hK4 K4
                  refine ret_r1 rfl rfl ?_  -- r27
                  exact ⟨by first | exact cvB_f (by unfold cvP; dsimp only; omega) | exact cvB_d (by unfold cvP; dsimp only; omega) | exact cvB_t (by unfold cvP; dsimp only; omega), G⟩
              · -- g17F
                first | with_reducible (replace hb7 := nb_nt hb7) | with_reducible (replace hb7 := nb_nf hb7) | with_reducible (replace hb7 := nb_tt hb7) | with_reducible (replace hb7 := nb_tf hb7) | with_reducible (replace hb7 := nb_bt hb7) | with_reducible (replace hb7 := nb_bf hb7) | skip
                refine S_off rfl rfl ?_
                refine S_off rfl rfl ?_
                refine S_off rfl rfl ?_
                refine S_val (Y_pickF rfl rfl) ?_
                refine S_val (Y_move rfl) ?_
                refine S_off rfl rfl ?_
                refine S_off rfl rfl ?_
                refine S_off rfl rfl ?_
                refine S_val (Y_pickF rfl rfl) ?_
                refine S_val (Y_assign rfl) ?_
                refine S_nil (L' := (_ :: _ :: _ :: _ :: _ :: _ :: _ :: _ :: _ :: _ :: _ :: _ :: _ :: _ :: _ :: _ :: _ :: _ :: _ :: _ :: _ :: _ :: _ :: _ :: _ :: _ :: _ :: _ :: _ :: _ :: _ :: _ :: _ :: _ :: _ :: _ :: _ :: _ :: _ :: _ :: _ :: _ :: _ :: _ :: _ :: _ :: _ :: _ :: _ :: _ :: _ :: _ :: _ :: _ :: _ :: _ :: _ :: _ :: _ :: _ :: _ :: _ :: _ :: _ :: _ :: _ :: _ :: _ :: _ :: _ :: _ :: _ :: _ :: _ :: _ :: [])) rfl rfl ?_
                refine th_n ?_
                refine hK24 _ _ ?_
                clear hK24 K24
                refine wp_ret ?_
                refine ib_r ?_
                refine th_r ?_
                clear hK4 K4
                refine ret_r1 rfl rfl ?_  -- r28
                exact ⟨by first | exact cvB_f (by unfold cvP; dsimp only; omega) | exact cvB_d (by unfold cvP; dsimp only; omega) | exact cvB_t (by unfold cvP; dsimp only; omega), G⟩
            · -- c10F
              first | with_reducible (replace hb6 := nb_nt hb6) | with_reducible (replace hb6 := nb_nf hb6) | with_reducible (replace hb6 := nb_tt hb6) | with_reducible (replace hb6 := nb_tf hb6) | with_reducible (replace hb6 := nb_bt hb6) | with_reducible (replace hb6 := nb_bf hb6) | skip
              refine wp_skip ?_
              refine ib_n ?_
              refine th_n ?_
              refine hK4 _ _ ?_
              clear hK4 K4
              refine wp_seq_k fun K25 hK25 => ?_
              refine wp_region_lit ?_  -- region 15 l8_programs.go:21
              refine S_beg 75 rfl ?_
              refine S_val (Y_assign rfl) ?_
              refine S_nil (L' := (_ :: _ :: _ :: _ :: _ :: _ :: _ :: _ :: _ :: _ :: _ :: _ :: _ :: _ :: _ :: _ :: _ :: _ :: _ :: _ :: _ :: _ :: _ :: _ :: _ :: _ :: _ :: _ :: _ :: _ :: _ :: _ :: _ :: _ :: _ :: _ :: _ :: _ :: _ :: _ :: _ :: _ :: _ :: _ :: _ :: _ :: _ :: _ :: _ :: _ :: _ :: _ :: _ :: _ :: _ :: _ :: _ :: _ :: _ :: _ :: _ :: _ :: _ :: _ :: _ :: _ :: _ :: _ :: _ :: _ :: _ :: _ :: _ :: _ :: _ :: [])) rfl rfl ?_
              refine th_n ?_
              refine hK25 _ _ ?_
              clear hK25 K25
              refine wp_ret ?_
              refine ret_r1 rfl rfl ?_  -- r29
              exact ⟨by first | exact cvB_f (by unfold cvP; dsimp only; omega) | exact cvB_d (by unfold cvP; dsimp only; omega) | exact cvB_t (by unfold cvP; dsimp only; omega), G⟩

set_option maxHeartbeats 400000 in
set_option maxRecDepth 20000 in
theorem laws_toCommand_c (op a b c : Int) (w : World) :
    Calls Try.prog 25 #[.agg #[.int .i64 op, .int .i64 a, .int .i64 b, .int .i64 c]] w (Ret fun v w' => v = .agg #[.int .i64 op, .int .i64 a, .int .i64 b, .int .i64 c] ∧ Grow w w') := by
  refine enter Try.func25 rfl Try.ntmps25 (L := (_ :: _ :: _ :: _ :: _ :: _ :: _ :: _ :: _ :: _ :: _ :: _ :: _ :: _ :: _ :: _ :: _ :: [])) rfl ?_
  have G := Mod.refl No w
  refine wp_seq_k fun K1 hK1 => ?_
  refine wp_region_lit ?_  -- region 0 exact.go:245
  refine S_beg 17 rfl ?_
  refine S_box (cs := [_, _, _, _]) rfl rfl ?_
  intro b1 w1 fb1 g1 B1
  have lb1 := B1.lt
  replace G := G.grow g1
  have zg1 := g1.size
  refine S_alloc (cs := [_, _, _, _]) zr40 rfl ?_
  intro b2 w2 fb2 g2 B2
  have lb2 := B2.lt
  replace G := G.grow g2
  replace B1 := B1.grow g2
  have zg2 := g2.size
  refine S_nil (L' := (_ :: _ :: _ :: _ :: _ :: _ :: _ :: _ :: _ :: _ :: _ :: _ :: _ :: _ :: _ :: _ :: _ :: [])) rfl rfl ?_
  refine th_n ?_
  refine hK1 _ _ ?_
  clear hK1 K1
  refine wp_seq_k fun K2 hK2 => ?_
  refine wp_region_lit ?_  -- region 1 exact.go:246
  refine S_beg 17 rfl ?_
  refine S_alloc (cs := [_, _, _, _]) zr40 rfl ?_
  intro b3 w3 fb3 g3 B3
  have lb3 := B3.lt
  replace G := G.grow g3
  replace B1 := B1.grow g3
  replace B2 := B2.grow g3
  have zg3 := g3.size
  refine S_nil (L' := (_ :: _ :: _ :: _ :: _ :: _ :: _ :: _ :: _ :: _ :: _ :: _ :: _ :: _ :: _ :: _ :: _ :: [])) rfl rfl ?_
  refine th_n ?_
  refine hK2 _ _ ?_
  clear hK2 K2
  refine wp_seq_k fun K3 hK3 => ?_
  refine wp_region_lit ?_  -- region 2 exact.go:247
  refine S_beg 17 rfl ?_
  refine S_val (Y_field Try.underlying38 rfl fz38_0 (by decide) rfl) ?_
  refine S_val (Y_load Try.underlying3 rfl rfl (by first | assumption | exact B1.at (by rfl) | exact B2.at (by rfl) | exact B3.at (by rfl))) ?_
  refine S_val (Y_field Try.underlying40 rfl fz40_0 (by decide) rfl) ?_
  refine S_stM (pre := []) (old := [_]) (post := [_, _, _]) (vs := [_]) sz3 rfl rfl rfl (by first | rfl | assumption) B3 rfl rfl ?_
  intro w4 m4 X4
  replace B3 := Blk.eq (ys := [_, _, _, _]) X4 rfl
  clear X4
  replace G := G.above m4 (by intro i h; first | omega | (dsimp only at h; omega))
  replace B1 := B1.mod m4 (by intro h; first | omega | (dsimp only at h; omega))
  replace B2 := B2.mod m4 (by intro h; first | omega | (dsimp only at h; omega))
  have zm4 := m4.size
  refine S_nil (L' := (_ :: _ :: _ :: _ :: _ :: _ :: _ :: _ :: _ :: _ :: _ :: _ :: _ :: _ :: _ :: _ :: _ :: [])) rfl rfl ?_
  refine th_n ?_
  refine hK3 _ _ ?_
  clear hK3 K3
  refine wp_seq_k fun K4 hK4 => ?_
  refine wp_region_lit ?_  -- region 3 exact.go:248
  refine S_beg 17 rfl ?_
  refine S_val (Y_field Try.underlying38 rfl fz38_1 (by decide) rfl) ?_
  refine S_val (Y_load Try.underlying3 rfl rfl (by first | assumption | exact B1.at (by rfl) | exact B2.at (by rfl) | exact B3.at (by rfl))) ?_
  refine S_val (Y_field Try.underlying40 rfl fz40_1 (by decide) rfl) ?_
  refine S_stM (pre := [_]) (old := [_]) (post := [_, _]) (vs := [_]) sz3 rfl rfl rfl (by first | rfl | assumption) B3 rfl rfl ?_
  intro w5 m5 X5
  replace B3 := Blk.eq (ys := [_, _, _, _]) X5 rfl
  clear X5
  replace G := G.above m5 (by intro i h; first | omega | (dsimp only at h; omega))
  replace B1 := B1.mod m5 (by intro h; first | omega | (dsimp only at h; omega))
  replace B2 := B2.mod m5 (by intro h; first | omega | (dsimp only at h; omega))
  have zm5 := m5.size
  refine S_nil (L' := (_ :: _ :: _ :: _ :: _ :: _ :: _ :: _ :: _ :: _ :: _ :: _ :: _ :: _ :: _ :: _ :: _ :: [])) rfl rfl ?_
  refine th_n ?_
  refine hK4 _ _ ?_
  clear hK4 K4
  refine wp_seq_k fun K5 hK5 => ?_
  refine wp_region_lit ?_  -- region 4 exact.go:249
  refine S_beg 17 rfl ?_
  refine S_val (Y_field Try.underlying38 rfl fz38_2 (by decide) rfl) ?_
  refine S_val (Y_load Try.underlying3 rfl rfl (by first | assumption | exact B1.at (by rfl) | exact B2.at (by rfl) | exact B3.at (by rfl))) ?_
  refine S_val (Y_field Try.underlying40 rfl fz40_2 (by decide) rfl) ?_
  refine S_stM (pre := [_, _]) (old := [_]) (post := [_]) (vs := [_]) sz3 rfl rfl rfl (by first | rfl | assumption) B3 rfl rfl ?_
  intro w6 m6 X6
  replace B3 := Blk.eq (ys := [_, _, _, _]) X6 rfl
  clear X6
  replace G := G.above m6 (by intro i h; first | omega | (dsimp only at h; omega))
  replace B1 := B1.mod m6 (by intro h; first | omega | (dsimp only at h; omega))
  replace B2 := B2.mod m6 (by intro h; first | omega | (dsimp only at h; omega))
  have zm6 := m6.size
  refine S_nil (L' := (_ :: _ :: _ :: _ :: _ :: _ :: _ :: _ :: _ :: _ :: _ :: _ :: _ :: _ :: _ :: _ :: _ :: [])) rfl rfl ?_
  refine th_n ?_
  refine hK5 _ _ ?_
  clear hK5 K5
  refine wp_seq_k fun K6 hK6 => ?_
  refine wp_region_lit ?_  -- region 5 exact.go:250
  refine S_beg 17 rfl ?_
  refine S_val (Y_field Try.underlying38 rfl fz38_3 (by decide) rfl) ?_
  refine S_val (Y_load Try.underlying3 rfl rfl (by first | assumption | exact B1.at (by rfl) | exact B2.at (by rfl) | exact B3.at (by rfl))) ?_
  refine S_val (Y_field Try.underlying40 rfl fz40_3 (by decide) rfl) ?_
  refine S_stM (pre := [_, _, _]) (old := [_]) (post := []) (vs := [_]) sz3 rfl rfl rfl (by first | rfl | assumption) B3 rfl rfl ?_
  intro w7 m7 X7
  replace B3 := Blk.eq (ys := [_, _, _, _]) X7 rfl
  clear X7
  replace G := G.above m7 (by intro i h; first | omega | (dsimp only at h; omega))
  replace B1 := B1.mod m7 (by intro h; first | omega | (dsimp only at h; omega))
  replace B2 := B2.mod m7 (by intro h; first | omega | (dsimp only at h; omega))
  have zm7 := m7.size
  refine S_nil (L' := (_ :: _ :: _ :: _ :: _ :: _ :: _ :: _ :: _ :: _ :: _ :: _ :: _ :: _ :: _ :: _ :: _ :: [])) rfl rfl ?_
  refine th_n ?_
  refine hK6 _ _ ?_
  clear hK6 K6
  refine wp_seq_k fun K7 hK7 => ?_
  refine wp_region_lit ?_  -- region 6 exact.go:251
  refine S_beg 17 rfl ?_
  refine S_val (Y_loadS Try.underlying40 rfl sz40 rfl (by first | assumption | exact B1.row (by rfl) | exact B2.row (by rfl) | exact B3.row (by rfl))) ?_
  refine S_stM (pre := []) (old := [_, _, _, _]) (post := []) (vs := [_, _, _, _]) sz40 rfl rfl rfl (by first | rfl | assumption) B2 rfl rfl ?_
  intro w8 m8 X8
  replace B2 := Blk.eq (ys := [_, _, _, _]) X8 rfl
  clear X8
  replace G := G.above m8 (by intro i h; first | omega | (dsimp only at h; omega))
  replace B1 := B1.mod m8 (by intro h; first | omega | (dsimp only at h; omega))
  replace B3 := B3.mod m8 (by intro h; first | omega | (dsimp only at h; omega))
  have zm8 := m8.size
  refine S_nil (L' := (_ :: _ :: _ :: _ :: _ :: _ :: _ :: _ :: _ :: _ :: _ :: _ :: _ :: _ :: _ :: _ :: _ :: [])) rfl rfl ?_
  refine th_n ?_
  refine hK7 _ _ ?_
  clear hK7 K7
  refine wp_ret ?_
  refine ret_rc (cs := [_, _, _, _]) Try.underlying40 rfl sz40 rfl rfl (B2.row (by rfl)) ?_  -- r1
  exact ⟨rfl, G⟩

theorem csB_len {l : List LCmd} (h : ¬ l.length ≤ 40) : Value.bool false = .bool (csB l) := by simp [csB, h]
theorem csB_bad {l : List LCmd} {k : Nat} (hk : k < l.length) (h : cvB l[k] = false) : Value.bool false = .bool (csB l) := by
  have := all_false hk h
  simp [csB, this]
theorem csB_ok {l : List LCmd} (h : l.all cvB = true) : Value.bool (decide (l.length ≤ 40)) = .bool (csB l) := by
  unfold csB
  rw [h]
  simp


end Go.Proofs.Ytdfifnplgbceaaa
