/-
  The law FnCopySteps returns true.
  Conditions: those that each theorem states.
-/
import Derived.Test.YtikgflhepclfgabQb5
set_option linter.unusedVariables false
set_option linter.unusedSimpArgs false
namespace Go.Proofs.Ytikgflhepclfgab
open Go Go.RowKit
attribute [local irreducible] wpList wpAnyH Code.wp dOp

set_option maxHeartbeats 400000 in
set_option maxRecDepth 20000 in
theorem laws_FnCopySteps_c (Pr : Nat → Prop) (A : Option Addr) (xs : List Int) (c : Nat) (w : World) (hA : R1 Pr w A (u8s xs)) (hn : xs.length ≤ 9223372036854775807) (hcap : xs.length ≤ c) (hrg : ∀ y ∈ xs, 0 ≤ y ∧ y ≤ 255) :
    Calls Try.prog 13 #[.slice A xs.length c] w (Ret fun v w' => v = .bool true ∧ Grow w w') := by
 refine enter Try.func13 rfl Try.ntmps13 (L := [_,_,_,_,_,_,_,_,_,_,_,_,_,_,_,_,_,_,_,_,_,_,_,_,_,_,_,_,_,_,_,_,_,_,_,_,_,_,_,_,_,_,_,_,_,_,_,_,_,_,_,_,_,_,_,_,_,_,_,_,_,_,_,_,_,_,_,_,_,_,_,_,_,_,_,_,_,_]) rfl ?_
 have G := Mod.refl No w
 have hA0 := hA
 refine wp_seq_k fun K1 hK1 => ?_
 refine Sb 78 rfl ?_  -- 0
 refine S_val (Y_assign rfl) ?_
 refine S_nl rfl rfl ?_
 refine th_n (hK1 _ _ ?_)
 clear hK1 K1
 refine wp_seq_k fun K2 hK2 => ?_
 refine wp_seq_k fun K3 hK3 => ?_
 refine Sb 78 rfl ?_  -- 1
 refine S_val (Y_move rfl) ?_
 refine S_val (Y_len Try.underlying22 rfl) ?_
 refine S_val (Y_gtr rfl rfl) ?_
 refine S_nl rfl rfl ?_
 refine th_n (hK3 _ _ ?_)
 clear hK3 K3
 refine S_if rfl (fun hb1 => ?_) (fun hb1 => ?_)  -- c1
 · -- c1T
  replace hb1 := nb_tt hb1
  refine wp_seq_k fun K4 hK4 => ?_
  refine Sb 78 rfl ?_  -- 2
  refine S_val (Y_assign rfl) ?_
  refine S_nl rfl rfl ?_
  refine th_n (hK4 _ _ ?_)
  clear hK4 K4
  refine wp_ret ?_
  refine th_r ?_
  clear hK2 K2
  refine ret_r1 rfl rfl ?_  -- r1
  first | exact ⟨rfl, G⟩ | exact ⟨vT (by rw [hsw]), G⟩
 · -- c1F
  replace hb1 := nb_tf hb1
  have hx : xs.length ≤ 1048576 := by omega
  refine wp_skip ?_
  refine th_n (hK2 _ _ ?_)
  clear hK2 K2
  refine wp_seq_k fun K5 hK5 => ?_
  refine Sb 78 rfl ?_  -- 3
  refine S_val (Y_move rfl) ?_
  refine S_call rfl en54 (spec_DrawCopySteps_c _ _ _ _ _ (by assumption) (by omega) (by omega) (by assumption)) ?_  -- k1 spec.DrawCopySteps
  rintro v1 w1 ⟨hD1, A1, B1, n11, c11, n21, c21, rfl, hn11, hn21, hz1, RC1, RR1, g1⟩
  replace hA := hA.grow g1
  replace G := G.grow g1
  have zg1 := g1.size
  subst hn11
  subst hn21
  obtain ⟨h, rfl⟩ : ∃ x, x = hD1 := ⟨_, rfl⟩
  obtain ⟨AD, rfl⟩ : ∃ x, x = A1 := ⟨_, rfl⟩
  obtain ⟨BD, rfl⟩ : ∃ x, x = B1 := ⟨_, rfl⟩
  obtain ⟨cD, rfl⟩ : ∃ x, x = c11 := ⟨_, rfl⟩
  obtain ⟨dD, rfl⟩ : ∃ x, x = c21 := ⟨_, rfl⟩
  have hzD := hz1
  have hzcD := hsize_cells h
  have hzrD := hsize_roots h
  have hDA := RC1.below
  have hDB := RR1.below
  refine S_alloc (cs := [_, _]) zr26 rfl ?_
  intro b2 w2 fb2 g2 B2
  have lb2 := B2.lt
  replace hA := hA.grow g2
  replace hDA := hDA.grow g2
  replace hDB := hDB.grow g2
  replace G := G.grow g2
  have zg2 := g2.size
  refine S_stM (pre := []) (old := [_, _]) (post := []) (vs := [_, _]) sz26 rfl rfl rfl (by first | rfl | assumption) B2 rfl rfl ?_
  intro w3 m3 X3
  replace B2 := Blk.eq (ys := [_, _]) X3 rfl
  clear X3
  replace G := G.abv m3
  replace hA := hA0.grow G
  replace hDA := hDA.md m3
  replace hDB := hDB.md m3
  have zm3 := m3.size
  refine S_nl rfl rfl ?_
  refine th_n (hK5 _ _ ?_)
  clear hK5 K5
  refine wp_seq_k fun K6 hK6 => ?_
  refine Sb 78 rfl ?_  -- 4
  refine S_val (Y_loadS Try.underlying26 rfl sz26 rfl (B2.row (by rfl))) ?_  -- l1
  refine S_call rfl en55 (impl_CopySteps_c _ _ _ _ _ _ _ (by assumption) (by assumption) (by omega)) ?_  -- k2 impl.CopySteps
  rintro v4 w4 ⟨rfl, g4⟩
  replace hA := hA.grow g4
  replace hDA := hDA.grow g4
  replace hDB := hDB.grow g4
  replace G := G.grow g4
  replace B2 := B2.grow g4
  have zg4 := g4.size
  refine S_val (Y_move rfl) ?_
  refine S_val (Y_extract rfl rfl) ?_
  refine S_val (Y_extract rfl rfl) ?_
  refine S_val (Y_assign rfl) ?_
  refine S_val (Y_assign rfl) ?_
  refine S_nl rfl rfl ?_
  refine th_n (hK6 _ _ ?_)
  clear hK6 K6
  refine wp_seq_k fun K7 hK7 => ?_
  refine Sb 78 rfl ?_  -- 5
  refine S_val (Y_loadS Try.underlying26 rfl sz26 rfl (B2.row (by rfl))) ?_  -- l2
  refine S_call rfl en56 (spec_CopySteps_c _ _ _ _ _ _ _ (by assumption) (by assumption) (by omega)) ?_  -- k3 spec.CopySteps
  rintro v5 w5 ⟨rfl, g5⟩
  replace hA := hA.grow g5
  replace hDA := hDA.grow g5
  replace hDB := hDB.grow g5
  replace G := G.grow g5
  replace B2 := B2.grow g5
  have zg5 := g5.size
  refine S_val (Y_move rfl) ?_
  refine S_val (Y_extract rfl rfl) ?_
  refine S_val (Y_extract rfl rfl) ?_
  refine S_val (Y_assign rfl) ?_
  refine S_val (Y_assign rfl) ?_
  refine S_nl rfl rfl ?_
  refine th_n (hK7 _ _ ?_)
  clear hK7 K7
  refine wp_seq_k fun K8 hK8 => ?_
  refine wp_seq_k fun K9 hK9 => ?_
  refine Sb 78 rfl ?_  -- 6
  refine S_val (Y_move rfl) ?_
  refine S_val (Y_move rfl) ?_
  refine S_val (Y_neq rfl rfl) ?_
  refine S_val (Y_move rfl) ?_
  refine S_g 30 rfl (fun hb2 => ?_) (fun hb2 => ?_)  -- g1
  · -- g1T
   replace hb2 := nb_nt hb2
   exact absurd rfl hb2
  · -- g1F
   replace hb2 := nb_nf hb2
   refine S_on rfl rfl ?_
   refine S_val (Y_move rfl) ?_
   refine S_on rfl rfl ?_
   refine S_val (Y_move rfl) ?_
   refine S_on rfl rfl ?_
   refine S_val (Y_neq rfl rfl) ?_
   refine S_val (Y_pickF rfl rfl) ?_
   refine S_nl rfl rfl ?_
   refine th_n (hK9 _ _ ?_)
   clear hK9 K9
   refine S_if rfl (fun hb3 => ?_) (fun hb3 => ?_)  -- c2
   · -- c2T
    first | with_reducible (replace hb3 := nb_nt hb3) | with_reducible (replace hb3 := nb_tt hb3) | with_reducible (replace hb3 := nb_bt hb3) | skip
    exact absurd rfl hb3
   · -- c2F
    first | with_reducible (replace hb3 := nb_nf hb3) | with_reducible (replace hb3 := nb_tf hb3) | with_reducible (replace hb3 := nb_bf hb3) | skip
    refine wp_skip ?_
    refine th_n (hK8 _ _ ?_)
    clear hK8 K8
    refine wp_seq_k fun K10 hK10 => ?_
    refine wp_seq_k fun K11 hK11 => ?_
    refine Sb 78 rfl ?_  -- 8
    refine S_val (Y_move rfl) ?_
    refine S_val (Y_lss rfl rfl) ?_
    refine S_nl rfl rfl ?_
    refine th_n (hK11 _ _ ?_)
    clear hK11 K11
    refine S_if rfl (fun hb4 => ?_) (fun hb4 => ?_)  -- c3
    · -- c3T
     replace hb4 := nb_tt hb4
     have hsn : stepsV h = (-1, -1) := by
       cases hv : validB h with
       | false => exact stepsV_f hv
       | true => rw [stepsV_t hv] at hb4; have h9 : ((orderL h.cells h.roots nn).length : Int) < 0 := hb4; omega
     rw [hsn]
     refine wp_seq_k fun K12 hK12 => ?_
     refine Sb 78 rfl ?_  -- 9
     refine S_val (Y_move rfl) ?_
     refine S_val (Y_eql rfl rfl) ?_
     refine S_val (Y_move rfl) ?_
     refine S_g 39 rfl (fun hb5 => ?_) (fun hb5 => ?_)  -- g2
     · -- g2T
      replace hb5 := nb_tt hb5
      refine S_on rfl rfl ?_
      refine S_val (Y_move rfl) ?_
      refine S_on rfl rfl ?_
      refine S_val (Y_eql rfl rfl) ?_
      refine S_val (Y_pickT rfl rfl) ?_
      refine S_val (Y_move rfl) ?_
      refine S_g 43 rfl (fun hb6 => ?_) (fun hb6 => ?_)  -- g3
      · -- g3T
       first | with_reducible (replace hb6 := nb_nt hb6) | with_reducible (replace hb6 := nb_tt hb6) | with_reducible (replace hb6 := nb_bt hb6) | skip
       refine S_on rfl rfl ?_
       refine S_call rfl en20 (laws_alive_c _) ?_  -- k4 laws.alive
       rintro v6 w6 ⟨rfl, g6⟩
       replace hA := hA.grow g6
       replace hDA := hDA.grow g6
       replace hDB := hDB.grow g6
       replace G := G.grow g6
       replace B2 := B2.grow g6
       have zg6 := g6.size
       refine S_val (Y_pickT rfl rfl) ?_
       refine S_val (Y_assign rfl) ?_
       refine S_nl rfl rfl ?_
       refine th_n (hK12 _ _ ?_)
       clear hK12 K12
       refine wp_ret ?_
       refine th_r ?_
       clear hK10 K10
       refine ret_r1 rfl rfl ?_  -- r2
       first | exact ⟨rfl, G⟩ | exact ⟨vT (by rw [hsw]), G⟩
      · -- g3F
       first | with_reducible (replace hb6 := nb_nf hb6) | with_reducible (replace hb6 := nb_tf hb6) | with_reducible (replace hb6 := nb_bf hb6) | skip
       exact absurd rfl hb6
     · -- g2F
      replace hb5 := nb_tf hb5
      exact absurd rfl hb5
    · -- c3F
     replace hb4 := nb_tf hb4
     have hv9 : validB h = true := by
       cases hv : validB h with
       | true => rfl
       | false => rw [stepsV_f hv] at hb4; exact absurd (by decide) hb4
     have va := valid_iff.1 hv9
     have hsw := swept_steps va
     have hml := metV_len h
     have h40 := va.le
     have hr3 := rsumO_three va (orderL h.cells h.roots nn)
     have hs1 : (stepsV h).1 = ((metV h).length : Int) := by rw [stepsV_t hv9, metV_t hv9]
     have hs2 : (stepsV h).2 = ((4 + rsumO h.cells (orderL h.cells h.roots nn) : Nat) : Int) := by rw [stepsV_t hv9]
     rw [← metV_t hv9] at hr3 hs2
     refine wp_skip ?_
     refine th_n (hK10 _ _ ?_)
     clear hK10 K10
     refine wp_seq_k fun K13 hK13 => ?_
     refine Sb 78 rfl ?_  -- 10
     refine S_val (Y_loadS Try.underlying26 rfl sz26 rfl (B2.row (by rfl))) ?_  -- l3
     refine S_call rfl en43 (impl_CollectSweep_c _ _ _ _ _ _ _ (by assumption) (by assumption) (by omega)) ?_  -- k5 impl.CollectSweep
     rintro v7 w7 ⟨A7, B7, n17, c17, n27, c27, rs7, rfl, hn17, hn27, O7, g7⟩
     replace hA := hA.grow g7
     replace hDA := hDA.grow g7
     replace hDB := hDB.grow g7
     replace G := G.grow g7
     replace B2 := B2.grow g7
     have zg7 := g7.size
     obtain ⟨hS, hSe⟩ : ∃ x, x = (sweepV h (reachV h)).1 := ⟨_, rfl⟩
     have hSc : hS = sweptH h := by rw [hSe, swept_eq va]
     have hSz : hsize hS ≤ 200 := by rw [hSe]; exact sweep_small _ _
     rw [← hSe] at hn17 hn27 O7
     subst hn17
     subst hn27
     have hSA := O7.lt.rc
     have hSB := O7.lt.r1
     rw [← hSc] at hsw
     refine S_val (Y_move rfl) ?_
     refine S_val (Y_extract rfl rfl) ?_
     refine S_val (Y_extract rfl rfl) ?_
     refine S_alloc (cs := [_, _]) zr26 rfl ?_
     intro b8 w8 fb8 g8 B8
     have lb8 := B8.lt
     replace hA := hA.grow g8
     replace hDA := hDA.grow g8
     replace hDB := hDB.grow g8
     replace hSA := hSA.grow g8
     replace hSB := hSB.grow g8
     replace G := G.grow g8
     replace B2 := B2.grow g8
     have zg8 := g8.size
     refine S_stM (pre := []) (old := [_, _]) (post := []) (vs := [_, _]) sz26 rfl rfl rfl (by first | rfl | assumption) B8 rfl rfl ?_
     intro w9 m9 X9
     replace B8 := Blk.eq (ys := [_, _]) X9 rfl
     clear X9
     replace G := G.abv m9
     replace hA := hA0.grow G
     replace hDA := hDA.md m9
     replace hDB := hDB.md m9
     replace hSA := hSA.md m9
     replace hSB := hSB.md m9
     replace B2 := B2.md m9
     have zm9 := m9.size
     refine S_val (Y_assign rfl) ?_
     refine S_nl rfl rfl ?_
     refine th_n (hK13 _ _ ?_)
     clear hK13 K13
     refine wp_seq_k fun K14 hK14 => ?_
     refine Sb 78 rfl ?_  -- 11
     refine S_val (Y_loadS Try.underlying26 rfl sz26 rfl (B8.row (by rfl))) ?_  -- l4
     refine S_call rfl en55 (impl_CopySteps_c _ _ _ hS _ _ _ hSA hSB (by omega)) ?_  -- k6 impl.CopySteps
     rintro v10 w10 ⟨rfl, g10⟩
     replace hA := hA.grow g10
     replace hDA := hDA.grow g10
     replace hDB := hDB.grow g10
     replace hSA := hSA.grow g10
     replace hSB := hSB.grow g10
     replace G := G.grow g10
     replace B2 := B2.grow g10
     replace B8 := B8.grow g10
     have zg10 := g10.size
     refine S_val (Y_move rfl) ?_
     refine S_val (Y_extract rfl rfl) ?_
     refine S_val (Y_extract rfl rfl) ?_
     refine S_val (Y_assign rfl) ?_
     refine S_val (Y_assign rfl) ?_
     refine S_nl rfl rfl ?_
     refine th_n (hK14 _ _ ?_)
     clear hK14 K14
     refine wp_seq_k fun K15 hK15 => ?_
     refine Sb 78 rfl ?_  -- 12
     refine S_val (Y_move rfl) ?_
     refine S_val (Y_loadS Try.underlying26 rfl sz26 rfl (B2.row (by rfl))) ?_  -- l5
     refine S_call rfl en26 (impl_MetOrder_c _ _ _ _ _ _ _ (by assumption) (by assumption) (by omega)) ?_  -- k7 impl.MetOrder
     rintro v11 w11 ⟨A11, q11, cap11, rfl, hq11, O11, g11⟩
     replace hA := hA.grow g11
     replace hDA := hDA.grow g11
     replace hDB := hDB.grow g11
     replace hSA := hSA.grow g11
     replace hSB := hSB.grow g11
     replace G := G.grow g11
     replace B2 := B2.grow g11
     replace B8 := B8.grow g11
     have zg11 := g11.size
     subst hq11
     refine S_val (Y_len Try.underlying24 rfl) ?_
     refine S_val (Y_eql rfl rfl) ?_
     refine S_val (Y_move rfl) ?_
     refine S_g 61 rfl (fun hb5 => ?_) (fun hb5 => ?_)  -- g4
     · -- g4T
      replace hb5 := nb_tt hb5
      refine S_on rfl rfl ?_
      refine S_val (Y_move rfl) ?_
      refine S_on rfl rfl ?_
      refine S_val (Y_move rfl) ?_
      refine S_on rfl rfl ?_
      refine S_val (Y_mul rfl rfl rfl (by omega) (by omega)) ?_
      refine S_on rfl rfl ?_
      refine S_val (Y_add rfl rfl rfl (by omega) (by omega)) ?_
      refine S_on rfl rfl ?_
      refine S_val (Y_leq rfl rfl) ?_
      refine S_val (Y_pickT rfl rfl) ?_
      refine S_val (Y_move rfl) ?_
      refine S_g 68 rfl (fun hb6 => ?_) (fun hb6 => ?_)  -- g5
      · -- g5T
       first | with_reducible (replace hb6 := nb_nt hb6) | with_reducible (replace hb6 := nb_tt hb6) | with_reducible (replace hb6 := nb_bt hb6) | skip
       refine S_on rfl rfl ?_
       refine S_val (Y_move rfl) ?_
       refine S_on rfl rfl ?_
       refine S_val (Y_move rfl) ?_
       refine S_on rfl rfl ?_
       refine S_val (Y_eql rfl rfl) ?_
       refine S_val (Y_pickT rfl rfl) ?_
       refine S_val (Y_move rfl) ?_
       refine S_g 73 rfl (fun hb7 => ?_) (fun hb7 => ?_)  -- g6
       · -- g6T
        first | with_reducible (replace hb7 := nb_nt hb7) | with_reducible (replace hb7 := nb_tt hb7) | with_reducible (replace hb7 := nb_bt hb7) | skip
        refine S_on rfl rfl ?_
        refine S_val (Y_move rfl) ?_
        refine S_on rfl rfl ?_
        refine S_val (Y_move rfl) ?_
        refine S_on rfl rfl ?_
        refine S_val (Y_eql rfl rfl) ?_
        refine S_val (Y_pickT rfl rfl) ?_
        refine S_val (Y_assign rfl) ?_
        refine S_nl rfl rfl ?_
        refine th_n (hK15 _ _ ?_)
        clear hK15 K15
        refine wp_ret ?_
        refine ret_r1 rfl rfl ?_  -- r3
        first | exact ⟨rfl, G⟩ | exact ⟨vT (by rw [hsw]), G⟩
       · -- g6F
        first | with_reducible (replace hb7 := nb_nf hb7) | with_reducible (replace hb7 := nb_tf hb7) | with_reducible (replace hb7 := nb_bf hb7) | skip
        exact absurd (by rw [hsw]) hb7
      · -- g5F
       first | with_reducible (replace hb6 := nb_nf hb6) | with_reducible (replace hb6 := nb_tf hb6) | with_reducible (replace hb6 := nb_bf hb6) | skip
       omega
     · -- g4F
      replace hb5 := nb_tf hb5
      omega

end Go.Proofs.Ytikgflhepclfgab
