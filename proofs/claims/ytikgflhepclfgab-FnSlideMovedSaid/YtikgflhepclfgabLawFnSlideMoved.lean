/-
  The law FnSlideMoved returns true.
  Conditions: those that each theorem states.
-/
import Derived.Test.YtikgflhepclfgabQa5
set_option linter.unusedVariables false
set_option linter.unusedSimpArgs false
namespace Go.Proofs.Ytikgflhepclfgab
open Go Go.RowKit
attribute [local irreducible] wpList wpAnyH Code.wp dOp

set_option maxHeartbeats 400000 in
set_option maxRecDepth 20000 in
theorem laws_FnSlideMoved_c (Pr : Nat → Prop) (A : Option Addr) (xs : List Int) (c : Nat) (w : World) (hA : R1 Pr w A (u8s xs)) (hn : xs.length ≤ 9223372036854775807) (hcap : xs.length ≤ c) (hrg : ∀ y ∈ xs, 0 ≤ y ∧ y ≤ 255) :
    Calls Try.prog 10 #[.slice A xs.length c] w (Ret fun v w' => v = .bool true ∧ Grow w w') := by
 refine enter Try.func10 rfl Try.ntmps10 (L := [_,_,_,_,_,_,_,_,_,_,_,_,_,_,_,_,_,_,_,_,_,_,_,_,_,_,_,_,_,_,_,_,_,_]) rfl ?_
 have G := Mod.refl No w
 have hA0 := hA
 refine wp_seq_k fun K1 hK1 => ?_
 refine Sb 34 rfl ?_  -- 0
 refine S_val (Y_assign rfl) ?_
 refine S_nl rfl rfl ?_
 refine th_n (hK1 _ _ ?_)
 clear hK1 K1
 refine wp_seq_k fun K2 hK2 => ?_
 refine wp_seq_k fun K3 hK3 => ?_
 refine Sb 34 rfl ?_  -- 1
 refine S_val (Y_move rfl) ?_
 refine S_val (Y_len Try.underlying22 rfl) ?_
 refine S_val (Y_gtr rfl rfl) ?_
 refine S_nl rfl rfl ?_
 refine th_n (hK3 _ _ ?_)
 clear hK3 K3
 refine S_if rfl (fun hb1 => ?_) (fun hb1 => ?_)  -- c1
 · -- c1T
  replace hb1 := nb_tt hb1
  refine wp_seq_k fun K4 hK4 => ?_
  refine Sb 34 rfl ?_  -- 2
  refine S_val (Y_assign rfl) ?_
  refine S_nl rfl rfl ?_
  refine th_n (hK4 _ _ ?_)
  clear hK4 K4
  refine wp_ret ?_
  refine th_r ?_
  clear hK2 K2
  refine ret_r1 rfl rfl ?_  -- r1
  first | exact ⟨rfl, G⟩ | exact ⟨vT (by omega), G⟩
 · -- c1F
  replace hb1 := nb_tf hb1
  have hx : xs.length ≤ 1048576 := by omega
  refine wp_skip ?_
  refine th_n (hK2 _ _ ?_)
  clear hK2 K2
  refine wp_seq_k fun K5 hK5 => ?_
  refine Sb 34 rfl ?_  -- 3
  refine S_val (Y_move rfl) ?_
  refine S_call rfl en46 (spec_DrawSlideMoved_c _ _ _ _ _ (by assumption) (by omega) (by omega) (by assumption)) ?_  -- k1 spec.DrawSlideMoved
  rintro v1 w1 ⟨hD1, A1, B1, n11, c11, n21, c21, rfl, hn11, hn21, hz1, RC1, RR1, g1⟩
  replace hA := hA.grow g1
  replace G := G.grow g1
  have zg1 := g1.size
  subst hn11
  subst hn21
  obtain ⟨h, rfl⟩ : ∃ x, x = hD1 := ⟨_, rfl⟩
  obtain ⟨AD, rfl⟩ : ∃ x, x = A1 := ⟨_, rfl⟩
  obtain ⟨BD, rfl⟩ : ∃ x, x = B1 := ⟨_, rfl⟩
  obtain ⟨cD, rfl⟩ : ∃ x, x = c11 := ⟨_, rfl⟩
  obtain ⟨dD, rfl⟩ : ∃ x, x = c21 := ⟨_, rfl⟩
  have hzD := hz1
  have hzcD := hsize_cells h
  have hzrD := hsize_roots h
  have hDA := RC1.below
  have hDB := RR1.below
  refine S_alloc (cs := [_, _]) zr26 rfl ?_
  intro b2 w2 fb2 g2 B2
  have lb2 := B2.lt
  replace hA := hA.grow g2
  replace hDA := hDA.grow g2
  replace hDB := hDB.grow g2
  replace G := G.grow g2
  have zg2 := g2.size
  refine S_stM (pre := []) (old := [_, _]) (post := []) (vs := [_, _]) sz26 rfl rfl rfl (by first | rfl | assumption) B2 rfl rfl ?_
  intro w3 m3 X3
  replace B2 := Blk.eq (ys := [_, _]) X3 rfl
  clear X3
  replace G := G.abv m3
  replace hA := hA0.grow G
  replace hDA := hDA.md m3
  replace hDB := hDB.md m3
  have zm3 := m3.size
  refine S_nl rfl rfl ?_
  refine th_n (hK5 _ _ ?_)
  clear hK5 K5
  refine wp_seq_k fun K6 hK6 => ?_
  refine Sb 34 rfl ?_  -- 4
  refine S_val (Y_loadS Try.underlying26 rfl sz26 rfl (B2.row (by rfl))) ?_  -- l1
  refine S_call rfl en47 (impl_SlideMoved_c _ _ _ _ _ _ _ (by assumption) (by assumption) (by omega)) ?_  -- k2 impl.SlideMoved
  rintro v4 w4 ⟨rfl, g4⟩
  replace hA := hA.grow g4
  replace hDA := hDA.grow g4
  replace hDB := hDB.grow g4
  replace G := G.grow g4
  replace B2 := B2.grow g4
  have zg4 := g4.size
  refine S_val (Y_assign rfl) ?_
  refine S_nl rfl rfl ?_
  refine th_n (hK6 _ _ ?_)
  clear hK6 K6
  refine wp_seq_k fun K7 hK7 => ?_
  refine wp_seq_k fun K8 hK8 => ?_
  refine Sb 34 rfl ?_  -- 5
  refine S_val (Y_move rfl) ?_
  refine S_val (Y_loadS Try.underlying26 rfl sz26 rfl (B2.row (by rfl))) ?_  -- l2
  refine S_call rfl en48 (spec_SlideMoved_c _ _ _ _ _ _ _ (by assumption) (by assumption) (by omega)) ?_  -- k3 spec.SlideMoved
  rintro v5 w5 ⟨rfl, g5⟩
  replace hA := hA.grow g5
  replace hDA := hDA.grow g5
  replace hDB := hDB.grow g5
  replace G := G.grow g5
  replace B2 := B2.grow g5
  have zg5 := g5.size
  refine S_val (Y_neq rfl rfl) ?_
  refine S_nl rfl rfl ?_
  refine th_n (hK8 _ _ ?_)
  clear hK8 K8
  refine S_if rfl (fun hb2 => ?_) (fun hb2 => ?_)  -- c2
  · -- c2T
   replace hb2 := nb_nt hb2
   exact absurd rfl hb2
  · -- c2F
   replace hb2 := nb_nf hb2
   refine wp_skip ?_
   refine th_n (hK7 _ _ ?_)
   clear hK7 K7
   refine wp_seq_k fun K9 hK9 => ?_
   refine wp_seq_k fun K10 hK10 => ?_
   refine Sb 34 rfl ?_  -- 7
   refine S_val (Y_move rfl) ?_
   refine S_val (Y_lss rfl rfl) ?_
   refine S_nl rfl rfl ?_
   refine th_n (hK10 _ _ ?_)
   clear hK10 K10
   refine S_if rfl (fun hb3 => ?_) (fun hb3 => ?_)  -- c3
   · -- c3T
    replace hb3 := nb_tt hb3
    have hmn : movedV h = -1 := by
      cases hv : validB h with
      | false => exact movedV_f hv
      | true => rw [movedV_t hv] at hb3; omega
    refine wp_seq_k fun K11 hK11 => ?_
    refine Sb 34 rfl ?_  -- 8
    refine S_val (Y_move rfl) ?_
    refine S_val (Y_eql rfl rfl) ?_
    refine S_val (Y_move rfl) ?_
    refine S_g 20 rfl (fun hb4 => ?_) (fun hb4 => ?_)  -- g1
    · -- g1T
     replace hb4 := nb_tt hb4
     refine S_on rfl rfl ?_
     refine S_call rfl en20 (laws_alive_c _) ?_  -- k4 laws.alive
     rintro v6 w6 ⟨rfl, g6⟩
     replace hA := hA.grow g6
     replace hDA := hDA.grow g6
     replace hDB := hDB.grow g6
     replace G := G.grow g6
     replace B2 := B2.grow g6
     have zg6 := g6.size
     refine S_val (Y_pickT rfl rfl) ?_
     refine S_val (Y_assign rfl) ?_
     refine S_nl rfl rfl ?_
     refine th_n (hK11 _ _ ?_)
     clear hK11 K11
     refine wp_ret ?_
     refine th_r ?_
     clear hK9 K9
     refine ret_r1 rfl rfl ?_  -- r2
     first | exact ⟨rfl, G⟩ | exact ⟨vT (by omega), G⟩
    · -- g1F
     replace hb4 := nb_tf hb4
     omega
   · -- c3F
    replace hb3 := nb_tf hb3
    have hv9 : validB h = true := by
      cases hv : validB h with
      | true => rfl
      | false => rw [movedV_f hv] at hb3; exact absurd (by decide) hb3
    have va := valid_iff.1 hv9
    have hsm := slide_moved va
    have hsl := slide_le va
    rw [← metV_t hv9] at hsl
    have hml := metV_len h
    refine wp_skip ?_
    refine th_n (hK9 _ _ ?_)
    clear hK9 K9
    refine wp_seq_k fun K12 hK12 => ?_
    refine Sb 34 rfl ?_  -- 9
    refine S_val (Y_move rfl) ?_
    refine S_val (Y_loadS Try.underlying26 rfl sz26 rfl (B2.row (by rfl))) ?_  -- l3
    refine S_call rfl en26 (impl_MetOrder_c _ _ _ _ _ _ _ (by assumption) (by assumption) (by omega)) ?_  -- k5 impl.MetOrder
    rintro v7 w7 ⟨A7, q7, cap7, rfl, hq7, O7, g7⟩
    replace hA := hA.grow g7
    replace hDA := hDA.grow g7
    replace hDB := hDB.grow g7
    replace G := G.grow g7
    replace B2 := B2.grow g7
    have zg7 := g7.size
    subst hq7
    refine S_val (Y_len Try.underlying24 rfl) ?_
    refine S_val (Y_leq rfl rfl) ?_
    refine S_val (Y_move rfl) ?_
    refine S_g 28 rfl (fun hb4 => ?_) (fun hb4 => ?_)  -- g2
    · -- g2T
     replace hb4 := nb_tt hb4
     refine S_on rfl rfl ?_
     refine S_val (Y_loadS Try.underlying26 rfl sz26 rfl (B2.row (by rfl))) ?_  -- l4
     refine S_on rfl rfl ?_
     refine S_call rfl en49 (impl_SlideHeap_c _ _ _ _ _ _ _ (by assumption) (by assumption) (by omega)) ?_  -- k6 impl.SlideHeap
     rintro v8 w8 ⟨A8, B8, n18, c18, n28, c28, rs8, rfl, hn18, hn28, O8, g8⟩
     replace hA := hA.grow g8
     replace hDA := hDA.grow g8
     replace hDB := hDB.grow g8
     replace G := G.grow g8
     replace B2 := B2.grow g8
     have zg8 := g8.size
     subst hn18
     subst hn28
     have hAC := O8.lt.rc
     have hBC := O8.lt.r1
     have hzC := slideV_small h
     refine S_on rfl rfl ?_
     refine S_call rfl en47 (impl_SlideMoved_c _ _ _ (slideV h) _ _ _ hAC hBC (by omega)) ?_  -- k7 impl.SlideMoved
     rintro v9 w9 ⟨rfl, g9⟩
     replace hA := hA.grow g9
     replace hDA := hDA.grow g9
     replace hDB := hDB.grow g9
     replace hAC := hAC.grow g9
     replace hBC := hBC.grow g9
     replace G := G.grow g9
     replace B2 := B2.grow g9
     have zg9 := g9.size
     refine S_on rfl rfl ?_
     refine S_val (Y_eql rfl rfl) ?_
     refine S_val (Y_pickT rfl rfl) ?_
     refine S_val (Y_assign rfl) ?_
     refine S_nl rfl rfl ?_
     refine th_n (hK12 _ _ ?_)
     clear hK12 K12
     refine wp_ret ?_
     refine ret_r1 rfl rfl ?_  -- r3
     first | exact ⟨rfl, G⟩ | exact ⟨vT (by omega), G⟩
    · -- g2F
     replace hb4 := nb_tf hb4
     omega

end Go.Proofs.Ytikgflhepclfgab
