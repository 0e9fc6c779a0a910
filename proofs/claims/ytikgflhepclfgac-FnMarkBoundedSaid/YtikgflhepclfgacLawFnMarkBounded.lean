/-
  The law FnMarkBounded returns true.
  Conditions: those that each theorem states.
-/
import Derived.Test.YtikgflhepclfgacQa5
set_option linter.unusedVariables false
set_option linter.unusedSimpArgs false
namespace Go.Proofs.Ytikgflhepclfgac
open Go Go.RowKit
attribute [local irreducible] wpList wpAnyH Code.wp dOp

set_option maxHeartbeats 400000 in
set_option maxRecDepth 20000 in
theorem laws_FnMarkBounded_c (Pr : Nat → Prop) (A : Option Addr) (xs : List Int) (c : Nat) (w : World) (hA : R1 Pr w A (u8s xs)) (hn : xs.length ≤ 9223372036854775807) (hcap : xs.length ≤ c) (hrg : ∀ y ∈ xs, 0 ≤ y ∧ y ≤ 255) :
    Calls Try.prog 4 #[.slice A xs.length c] w (Ret fun v w' => v = .bool true ∧ Grow w w') := by
 refine enter Try.func4 rfl Try.ntmps4 (L := [_,_,_,_,_,_,_,_,_,_,_,_,_,_,_,_,_,_,_,_,_,_,_,_,_,_,_,_,_,_,_,_,_,_,_,_,_,_,_,_,_,_,_,_,_,_,_,_,_,_,_,_,_,_,_,_,_,_,_,_,_,_,_,_,_,_,_,_,_,_,_,_,_,_,_,_,_]) rfl ?_
 have G := Mod.refl No w
 have hA0 := hA
 refine wp_seq_k fun K1 hK1 => ?_
 refine Sb 77 rfl ?_  -- 0
 refine S_val (Y_assign rfl) ?_
 refine S_nl rfl rfl ?_
 refine th_n (hK1 _ _ ?_)
 clear hK1 K1
 refine wp_seq_k fun K2 hK2 => ?_
 refine wp_seq_k fun K3 hK3 => ?_
 refine Sb 77 rfl ?_  -- 1
 refine S_val (Y_move rfl) ?_
 refine S_val (Y_len Try.underlying39 rfl) ?_
 refine S_val (Y_gtr rfl rfl) ?_
 refine S_nl rfl rfl ?_
 refine th_n (hK3 _ _ ?_)
 clear hK3 K3
 refine S_if rfl (fun hb1 => ?_) (fun hb1 => ?_)  -- c1
 · -- c1T
  replace hb1 := nb_tt hb1
  refine wp_seq_k fun K4 hK4 => ?_
  refine Sb 77 rfl ?_  -- 2
  refine S_val (Y_assign rfl) ?_
  refine S_nl rfl rfl ?_
  refine th_n (hK4 _ _ ?_)
  clear hK4 K4
  refine wp_ret ?_
  refine th_r ?_
  clear hK2 K2
  refine ret_r1 rfl rfl ?_  -- r1
  first | exact ⟨rfl, G⟩ | exact ⟨vT h401, G⟩
 · -- c1F
  replace hb1 := nb_tf hb1
  have hx : xs.length ≤ 1048576 := by omega
  refine wp_skip ?_
  refine th_n (hK2 _ _ ?_)
  clear hK2 K2
  refine wp_seq_k fun K5 hK5 => ?_
  refine Sb 77 rfl ?_  -- 3
  refine S_val (Y_move rfl) ?_
  refine S_call rfl en20 (spec_DrawMarkBounded_c _ _ _ _ _ (by assumption) (by omega) (by omega) (by assumption)) ?_  -- k1 spec.DrawMarkBounded
  rintro v1 w1 ⟨hD1, A1, B1, n11, c11, n21, c21, x1, rfl, hn11, hn21, hz1, hx1, RC1, RR1, g1⟩
  replace hA := hA.grow g1
  replace G := G.grow g1
  have zg1 := g1.size
  subst hn11
  subst hn21
  obtain ⟨h, rfl⟩ : ∃ x, x = hD1 := ⟨_, rfl⟩
  obtain ⟨AD, rfl⟩ : ∃ x, x = A1 := ⟨_, rfl⟩
  obtain ⟨BD, rfl⟩ : ∃ x, x = B1 := ⟨_, rfl⟩
  obtain ⟨cD, rfl⟩ : ∃ x, x = c11 := ⟨_, rfl⟩
  obtain ⟨dD, rfl⟩ : ∃ x, x = c21 := ⟨_, rfl⟩
  have hzD := hz1
  have hzcD := hsize_cells h
  have hzrD := hsize_roots h
  have hDA := RC1.below
  have hDB := RR1.below
  obtain ⟨x, rfl⟩ : ∃ x, x = x1 := ⟨_, rfl⟩
  have hxD := hx1
  have hbl := boundV_len h x
  have hbl2 := boundV_len h 40
  have hrl := reachV_le h
  refine S_val (Y_move rfl) ?_
  refine S_val (Y_extract rfl rfl) ?_
  refine S_val (Y_extract rfl rfl) ?_
  refine S_alloc (cs := [_, _]) zr32 rfl ?_
  intro b2 w2 fb2 g2 B2
  have lb2 := B2.lt
  replace hA := hA.grow g2
  replace hDA := hDA.grow g2
  replace hDB := hDB.grow g2
  replace G := G.grow g2
  have zg2 := g2.size
  refine S_stM (pre := []) (old := [_, _]) (post := []) (vs := [_, _]) sz32 rfl rfl rfl (by first | rfl | assumption) B2 rfl rfl ?_
  intro w3 m3 X3
  replace B2 := Blk.eq (ys := [_, _]) X3 rfl
  clear X3
  replace G := G.abv m3
  replace hA := hA0.grow G
  replace hDA := hDA.md m3
  replace hDB := hDB.md m3
  have zm3 := m3.size
  refine S_val (Y_assign rfl) ?_
  refine S_nl rfl rfl ?_
  refine th_n (hK5 _ _ ?_)
  clear hK5 K5
  refine wp_seq_k fun K6 hK6 => ?_
  refine Sb 77 rfl ?_  -- 4
  refine S_val (Y_loadS Try.underlying32 rfl sz32 rfl (B2.row (by rfl))) ?_  -- l1
  refine S_val (Y_move rfl) ?_
  refine S_call rfl en14 (impl_MarkBounded_c _ _ _ _ _ _ _ _ (by assumption) (by assumption) (by omega)) ?_  -- k2 impl.MarkBounded
  rintro v4 w4 ⟨A4, q4, cap4, rfl, hq4, O4, g4⟩
  replace hA := hA.grow g4
  replace hDA := hDA.grow g4
  replace hDB := hDB.grow g4
  replace G := G.grow g4
  replace B2 := B2.grow g4
  have zg4 := g4.size
  subst hq4
  have hRm := O4.lt.r1
  refine S_val (Y_move rfl) ?_
  refine S_val (Y_extract rfl rfl) ?_
  refine S_val (Y_extract rfl rfl) ?_
  refine S_val (Y_assign rfl) ?_
  refine S_val (Y_assign rfl) ?_
  refine S_nl rfl rfl ?_
  refine th_n (hK6 _ _ ?_)
  clear hK6 K6
  refine wp_seq_k fun K7 hK7 => ?_
  refine Sb 77 rfl ?_  -- 5
  refine S_val (Y_loadS Try.underlying32 rfl sz32 rfl (B2.row (by rfl))) ?_  -- l2
  refine S_val (Y_move rfl) ?_
  refine S_call rfl en12 (spec_MarkBounded_c _ _ _ _ _ _ _ _ (by assumption) (by assumption) (by omega)) ?_  -- k3 spec.MarkBounded
  rintro v5 w5 ⟨A5, q5, cap5, rfl, hq5, O5, g5⟩
  replace hA := hA.grow g5
  replace hDA := hDA.grow g5
  replace hDB := hDB.grow g5
  replace hRm := hRm.grow g5
  replace G := G.grow g5
  replace B2 := B2.grow g5
  have zg5 := g5.size
  subst hq5
  have hRs := O5.lt.r1
  refine S_val (Y_move rfl) ?_
  refine S_val (Y_extract rfl rfl) ?_
  refine S_val (Y_extract rfl rfl) ?_
  refine S_val (Y_assign rfl) ?_
  refine S_val (Y_assign rfl) ?_
  refine S_nl rfl rfl ?_
  refine th_n (hK7 _ _ ?_)
  clear hK7 K7
  refine wp_seq_k fun K8 hK8 => ?_
  refine wp_seq_k fun K9 hK9 => ?_
  refine Sb 77 rfl ?_  -- 6
  refine S_val (Y_move rfl) ?_
  refine S_val (Y_move rfl) ?_
  refine S_call rfl en21 (laws_sameFlags_c _ _ _ _ _ _ _ _ _ (by assumption) (by assumption) (by omega)) ?_  -- k4 laws.sameFlags
  rintro v6 w6 ⟨rfl, g6⟩
  replace hA := hA.grow g6
  replace hDA := hDA.grow g6
  replace hDB := hDB.grow g6
  replace hRm := hRm.grow g6
  replace hRs := hRs.grow g6
  replace G := G.grow g6
  replace B2 := B2.grow g6
  have zg6 := g6.size
  refine S_val (Y_not rfl) ?_
  refine S_val (Y_move rfl) ?_
  refine S_g 35 rfl (fun hb2 => ?_) (fun hb2 => ?_)  -- g1
  · -- g1T
   first | with_reducible (replace hb2 := nb_nt hb2) | with_reducible (replace hb2 := nb_tt hb2) | with_reducible (replace hb2 := nb_bt hb2) | skip
   exact absurd rfl hb2
  · -- g1F
   first | with_reducible (replace hb2 := nb_nf hb2) | with_reducible (replace hb2 := nb_tf hb2) | with_reducible (replace hb2 := nb_bf hb2) | skip
   refine S_on rfl rfl ?_
   refine S_val (Y_move rfl) ?_
   refine S_on rfl rfl ?_
   refine S_val (Y_move rfl) ?_
   refine S_on rfl rfl ?_
   refine S_val (Y_neq rfl rfl) ?_
   refine S_val (Y_pickF rfl rfl) ?_
   refine S_nl rfl rfl ?_
   refine th_n (hK9 _ _ ?_)
   clear hK9 K9
   refine S_if rfl (fun hb3 => ?_) (fun hb3 => ?_)  -- c2
   · -- c2T
    first | with_reducible (replace hb3 := nb_nt hb3) | with_reducible (replace hb3 := nb_tt hb3) | with_reducible (replace hb3 := nb_bt hb3) | skip
    exact absurd rfl hb3
   · -- c2F
    first | with_reducible (replace hb3 := nb_nf hb3) | with_reducible (replace hb3 := nb_tf hb3) | with_reducible (replace hb3 := nb_bf hb3) | skip
    refine wp_skip ?_
    refine th_n (hK8 _ _ ?_)
    clear hK8 K8
    refine wp_seq_k fun K10 hK10 => ?_
    refine wp_seq_k fun K11 hK11 => ?_
    refine Sb 77 rfl ?_  -- 8
    refine S_val (Y_move rfl) ?_
    refine S_val (Y_lss rfl rfl) ?_
    refine S_nl rfl rfl ?_
    refine th_n (hK11 _ _ ?_)
    clear hK11 K11
    refine S_if rfl (fun hb4 => ?_) (fun hb4 => ?_)  -- c3
    · -- c3T
     replace hb4 := nb_tt hb4
     have hbn := boundV_neg hb4
     refine wp_seq_k fun K12 hK12 => ?_
     refine Sb 77 rfl ?_  -- 9
     refine S_val (Y_move rfl) ?_
     refine S_val (Y_eql rfl rfl) ?_
     refine S_val (Y_move rfl) ?_
     refine S_g 44 rfl (fun hb5 => ?_) (fun hb5 => ?_)  -- g2
     · -- g2T
      replace hb5 := nb_tt hb5
      refine S_on rfl rfl ?_
      refine S_val (Y_move rfl) ?_
      refine S_on rfl rfl ?_
      refine S_val (Y_len Try.underlying27 rfl) ?_
      refine S_on rfl rfl ?_
      refine S_val (Y_eql rfl rfl) ?_
      refine S_val (Y_pickT rfl rfl) ?_
      refine S_val (Y_move rfl) ?_
      refine S_g 49 rfl (fun hb6 => ?_) (fun hb6 => ?_)  -- g3
      · -- g3T
       first | with_reducible (replace hb6 := nb_nt hb6) | with_reducible (replace hb6 := nb_tt hb6) | with_reducible (replace hb6 := nb_bt hb6) | skip
       refine S_on rfl rfl ?_
       refine S_call rfl en22 (laws_alive_c _) ?_  -- k5 laws.alive
       rintro v7 w7 ⟨rfl, g7⟩
       replace hA := hA.grow g7
       replace hDA := hDA.grow g7
       replace hDB := hDB.grow g7
       replace hRm := hRm.grow g7
       replace hRs := hRs.grow g7
       replace G := G.grow g7
       replace B2 := B2.grow g7
       have zg7 := g7.size
       refine S_val (Y_pickT rfl rfl) ?_
       refine S_val (Y_assign rfl) ?_
       refine S_nl rfl rfl ?_
       refine th_n (hK12 _ _ ?_)
       clear hK12 K12
       refine wp_ret ?_
       refine th_r ?_
       clear hK10 K10
       refine ret_r1 rfl rfl ?_  -- r2
       first | exact ⟨rfl, G⟩ | exact ⟨vT h401, G⟩
      · -- g3F
       first | with_reducible (replace hb6 := nb_nf hb6) | with_reducible (replace hb6 := nb_tf hb6) | with_reducible (replace hb6 := nb_bf hb6) | skip
       exact absurd (by rw [hbn]; rfl) hb6
     · -- g2F
      replace hb5 := nb_tf hb5
      exact absurd (by rw [hbn]) hb5
    · -- c3F
     replace hb4 := nb_tf hb4
     obtain ⟨va, pl, rfl, hp1, hp40, hbe⟩ := boundV_pos hb4
     have hv9 := valid_iff.2 va
     have h40 := va.le
     have hok := bound_ok va pl
     have hone := bound_one va (pl := 40) (by omega)
     have h401 : (boundV h 40).2 = 1 := by rw [show (40 : Int) = ((40 : Nat) : Int) from rfl, boundV_t hv9 (by decide) (by decide), hone]; rfl
     have hb2 : (boundV h (pl : Int)).2 = (((boundL h pl).2 : Nat) : Int) := by rw [hbe]
     have hb1 : (boundV h (pl : Int)).1 = reachV h := by rw [hbe]; exact hok.1
     refine wp_skip ?_
     refine th_n (hK10 _ _ ?_)
     clear hK10 K10
     refine wp_seq_k fun K13 hK13 => ?_
     refine Sb 77 rfl ?_  -- 10
     refine S_val (Y_loadS Try.underlying32 rfl sz32 rfl (B2.row (by rfl))) ?_  -- l3
     refine S_call rfl en14 (impl_MarkBounded_c _ _ _ h _ _ 40 _ hDA hDB (by omega)) ?_  -- k6 impl.MarkBounded
     rintro v8 w8 ⟨A8, q8, cap8, rfl, hq8, O8, g8⟩
     replace hA := hA.grow g8
     replace hDA := hDA.grow g8
     replace hDB := hDB.grow g8
     replace hRm := hRm.grow g8
     replace hRs := hRs.grow g8
     replace G := G.grow g8
     replace B2 := B2.grow g8
     have zg8 := g8.size
     subst hq8
     have hRo := O8.lt.r1
     refine S_val (Y_move rfl) ?_
     refine S_val (Y_extract rfl rfl) ?_
     refine S_val (Y_extract rfl rfl) ?_
     refine S_val (Y_assign rfl) ?_
     refine S_val (Y_assign rfl) ?_
     refine S_nl rfl rfl ?_
     refine th_n (hK13 _ _ ?_)
     clear hK13 K13
     refine wp_seq_k fun K14 hK14 => ?_
     refine Sb 77 rfl ?_  -- 11
     refine S_val (Y_move rfl) ?_
     refine S_val (Y_loadS Try.underlying32 rfl sz32 rfl (B2.row (by rfl))) ?_  -- l4
     refine S_call rfl en23 (impl_Reachable_c _ _ _ _ _ _ _ (by assumption) (by assumption) (by omega)) ?_  -- k7 impl.Reachable
     rintro v9 w9 ⟨A9, q9, cap9, rfl, hq9, O9, g9⟩
     replace hA := hA.grow g9
     replace hDA := hDA.grow g9
     replace hDB := hDB.grow g9
     replace hRm := hRm.grow g9
     replace hRs := hRs.grow g9
     replace hRo := hRo.grow g9
     replace G := G.grow g9
     replace B2 := B2.grow g9
     have zg9 := g9.size
     subst hq9
     have hRr := O9.lt.r1
     refine S_call rfl en21 (sameFlags_p _ _ _ _ (boundV h (pl : Int)).1 (reachV h) _ _ _ _ _ hRm hRr (by omega) rfl rfl) ?_  -- k8 laws.sameFlags
     rintro v10 w10 ⟨rfl, g10⟩
     replace hA := hA.grow g10
     replace hDA := hDA.grow g10
     replace hDB := hDB.grow g10
     replace hRm := hRm.grow g10
     replace hRs := hRs.grow g10
     replace hRo := hRo.grow g10
     replace hRr := hRr.grow g10
     replace G := G.grow g10
     replace B2 := B2.grow g10
     have zg10 := g10.size
     refine S_val (Y_move rfl) ?_
     refine S_g 61 rfl (fun hb5 => ?_) (fun hb5 => ?_)  -- g4
     · -- g4T
      first | with_reducible (replace hb5 := nb_nt hb5) | with_reducible (replace hb5 := nb_tt hb5) | with_reducible (replace hb5 := nb_bt hb5) | skip
      refine S_on rfl rfl ?_
      refine S_val (Y_move rfl) ?_
      refine S_on rfl rfl ?_
      refine S_val (Y_geq rfl rfl) ?_
      refine S_val (Y_pickT rfl rfl) ?_
      refine S_val (Y_move rfl) ?_
      refine S_g 65 rfl (fun hb6 => ?_) (fun hb6 => ?_)  -- g5
      · -- g5T
       first | with_reducible (replace hb6 := nb_nt hb6) | with_reducible (replace hb6 := nb_tt hb6) | with_reducible (replace hb6 := nb_bt hb6) | skip
       refine S_on rfl rfl ?_
       refine S_val (Y_move rfl) ?_
       refine S_on rfl rfl ?_
       refine S_val (Y_field Try.underlying32 rfl fz32_0 (by decide) rfl) ?_
       refine S_on rfl rfl ?_
       refine S_val (Y_load Try.underlying30 rfl rfl (B2.at (by rfl))) ?_  -- l5
       refine S_on rfl rfl ?_
       refine S_val (Y_len Try.underlying30 rfl) ?_
       refine S_on rfl rfl ?_
       refine S_val (Y_inc rfl rfl (by omega)) ?_
       refine S_on rfl rfl ?_
       refine S_val (Y_leq rfl rfl) ?_
       refine S_val (Y_pickT rfl rfl) ?_
       refine S_val (Y_move rfl) ?_
       refine S_g 73 rfl (fun hb7 => ?_) (fun hb7 => ?_)  -- g6
       · -- g6T
        first | with_reducible (replace hb7 := nb_nt hb7) | with_reducible (replace hb7 := nb_tt hb7) | with_reducible (replace hb7 := nb_bt hb7) | skip
        refine S_on rfl rfl ?_
        refine S_val (Y_move rfl) ?_
        refine S_on rfl rfl ?_
        refine S_val (Y_eql rfl rfl) ?_
        refine S_val (Y_pickT rfl rfl) ?_
        refine S_val (Y_assign rfl) ?_
        refine S_nl rfl rfl ?_
        refine th_n (hK14 _ _ ?_)
        clear hK14 K14
        refine wp_ret ?_
        refine ret_r1 rfl rfl ?_  -- r3
        first | exact ⟨rfl, G⟩ | exact ⟨vT h401, G⟩
       · -- g6F
        first | with_reducible (replace hb7 := nb_nf hb7) | with_reducible (replace hb7 := nb_tf hb7) | with_reducible (replace hb7 := nb_bf hb7) | skip
        omega
      · -- g5F
       first | with_reducible (replace hb6 := nb_nf hb6) | with_reducible (replace hb6 := nb_tf hb6) | with_reducible (replace hb6 := nb_bf hb6) | skip
       omega
     · -- g4F
      first | with_reducible (replace hb5 := nb_nf hb5) | with_reducible (replace hb5 := nb_tf hb5) | with_reducible (replace hb5 := nb_bf hb5) | skip
      exact absurd hb1 hb5

end Go.Proofs.Ytikgflhepclfgac
