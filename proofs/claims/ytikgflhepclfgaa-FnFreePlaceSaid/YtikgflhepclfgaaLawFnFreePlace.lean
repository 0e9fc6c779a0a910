/-
  The law FnFreePlace returns true.
  Conditions: those that each theorem states.
-/
import Derived.Test.YtikgflhepclfgaaQb5
set_option linter.unusedVariables false
set_option linter.unusedSimpArgs false
namespace Go.Proofs.Ytikgflhepclfgaa
open Go Go.RowKit
attribute [local irreducible] wpList wpAnyH Code.wp dOp

set_option maxHeartbeats 400000 in
set_option maxRecDepth 20000 in
theorem laws_FnFreePlace_c (Pr : Nat → Prop) (A : Option Addr) (xs : List Int) (c : Nat) (w : World) (hA : R1 Pr w A (u8s xs)) (hn : xs.length ≤ 9223372036854775807) (hcap : xs.length ≤ c) (hrg : ∀ y ∈ xs, 0 ≤ y ∧ y ≤ 255) :
    Calls Try.prog 5 #[.slice A xs.length c] w (Ret fun v w' => v = .bool true ∧ Grow w w') := by
 refine enter Try.func5 rfl Try.ntmps5 (L := [_,_,_,_,_,_,_,_,_,_,_,_,_,_,_,_,_,_,_,_,_,_,_,_,_,_,_,_,_,_,_,_,_,_,_,_,_,_,_,_,_,_,_,_,_,_,_,_,_,_,_,_,_,_,_,_,_,_,_,_,_,_,_,_]) rfl ?_
 have G := Mod.refl No w
 have hA0 := hA
 refine wp_seq_k fun K1 hK1 => ?_
 refine Sb 64 rfl ?_  -- 0
 refine S_val (Y_assign rfl) ?_
 refine S_nl rfl rfl ?_
 refine th_n (hK1 _ _ ?_)
 clear hK1 K1
 refine wp_seq_k fun K2 hK2 => ?_
 refine wp_seq_k fun K3 hK3 => ?_
 refine Sb 64 rfl ?_  -- 1
 refine S_val (Y_move rfl) ?_
 refine S_val (Y_len Try.underlying22 rfl) ?_
 refine S_val (Y_gtr rfl rfl) ?_
 refine S_nl rfl rfl ?_
 refine th_n (hK3 _ _ ?_)
 clear hK3 K3
 refine S_if rfl (fun hb1 => ?_) (fun hb1 => ?_)  -- c1
 · -- c1T
  replace hb1 := nb_tt hb1
  refine wp_seq_k fun K4 hK4 => ?_
  refine Sb 64 rfl ?_  -- 2
  refine S_val (Y_assign rfl) ?_
  refine S_nl rfl rfl ?_
  refine th_n (hK4 _ _ ?_)
  clear hK4 K4
  refine wp_ret ?_
  refine th_r ?_
  clear hK2 K2
  refine ret_r1 rfl rfl ?_  -- r1
  first | exact ⟨rfl, G⟩ | exact ⟨vN hfr, G⟩
 · -- c1F
  replace hb1 := nb_tf hb1
  have hx : xs.length ≤ 1048576 := by omega
  refine wp_skip ?_
  refine th_n (hK2 _ _ ?_)
  clear hK2 K2
  refine wp_seq_k fun K5 hK5 => ?_
  refine Sb 64 rfl ?_  -- 3
  refine S_val (Y_move rfl) ?_
  refine S_call rfl en22 (spec_DrawFreePlace_c _ _ _ _ _ (by assumption) (by omega) (by omega) (by assumption)) ?_  -- k1 spec.DrawFreePlace
  rintro v1 w1 ⟨hD1, A1, B1, n11, c11, n21, c21, rfl, hn11, hn21, hz1, RC1, RR1, g1⟩
  replace hA := hA.grow g1
  replace G := G.grow g1
  have zg1 := g1.size
  subst hn11
  subst hn21
  obtain ⟨h, rfl⟩ : ∃ x, x = hD1 := ⟨_, rfl⟩
  obtain ⟨AD, rfl⟩ : ∃ x, x = A1 := ⟨_, rfl⟩
  obtain ⟨BD, rfl⟩ : ∃ x, x = B1 := ⟨_, rfl⟩
  obtain ⟨cD, rfl⟩ : ∃ x, x = c11 := ⟨_, rfl⟩
  obtain ⟨dD, rfl⟩ : ∃ x, x = c21 := ⟨_, rfl⟩
  have hzD := hz1
  have hzcD := hsize_cells h
  have hzrD := hsize_roots h
  have hDA := RC1.below
  have hDB := RR1.below
  refine S_alloc (cs := [_, _]) zr35 rfl ?_
  intro b2 w2 fb2 g2 B2
  have lb2 := B2.lt
  replace hA := hA.grow g2
  replace hDA := hDA.grow g2
  replace hDB := hDB.grow g2
  replace G := G.grow g2
  have zg2 := g2.size
  refine S_stM (pre := []) (old := [_, _]) (post := []) (vs := [_, _]) sz35 rfl rfl rfl (by first | rfl | assumption) B2 rfl rfl ?_
  intro w3 m3 X3
  replace B2 := Blk.eq (ys := [_, _]) X3 rfl
  clear X3
  replace G := G.abv m3
  replace hA := hA0.grow G
  replace hDA := hDA.md m3
  replace hDB := hDB.md m3
  have zm3 := m3.size
  refine S_nl rfl rfl ?_
  refine th_n (hK5 _ _ ?_)
  clear hK5 K5
  refine wp_seq_k fun K6 hK6 => ?_
  refine Sb 64 rfl ?_  -- 4
  refine S_val (Y_loadS Try.underlying35 rfl sz35 rfl (B2.row (by rfl))) ?_  -- l1
  refine S_call rfl en23 (impl_FreePlace_c _ _ _ _ _ _ _ (by assumption) (by assumption) (by omega)) ?_  -- k2 impl.FreePlace
  rintro v4 w4 ⟨rfl, g4⟩
  replace hA := hA.grow g4
  replace hDA := hDA.grow g4
  replace hDB := hDB.grow g4
  replace G := G.grow g4
  replace B2 := B2.grow g4
  have zg4 := g4.size
  refine S_val (Y_assign rfl) ?_
  refine S_nl rfl rfl ?_
  refine th_n (hK6 _ _ ?_)
  clear hK6 K6
  refine wp_seq_k fun K7 hK7 => ?_
  refine wp_seq_k fun K8 hK8 => ?_
  refine Sb 64 rfl ?_  -- 5
  refine S_val (Y_move rfl) ?_
  refine S_val (Y_loadS Try.underlying35 rfl sz35 rfl (B2.row (by rfl))) ?_  -- l2
  refine S_call rfl en24 (spec_FreePlace_c _ _ _ _ _ _ _ (by assumption) (by assumption) (by omega)) ?_  -- k3 spec.FreePlace
  rintro v5 w5 ⟨rfl, g5⟩
  replace hA := hA.grow g5
  replace hDA := hDA.grow g5
  replace hDB := hDB.grow g5
  replace G := G.grow g5
  replace B2 := B2.grow g5
  have zg5 := g5.size
  refine S_val (Y_neq rfl rfl) ?_
  refine S_nl rfl rfl ?_
  refine th_n (hK8 _ _ ?_)
  clear hK8 K8
  refine S_if rfl (fun hb2 => ?_) (fun hb2 => ?_)  -- c2
  · -- c2T
   replace hb2 := nb_nt hb2
   exact absurd rfl hb2
  · -- c2F
   replace hb2 := nb_nf hb2
   refine wp_skip ?_
   refine th_n (hK7 _ _ ?_)
   clear hK7 K7
   refine wp_seq_k fun K9 hK9 => ?_
   refine wp_seq_k fun K10 hK10 => ?_
   refine Sb 64 rfl ?_  -- 7
   refine S_val (Y_move rfl) ?_
   refine S_val (Y_lss rfl rfl) ?_
   refine S_nl rfl rfl ?_
   refine th_n (hK10 _ _ ?_)
   clear hK10 K10
   refine S_if rfl (fun hb3 => ?_) (fun hb3 => ?_)  -- c3
   · -- c3T
    replace hb3 := nb_tt hb3
    refine wp_seq_k fun K11 hK11 => ?_
    refine Sb 64 rfl ?_  -- 8
    refine S_val (Y_move rfl) ?_
    refine S_val (Y_eql rfl rfl) ?_
    refine S_val (Y_move rfl) ?_
    refine S_g 21 rfl (fun hb4 => ?_) (fun hb4 => ?_)  -- g1
    · -- g1T
     replace hb4 := nb_tt hb4
     refine S_on rfl rfl ?_
     refine S_call rfl en18 (laws_alive_c _) ?_  -- k4 laws.alive
     rintro v6 w6 ⟨rfl, g6⟩
     replace hA := hA.grow g6
     replace hDA := hDA.grow g6
     replace hDB := hDB.grow g6
     replace G := G.grow g6
     replace B2 := B2.grow g6
     have zg6 := g6.size
     refine S_val (Y_pickT rfl rfl) ?_
     refine S_val (Y_assign rfl) ?_
     refine S_nl rfl rfl ?_
     refine th_n (hK11 _ _ ?_)
     clear hK11 K11
     refine wp_ret ?_
     refine th_r ?_
     clear hK9 K9
     refine ret_r1 rfl rfl ?_  -- r2
     first | exact ⟨rfl, G⟩ | exact ⟨vN hfr, G⟩
    · -- g1F
     replace hb4 := nb_tf hb4
     have := free_neg (by assumption : freeV h < 0); omega
   · -- c3F
    replace hb3 := nb_tf hb3
    have hq := free_pos hb3
    rw [hq]
    have hpl := place_le h.cells
    refine wp_skip ?_
    refine th_n (hK9 _ _ ?_)
    clear hK9 K9
    refine wp_seq_k fun K12 hK12 => ?_
    refine wp_seq_k fun K13 hK13 => ?_
    refine Sb 64 rfl ?_  -- 9
    refine S_val (Y_assign rfl) ?_
    refine S_nl rfl rfl ?_
    refine th_n (hK13 _ _ ?_)
    clear hK13 K13
    refine wp_block ?_
    go_loopw [5] (fun u5 wr => (∃ k : Nat, u5 = .int .i64 k ∧ k ≤ placeN h.cells) ∧ Mod No w5 wr) (fun u5 wr => placeN h.cells - (intOf u5).toNat)  -- L1
    case atStart =>
     refine ⟨?_, Mod.refl _ _⟩
     exact ⟨0, rfl, by omega⟩
    case round =>
     obtain ⟨w7, rfl⟩ : ∃ x : World, x = wr := ⟨_, rfl⟩
     obtain ⟨hrel, g7⟩ := hrel
     replace hA := hA.grow g7
     replace hDA := hDA.grow g7
     replace hDB := hDB.grow g7
     replace G := G.grow g7
     replace B2 := B2.grow g7
     have zg7 := g7.size
     obtain ⟨k, rfl, hk⟩ := hrel
     have GL7 := g7
     refine wp_seq_k fun K14 hK14 => ?_
     refine wp_seq_k fun K15 hK15 => ?_
     refine Sb 64 rfl ?_  -- 10
     refine S_val (Y_move rfl) ?_
     refine S_val (Y_move rfl) ?_
     refine S_val (Y_lss rfl rfl) ?_
     refine S_val (Y_move rfl) ?_
     refine S_g 27 rfl (fun hb4 => ?_) (fun hb4 => ?_)  -- g2
     · -- g2T
      replace hb4 := nb_tt hb4
      refine S_on rfl rfl ?_
      refine S_val (Y_move rfl) ?_
      refine S_on rfl rfl ?_
      refine S_val (Y_field Try.underlying35 rfl fz35_0 (by decide) rfl) ?_
      refine S_on rfl rfl ?_
      refine S_val (Y_load Try.underlying32 rfl rfl (B2.at (by rfl))) ?_  -- l3
      refine S_on rfl rfl ?_
      refine S_val (Y_len Try.underlying32 rfl) ?_
      refine S_on rfl rfl ?_
      refine S_val (Y_lss rfl rfl) ?_
      refine S_val (Y_pickT rfl rfl) ?_
      refine S_nl rfl rfl ?_
      refine th_n (hK15 _ _ ?_)
      clear hK15 K15
      refine S_if rfl (fun hb5 => ?_) (fun hb5 => ?_)  -- c4
      · -- c4T
       first | with_reducible (replace hb5 := nb_nt hb5) | with_reducible (replace hb5 := nb_tt hb5) | with_reducible (replace hb5 := nb_bt hb5) | skip
       have hk1 : k < h.cells.length := by omega
       obtain ⟨g2, o2, E2, d2, rfl, hp2, cc2, _⟩ := hDA.cell hk1
       refine wp_skip ?_
       refine th_n (hK14 _ _ ?_)
       clear hK14 K14
       refine wp_seq_k fun K16 hK16 => ?_
       refine wp_block ?_
       refine wp_seq_k fun K17 hK17 => ?_
       refine Sb 64 rfl ?_  -- 12
       refine S_val (Y_field Try.underlying35 rfl fz35_0 (by decide) rfl) ?_
       refine S_val (Y_load Try.underlying32 rfl rfl (B2.at (by rfl))) ?_  -- l4
       refine S_val (Y_move rfl) ?_
       refine S_val (Y_index Try.underlying32 sz39 rfl rfl (by first | assumption | omega)) ?_
       refine S_val (Y_field Try.underlying39 rfl fz39_0 (by decide) rfl) ?_
       refine S_val (Y_load Try.underlying4 rfl rfl (by first | assumption | exact cc2.at (by rfl) | exact B2.at (by rfl))) ?_  -- l5
       refine S_val (Y_not rfl) ?_
       refine S_nl rfl rfl ?_
       refine th_n (hK17 _ _ ?_)
       clear hK17 K17
       refine S_if rfl (fun hb6 => ?_) (fun hb6 => ?_)  -- c5
       · -- c5T
        first | with_reducible (replace hb6 := nb_nt hb6) | with_reducible (replace hb6 := nb_tt hb6) | with_reducible (replace hb6 := nb_bt hb6) | skip
        have h9 := place_used hk1 (by omega); rw [h9] at hb6; cases hb6
       · -- c5F
        first | with_reducible (replace hb6 := nb_nf hb6) | with_reducible (replace hb6 := nb_tf hb6) | with_reducible (replace hb6 := nb_bf hb6) | skip
        refine wp_skip ?_
        refine ib_n ?_
        refine th_n (hK16 _ _ ?_)
        clear hK16 K16
        refine Sb 64 rfl ?_  -- 11
        refine S_val (Y_move rfl) ?_
        refine S_val (Y_inc rfl rfl (by omega)) ?_
        refine S_val (Y_assign rfl) ?_
        refine S_nl rfl rfl ?_
        refine th_n ?_
        go_roundw  -- e1 of L1
        case rel =>
         refine ⟨?_, GL7⟩
         exact ⟨k + 1, rfl, by omega⟩
        case measure =>
         exact dec_nat (by omega)
      · -- c4F
       first | with_reducible (replace hb5 := nb_nf hb5) | with_reducible (replace hb5 := nb_tf hb5) | with_reducible (replace hb5 := nb_bf hb5) | skip
       refine wp_exit ?_
       refine th_x ?_
       try clear GL7
       refine th_x ?_
       refine ib_e ?_
       refine th_n (hK12 _ _ ?_)
       clear hK14 K14 hK12 K12
       refine wp_seq_k fun K18 hK18 => ?_
       refine Sb 64 rfl ?_  -- 14
       refine S_val (Y_move rfl) ?_
       refine S_val (Y_field Try.underlying35 rfl fz35_0 (by decide) rfl) ?_
       refine S_val (Y_load Try.underlying32 rfl rfl (B2.at (by rfl))) ?_  -- l6
       refine S_val (Y_len Try.underlying32 rfl) ?_
       refine S_val (Y_eql rfl rfl) ?_
       refine S_val (Y_move rfl) ?_
       refine S_g 48 rfl (fun hb6 => ?_) (fun hb6 => ?_)  -- g3
       · -- g3T
        replace hb6 := nb_tt hb6
        refine S_off rfl rfl ?_
        refine S_off rfl rfl ?_
        refine S_off rfl rfl ?_
        refine S_off rfl rfl ?_
        refine S_off rfl rfl ?_
        refine S_off rfl rfl ?_
        refine S_offU rfl rfl ?_
        refine S_offU rfl rfl ?_
        refine S_offU rfl rfl ?_
        refine S_offU rfl rfl ?_
        refine S_offU rfl rfl ?_
        refine S_offU rfl rfl ?_
        refine S_offU rfl rfl ?_
        refine S_off rfl rfl ?_
        refine S_val (Y_pickT rfl rfl) ?_
        refine S_val (Y_assign rfl) ?_
        refine S_nl rfl rfl ?_
        refine th_n (hK18 _ _ ?_)
        clear hK18 K18
        refine wp_ret ?_
        refine ret_r1 rfl rfl ?_  -- r3
        first | exact ⟨rfl, G⟩ | exact ⟨vN hfr, G⟩
       · -- g3F
        replace hb6 := nb_tf hb6
        refine S_on rfl rfl ?_
        refine S_val (Y_move rfl) ?_
        refine S_on rfl rfl ?_
        refine S_val (Y_field Try.underlying35 rfl fz35_0 (by decide) rfl) ?_
        refine S_on rfl rfl ?_
        refine S_val (Y_load Try.underlying32 rfl rfl (B2.at (by rfl))) ?_  -- l7
        refine S_on rfl rfl ?_
        refine S_val (Y_len Try.underlying32 rfl) ?_
        refine S_on rfl rfl ?_
        refine S_val (Y_lss rfl rfl) ?_
        refine S_on rfl rfl ?_
        refine S_val (Y_move rfl) ?_
        refine S_g 54 rfl (fun hb7 => ?_) (fun hb7 => ?_)  -- g4
        · -- g4T
         replace hb7 := nb_tt hb7
         have hp1 : placeN h.cells < h.cells.length := by omega
         obtain ⟨g2, o2, E2, d2, rfl, hp2, cc2, _⟩ := hDA.cell hp1
         have hfr := place_free hp1
         refine S_on rfl rfl ?_
         refine S_val (Y_field Try.underlying35 rfl fz35_0 (by decide) rfl) ?_
         refine S_on rfl rfl ?_
         refine S_val (Y_load Try.underlying32 rfl rfl (B2.at (by rfl))) ?_  -- l8
         refine S_on rfl rfl ?_
         refine S_val (Y_move rfl) ?_
         refine S_on rfl rfl ?_
         refine S_val (Y_index Try.underlying32 sz39 rfl rfl (by first | assumption | omega)) ?_
         refine S_on rfl rfl ?_
         refine S_val (Y_field Try.underlying39 rfl fz39_0 (by decide) rfl) ?_
         refine S_on rfl rfl ?_
         refine S_val (Y_load Try.underlying4 rfl rfl (by first | assumption | exact cc2.at (by rfl) | exact B2.at (by rfl))) ?_  -- l9
         refine S_on rfl rfl ?_
         refine S_val (Y_not rfl) ?_
         refine S_on rfl rfl ?_
         refine S_val (Y_pickT rfl rfl) ?_
         refine S_val (Y_pickF rfl rfl) ?_
         refine S_val (Y_assign rfl) ?_
         refine S_nl rfl rfl ?_
         refine th_n (hK18 _ _ ?_)
         clear hK18 K18
         refine wp_ret ?_
         refine ret_r1 rfl rfl ?_  -- r4
         first | exact ⟨rfl, G⟩ | exact ⟨vN hfr, G⟩
        · -- g4F
         replace hb7 := nb_tf hb7
         omega
     · -- g2F
      replace hb4 := nb_tf hb4
      refine S_off rfl rfl ?_
      refine S_off rfl rfl ?_
      refine S_off rfl rfl ?_
      refine S_off rfl rfl ?_
      refine S_off rfl rfl ?_
      refine S_val (Y_pickF rfl rfl) ?_
      refine S_nl rfl rfl ?_
      refine th_n (hK15 _ _ ?_)
      clear hK15 K15
      refine S_ifF rfl ?_
      refine wp_exit ?_
      refine th_x ?_
      try clear GL7
      refine th_x ?_
      refine ib_e ?_
      refine th_n (hK12 _ _ ?_)
      clear hK14 K14 hK12 K12
      refine wp_seq_k fun K19 hK19 => ?_
      refine Sb 64 rfl ?_  -- 14
      refine S_val (Y_move rfl) ?_
      refine S_val (Y_field Try.underlying35 rfl fz35_0 (by decide) rfl) ?_
      refine S_val (Y_load Try.underlying32 rfl rfl (B2.at (by rfl))) ?_  -- l10
      refine S_val (Y_len Try.underlying32 rfl) ?_
      refine S_val (Y_eql rfl rfl) ?_
      refine S_val (Y_move rfl) ?_
      refine S_g 48 rfl (fun hb5 => ?_) (fun hb5 => ?_)  -- g5
      · -- g5T
       replace hb5 := nb_tt hb5
       refine S_off rfl rfl ?_
       refine S_off rfl rfl ?_
       refine S_off rfl rfl ?_
       refine S_off rfl rfl ?_
       refine S_off rfl rfl ?_
       refine S_off rfl rfl ?_
       refine S_offU rfl rfl ?_
       refine S_offU rfl rfl ?_
       refine S_offU rfl rfl ?_
       refine S_offU rfl rfl ?_
       refine S_offU rfl rfl ?_
       refine S_offU rfl rfl ?_
       refine S_offU rfl rfl ?_
       refine S_off rfl rfl ?_
       refine S_val (Y_pickT rfl rfl) ?_
       refine S_val (Y_assign rfl) ?_
       refine S_nl rfl rfl ?_
       refine th_n (hK19 _ _ ?_)
       clear hK19 K19
       refine wp_ret ?_
       refine ret_r1 rfl rfl ?_  -- r5
       first | exact ⟨rfl, G⟩ | exact ⟨vN hfr, G⟩
      · -- g5F
       replace hb5 := nb_tf hb5
       refine S_on rfl rfl ?_
       refine S_val (Y_move rfl) ?_
       refine S_on rfl rfl ?_
       refine S_val (Y_field Try.underlying35 rfl fz35_0 (by decide) rfl) ?_
       refine S_on rfl rfl ?_
       refine S_val (Y_load Try.underlying32 rfl rfl (B2.at (by rfl))) ?_  -- l11
       refine S_on rfl rfl ?_
       refine S_val (Y_len Try.underlying32 rfl) ?_
       refine S_on rfl rfl ?_
       refine S_val (Y_lss rfl rfl) ?_
       refine S_on rfl rfl ?_
       refine S_val (Y_move rfl) ?_
       refine S_g 54 rfl (fun hb6 => ?_) (fun hb6 => ?_)  -- g6
       · -- g6T
        replace hb6 := nb_tt hb6
        have hp1 : placeN h.cells < h.cells.length := by omega
        obtain ⟨g2, o2, E2, d2, rfl, hp2, cc2, _⟩ := hDA.cell hp1
        have hfr := place_free hp1
        refine S_on rfl rfl ?_
        refine S_val (Y_field Try.underlying35 rfl fz35_0 (by decide) rfl) ?_
        refine S_on rfl rfl ?_
        refine S_val (Y_load Try.underlying32 rfl rfl (B2.at (by rfl))) ?_  -- l12
        refine S_on rfl rfl ?_
        refine S_val (Y_move rfl) ?_
        refine S_on rfl rfl ?_
        refine S_val (Y_index Try.underlying32 sz39 rfl rfl (by first | assumption | omega)) ?_
        refine S_on rfl rfl ?_
        refine S_val (Y_field Try.underlying39 rfl fz39_0 (by decide) rfl) ?_
        refine S_on rfl rfl ?_
        refine S_val (Y_load Try.underlying4 rfl rfl (by first | assumption | exact cc2.at (by rfl) | exact B2.at (by rfl))) ?_  -- l13
        refine S_on rfl rfl ?_
        refine S_val (Y_not rfl) ?_
        refine S_on rfl rfl ?_
        refine S_val (Y_pickT rfl rfl) ?_
        refine S_val (Y_pickF rfl rfl) ?_
        refine S_val (Y_assign rfl) ?_
        refine S_nl rfl rfl ?_
        refine th_n (hK19 _ _ ?_)
        clear hK19 K19
        refine wp_ret ?_
        refine ret_r1 rfl rfl ?_  -- r6
        first | exact ⟨rfl, G⟩ | exact ⟨vN hfr, G⟩
       · -- g6F
        replace hb6 := nb_tf hb6
        omega

end Go.Proofs.Ytikgflhepclfgaa
