/-
  The law FnDeadCycle returns true.
  Conditions: those that each theorem states.
-/
import Derived.Test.YtikgflhepclfgabQb5
set_option linter.unusedVariables false
set_option linter.unusedSimpArgs false
namespace Go.Proofs.Ytikgflhepclfgab
open Go Go.RowKit
attribute [local irreducible] wpList wpAnyH Code.wp dOp

set_option maxHeartbeats 1000000 in
set_option maxRecDepth 20000 in
theorem laws_FnDeadCycle_c (Pr : Nat → Prop) (A : Option Addr) (xs : List Int) (c : Nat) (w : World) (hA : R1 Pr w A (u8s xs)) (hn : xs.length ≤ 9223372036854775807) (hcap : xs.length ≤ c) (hrg : ∀ y ∈ xs, 0 ≤ y ∧ y ≤ 255) :
    Calls Try.prog 11 #[.slice A xs.length c] w (Ret fun v w' => v = .bool true ∧ Grow w w') := by
 refine enter Try.func11 rfl Try.ntmps11 (L := [_,_,_,_,_,_,_,_,_,_,_,_,_,_,_,_,_,_,_,_,_,_,_,_,_,_,_,_,_,_,_,_,_,_,_,_,_,_,_,_,_,_,_,_,_,_,_,_,_,_,_,_,_,_,_,_,_,_,_,_,_,_,_,_,_,_,_,_,_,_,_,_,_,_,_,_,_,_,_,_,_,_,_,_,_,_,_,_,_,_,_,_,_,_,_,_,_,_,_,_,_,_,_,_,_,_,_]) rfl ?_
 have G := Mod.refl No w
 have hA0 := hA
 refine wp_seq_k fun K1 hK1 => ?_
 refine Sb 107 rfl ?_  -- 0
 refine S_val (Y_assign rfl) ?_
 refine S_nl rfl rfl ?_
 refine th_n (hK1 _ _ ?_)
 clear hK1 K1
 refine wp_seq_k fun K2 hK2 => ?_
 refine wp_seq_k fun K3 hK3 => ?_
 refine Sb 107 rfl ?_  -- 1
 refine S_val (Y_move rfl) ?_
 refine S_val (Y_len Try.underlying22 rfl) ?_
 refine S_val (Y_gtr rfl rfl) ?_
 refine S_nl rfl rfl ?_
 refine th_n (hK3 _ _ ?_)
 clear hK3 K3
 refine S_if rfl (fun hb1 => ?_) (fun hb1 => ?_)  -- c1
 · -- c1T
  replace hb1 := nb_tt hb1
  refine wp_seq_k fun K4 hK4 => ?_
  refine Sb 107 rfl ?_  -- 2
  refine S_val (Y_assign rfl) ?_
  refine S_nl rfl rfl ?_
  refine th_n (hK4 _ _ ?_)
  clear hK4 K4
  refine wp_ret ?_
  refine th_r ?_
  clear hK2 K2
  refine ret_r1 rfl rfl ?_  -- r1
  exact ⟨rfl, G⟩
 · -- c1F
  replace hb1 := nb_tf hb1
  have hx : xs.length ≤ 1048576 := by omega
  refine wp_skip ?_
  refine th_n (hK2 _ _ ?_)
  clear hK2 K2
  refine wp_seq_k fun K5 hK5 => ?_
  refine Sb 107 rfl ?_  -- 3
  refine S_val (Y_move rfl) ?_
  refine S_call rfl en50 (spec_DrawDeadCycle_c _ _ _ _ _ (by assumption) (by omega) (by omega) (by assumption)) ?_  -- k1 spec.DrawDeadCycle
  rintro v1 w1 ⟨hD1, A1, B1, n11, c11, n21, c21, x1, rfl, hn11, hn21, hz1, hx1, RC1, RR1, g1⟩
  replace hA := hA.grow g1
  replace G := G.grow g1
  have zg1 := g1.size
  subst hn11
  subst hn21
  obtain ⟨h, rfl⟩ : ∃ x, x = hD1 := ⟨_, rfl⟩
  obtain ⟨AD, rfl⟩ : ∃ x, x = A1 := ⟨_, rfl⟩
  obtain ⟨BD, rfl⟩ : ∃ x, x = B1 := ⟨_, rfl⟩
  obtain ⟨cD, rfl⟩ : ∃ x, x = c11 := ⟨_, rfl⟩
  obtain ⟨dD, rfl⟩ : ∃ x, x = c21 := ⟨_, rfl⟩
  have hzD := hz1
  have hzcD := hsize_cells h
  have hzrD := hsize_roots h
  have hDA := RC1.below
  have hDB := RR1.below
  obtain ⟨x, rfl⟩ : ∃ x, x = x1 := ⟨_, rfl⟩
  have hxD := hx1
  have hx64 : -9223372036854775808 ≤ x ∧ x ≤ 9223372036854775807 := by omega
  have hdl := deadV_len h x
  have hfl := fromV_len h x
  have hrl := reachV_le h
  refine S_val (Y_move rfl) ?_
  refine S_val (Y_extract rfl rfl) ?_
  refine S_val (Y_extract rfl rfl) ?_
  refine S_alloc (cs := [_, _]) zr26 rfl ?_
  intro b2 w2 fb2 g2 B2
  have lb2 := B2.lt
  replace hA := hA.grow g2
  replace hDA := hDA.grow g2
  replace hDB := hDB.grow g2
  replace G := G.grow g2
  have zg2 := g2.size
  refine S_stM (pre := []) (old := [_, _]) (post := []) (vs := [_, _]) sz26 rfl rfl rfl (by first | rfl | assumption) B2 rfl rfl ?_
  intro w3 m3 X3
  replace B2 := Blk.eq (ys := [_, _]) X3 rfl
  clear X3
  replace G := G.abv m3
  replace hA := hA0.grow G
  replace hDA := hDA.md m3
  replace hDB := hDB.md m3
  have zm3 := m3.size
  refine S_val (Y_assign rfl) ?_
  refine S_nl rfl rfl ?_
  refine th_n (hK5 _ _ ?_)
  clear hK5 K5
  refine wp_seq_k fun K6 hK6 => ?_
  refine Sb 107 rfl ?_  -- 4
  refine S_val (Y_loadS Try.underlying26 rfl sz26 rfl (B2.row (by rfl))) ?_  -- l1
  refine S_val (Y_move rfl) ?_
  refine S_call rfl en51 (impl_DeadCycle_c _ _ _ _ _ _ _ _ (by assumption) (by assumption) (by omega)) ?_  -- k2 impl.DeadCycle
  rintro v4 w4 ⟨A4, q4, cap4, rfl, hq4, O4, g4⟩
  replace hA := hA.grow g4
  replace hDA := hDA.grow g4
  replace hDB := hDB.grow g4
  replace G := G.grow g4
  replace B2 := B2.grow g4
  have zg4 := g4.size
  subst hq4
  have hRx := O4.lt.r1
  refine S_val (Y_assign rfl) ?_
  refine S_nl rfl rfl ?_
  refine th_n (hK6 _ _ ?_)
  clear hK6 K6
  refine wp_seq_k fun K7 hK7 => ?_
  refine wp_seq_k fun K8 hK8 => ?_
  refine Sb 107 rfl ?_  -- 5
  refine S_val (Y_move rfl) ?_
  refine S_val (Y_loadS Try.underlying26 rfl sz26 rfl (B2.row (by rfl))) ?_  -- l2
  refine S_val (Y_move rfl) ?_
  refine S_call rfl en52 (spec_DeadCycle_c _ _ _ _ _ _ _ _ (by assumption) (by assumption) (by omega) (by assumption)) ?_  -- k3 spec.DeadCycle
  rintro v5 w5 ⟨A5, q5, cap5, rfl, hq5, O5, g5⟩
  replace hA := hA.grow g5
  replace hDA := hDA.grow g5
  replace hDB := hDB.grow g5
  replace hRx := hRx.grow g5
  replace G := G.grow g5
  replace B2 := B2.grow g5
  have zg5 := g5.size
  subst hq5
  have hRs := O5.lt.r1
  refine S_call rfl en32 (laws_sameFlags_c _ _ _ _ _ _ _ _ _ (by assumption) (by assumption) (by omega)) ?_  -- k4 laws.sameFlags
  rintro v6 w6 ⟨rfl, g6⟩
  replace hA := hA.grow g6
  replace hDA := hDA.grow g6
  replace hDB := hDB.grow g6
  replace hRx := hRx.grow g6
  replace hRs := hRs.grow g6
  replace G := G.grow g6
  replace B2 := B2.grow g6
  have zg6 := g6.size
  refine S_val (Y_not rfl) ?_
  refine S_nl rfl rfl ?_
  refine th_n (hK8 _ _ ?_)
  clear hK8 K8
  refine S_if rfl (fun hb2 => ?_) (fun hb2 => ?_)  -- c2
  · -- c2T
   first | with_reducible (replace hb2 := nb_nt hb2) | with_reducible (replace hb2 := nb_tt hb2) | with_reducible (replace hb2 := nb_bt hb2) | skip
   exact absurd rfl hb2
  · -- c2F
   first | with_reducible (replace hb2 := nb_nf hb2) | with_reducible (replace hb2 := nb_tf hb2) | with_reducible (replace hb2 := nb_bf hb2) | skip
   refine wp_skip ?_
   refine th_n (hK7 _ _ ?_)
   clear hK7 K7
   refine wp_seq_k fun K9 hK9 => ?_
   refine wp_seq_k fun K10 hK10 => ?_
   refine Sb 107 rfl ?_  -- 7
   refine S_val (Y_move rfl) ?_
   refine S_val (Y_len Try.underlying32 rfl) ?_
   refine S_val (Y_eql rfl rfl) ?_
   refine S_nl rfl rfl ?_
   refine th_n (hK10 _ _ ?_)
   clear hK10 K10
   refine S_if rfl (fun hb3 => ?_) (fun hb3 => ?_)  -- c3
   · -- c3T
    replace hb3 := nb_tt hb3
    refine wp_seq_k fun K11 hK11 => ?_
    refine Sb 107 rfl ?_  -- 8
    refine S_call rfl en20 (laws_alive_c _) ?_  -- k5 laws.alive
    rintro v7 w7 ⟨rfl, g7⟩
    replace hA := hA.grow g7
    replace hDA := hDA.grow g7
    replace hDB := hDB.grow g7
    replace hRx := hRx.grow g7
    replace hRs := hRs.grow g7
    replace G := G.grow g7
    replace B2 := B2.grow g7
    have zg7 := g7.size
    refine S_val (Y_assign rfl) ?_
    refine S_nl rfl rfl ?_
    refine th_n (hK11 _ _ ?_)
    clear hK11 K11
    refine wp_ret ?_
    refine th_r ?_
    clear hK9 K9
    refine ret_r1 rfl rfl ?_  -- r2
    exact ⟨rfl, G⟩
   · -- c3F
    replace hb3 := nb_tf hb3
    obtain ⟨n, rfl, hnN, va, hun, hde, hfe⟩ := deadV_cell (h := h) (x := x) (by omega)
    have hv9 := valid_iff.2 va
    rw [hde] at hRx
    rw [hde]
    have hml := fromM_len h n
    have hdl2 := deadL_len h n
    have hrl2 := reachV_len hv9
    refine wp_skip ?_
    refine th_n (hK9 _ _ ?_)
    clear hK9 K9
    refine wp_seq_k fun K12 hK12 => ?_
    refine Sb 107 rfl ?_  -- 9
    refine S_val (Y_loadS Try.underlying26 rfl sz26 rfl (B2.row (by rfl))) ?_  -- l3
    refine S_call rfl en21 (impl_Reachable_c _ _ _ _ _ _ _ (by assumption) (by assumption) (by omega)) ?_  -- k6 impl.Reachable
    rintro v8 w8 ⟨A8, q8, cap8, rfl, hq8, O8, g8⟩
    replace hA := hA.grow g8
    replace hDA := hDA.grow g8
    replace hDB := hDB.grow g8
    replace hRx := hRx.grow g8
    replace hRs := hRs.grow g8
    replace G := G.grow g8
    replace B2 := B2.grow g8
    have zg8 := g8.size
    subst hq8
    have hRr := O8.lt.r1
    refine S_val (Y_assign rfl) ?_
    refine S_nl rfl rfl ?_
    refine th_n (hK12 _ _ ?_)
    clear hK12 K12
    refine wp_seq_k fun K13 hK13 => ?_
    refine Sb 107 rfl ?_  -- 10
    refine S_val (Y_loadS Try.underlying26 rfl sz26 rfl (B2.row (by rfl))) ?_  -- l4
    refine S_val (Y_move rfl) ?_
    refine S_call rfl en53 (impl_CellsFrom_c _ _ _ _ _ _ _ _ (by assumption) (by assumption) (by omega)) ?_  -- k7 impl.CellsFrom
    rintro v9 w9 ⟨A9, q9, cap9, rfl, hq9, O9, g9⟩
    replace hA := hA.grow g9
    replace hDA := hDA.grow g9
    replace hDB := hDB.grow g9
    replace hRx := hRx.grow g9
    replace hRs := hRs.grow g9
    replace hRr := hRr.grow g9
    replace G := G.grow g9
    replace B2 := B2.grow g9
    have zg9 := g9.size
    rw [hfe] at hq9 O9
    subst hq9
    have hRf := O9.lt.r1
    refine S_val (Y_assign rfl) ?_
    refine S_nl rfl rfl ?_
    refine th_n (hK13 _ _ ?_)
    clear hK13 K13
    refine wp_seq_k fun K14 hK14 => ?_
    refine wp_seq_k fun K15 hK15 => ?_
    refine Sb 107 rfl ?_  -- 11
    refine S_val (Y_assign rfl) ?_
    refine S_nl rfl rfl ?_
    refine th_n (hK15 _ _ ?_)
    clear hK15 K15
    refine wp_block ?_
    go_loopw [8] (fun u8 wr => (∃ k : Nat, u8 = .int .i64 k ∧ k ≤ (deadL h n).length) ∧ Mod No w9 wr) (fun u8 wr => (deadL h n).length - (intOf u8).toNat)  -- L1
    case atStart =>
     refine ⟨?_, Mod.refl _ _⟩
     exact ⟨0, rfl, by omega⟩
    case round =>
     obtain ⟨w10, rfl⟩ : ∃ x : World, x = wr := ⟨_, rfl⟩
     obtain ⟨hrel, g10⟩ := hrel
     replace hA := hA.grow g10
     replace hDA := hDA.grow g10
     replace hDB := hDB.grow g10
     replace hRx := hRx.grow g10
     replace hRs := hRs.grow g10
     replace hRr := hRr.grow g10
     replace hRf := hRf.grow g10
     replace G := G.grow g10
     replace B2 := B2.grow g10
     have zg10 := g10.size
     obtain ⟨k, rfl, hk⟩ := hrel
     have GL10 := g10
     refine wp_seq_k fun K16 hK16 => ?_
     refine wp_seq_k fun K17 hK17 => ?_
     refine Sb 107 rfl ?_  -- 12
     refine S_val (Y_move rfl) ?_
     refine S_val (Y_move rfl) ?_
     refine S_val (Y_len Try.underlying32 rfl) ?_
     refine S_val (Y_lss rfl rfl) ?_
     refine S_nl rfl rfl ?_
     refine th_n (hK17 _ _ ?_)
     clear hK17 K17
     refine S_if rfl (fun hb4 => ?_) (fun hb4 => ?_)  -- c4
     · -- c4T
      replace hb4 := nb_tt hb4
      have hk1 : k < (deadL h n).length := by omega
      have hkN : k < h.cells.length := by omega
      obtain ⟨g4, o4, e4, hp4, hc4⟩ := hRx.bool (k := k) hk1
      cases e4
      rw [deadL_at hk1] at hc4
      obtain ⟨g7, o7, e7, hp7, hc7⟩ := hRr.bool (k := k) (by omega)
      cases e7
      rw [reachV_at hv9] at hc7
      obtain ⟨g8, o8, e8, hp8, hc8⟩ := hRf.bool (k := k) (by omega)
      cases e8
      rw [fromM_at (by omega)] at hc8
      obtain ⟨g2, o2, E2, d2, e2, hp2, cc2, hE2⟩ := hDA.cell (k := k) hkN
      cases e2
      have hr3 := va.refs3 hkN
      refine wp_skip ?_
      refine th_n (hK16 _ _ ?_)
      clear hK16 K16
      refine wp_seq_k fun K18 hK18 => ?_
      refine wp_block ?_
      refine wp_seq_k fun K19 hK19 => ?_
      refine wp_seq_k fun K20 hK20 => ?_
      refine Sb 107 rfl ?_  -- 14
      refine S_val (Y_move rfl) ?_
      refine S_val (Y_move rfl) ?_
      refine S_val (Y_len Try.underlying32 rfl) ?_
      refine S_val (Y_geq rfl rfl) ?_
      refine S_val (Y_move rfl) ?_
      refine S_g 47 rfl (fun hb5 => ?_) (fun hb5 => ?_)  -- g1
      · -- g1T
       replace hb5 := nb_tt hb5
       omega
      · -- g1F
       replace hb5 := nb_tf hb5
       refine S_on rfl rfl ?_
       refine S_val (Y_move rfl) ?_
       refine S_on rfl rfl ?_
       refine S_val (Y_move rfl) ?_
       refine S_on rfl rfl ?_
       refine S_val (Y_len Try.underlying32 rfl) ?_
       refine S_on rfl rfl ?_
       refine S_val (Y_geq rfl rfl) ?_
       refine S_val (Y_pickF rfl rfl) ?_
       refine S_val (Y_move rfl) ?_
       refine S_g 53 rfl (fun hb6 => ?_) (fun hb6 => ?_)  -- g2
       · -- g2T
        first | with_reducible (replace hb6 := nb_nt hb6) | with_reducible (replace hb6 := nb_tt hb6) | with_reducible (replace hb6 := nb_bt hb6) | skip
        omega
       · -- g2F
        first | with_reducible (replace hb6 := nb_nf hb6) | with_reducible (replace hb6 := nb_tf hb6) | with_reducible (replace hb6 := nb_bf hb6) | skip
        refine S_on rfl rfl ?_
        refine S_val (Y_move rfl) ?_
        refine S_on rfl rfl ?_
        refine S_val (Y_move rfl) ?_
        refine S_on rfl rfl ?_
        refine S_val (Y_index Try.underlying32 sz4 rfl rfl (by first | assumption | omega)) ?_
        refine S_on rfl rfl ?_
        refine S_val (Y_load Try.underlying4 rfl rfl (by first | assumption | exact cc2.at (by rfl) | exact B2.at (by rfl))) ?_  -- l5
        refine S_on rfl rfl ?_
        refine S_val (Y_move rfl) ?_
        refine S_g 58 rfl (fun hb7 => ?_) (fun hb7 => ?_)  -- g3
        · -- g3T
         first | with_reducible (replace hb7 := nb_nt hb7) | with_reducible (replace hb7 := nb_tt hb7) | with_reducible (replace hb7 := nb_bt hb7) | skip
         have hlost := dead_lost va hb7
         have hfrom := dead_from hb7
         rw [hlost] at hc7
         rw [hfrom] at hc8
         refine S_on rfl rfl ?_
         refine S_val (Y_move rfl) ?_
         refine S_on rfl rfl ?_
         refine S_val (Y_move rfl) ?_
         refine S_on rfl rfl ?_
         refine S_val (Y_index Try.underlying32 sz4 rfl rfl (by first | assumption | omega)) ?_
         refine S_on rfl rfl ?_
         refine S_val (Y_load Try.underlying4 rfl rfl (by first | assumption | exact cc2.at (by rfl) | exact B2.at (by rfl))) ?_  -- l6
         refine S_on rfl rfl ?_
         refine S_val (Y_move rfl) ?_
         refine S_g 63 rfl (fun hb8 => ?_) (fun hb8 => ?_)  -- g4
         · -- g4T
          first | with_reducible (replace hb8 := nb_nt hb8) | with_reducible (replace hb8 := nb_tt hb8) | with_reducible (replace hb8 := nb_bt hb8) | skip
          cases hb8
         · -- g4F
          first | with_reducible (replace hb8 := nb_nf hb8) | with_reducible (replace hb8 := nb_tf hb8) | with_reducible (replace hb8 := nb_bf hb8) | skip
          refine S_on rfl rfl ?_
          refine S_val (Y_move rfl) ?_
          refine S_on rfl rfl ?_
          refine S_val (Y_move rfl) ?_
          refine S_on rfl rfl ?_
          refine S_val (Y_index Try.underlying32 sz4 rfl rfl (by first | assumption | omega)) ?_
          refine S_on rfl rfl ?_
          refine S_val (Y_load Try.underlying4 rfl rfl (by first | assumption | exact cc2.at (by rfl) | exact B2.at (by rfl))) ?_  -- l7
          refine S_on rfl rfl ?_
          refine S_val (Y_not rfl) ?_
          refine S_on rfl rfl ?_
          refine S_val (Y_pickF rfl rfl) ?_
          refine S_on rfl rfl ?_
          refine S_val (Y_pickT rfl rfl) ?_
          refine S_val (Y_pickF rfl rfl) ?_
          refine S_nl rfl rfl ?_
          refine th_n (hK20 _ _ ?_)
          clear hK20 K20
          refine S_if rfl (fun hb9 => ?_) (fun hb9 => ?_)  -- c5
          · -- c5T
           first | with_reducible (replace hb9 := nb_nt hb9) | with_reducible (replace hb9 := nb_tt hb9) | with_reducible (replace hb9 := nb_bt hb9) | skip
           cases hb9
          · -- c5F
           first | with_reducible (replace hb9 := nb_nf hb9) | with_reducible (replace hb9 := nb_tf hb9) | with_reducible (replace hb9 := nb_bf hb9) | skip
           refine wp_skip ?_
           refine th_n (hK19 _ _ ?_)
           clear hK19 K19
           refine wp_seq_k fun K21 hK21 => ?_
           refine Sb 107 rfl ?_  -- 16
           refine S_val (Y_assign rfl) ?_
           refine S_nl rfl rfl ?_
           refine th_n (hK21 _ _ ?_)
           clear hK21 K21
           refine wp_block ?_
           go_loopw [9] (fun u9 wr => (∃ j : Nat, u9 = .int .i64 j ∧ j ≤ h.cells[k].refs.length) ∧ Mod No w10 wr) (fun u9 wr => h.cells[k].refs.length - (intOf u9).toNat)  -- L2
           case atStart =>
            refine ⟨?_, Mod.refl _ _⟩
            exact ⟨0, rfl, by omega⟩
           case round =>
            obtain ⟨w11, rfl⟩ : ∃ x : World, x = wr := ⟨_, rfl⟩
            obtain ⟨hrel, g11⟩ := hrel
            replace hA := hA.grow g11
            replace hDA := hDA.grow g11
            replace hDB := hDB.grow g11
            replace hRx := hRx.grow g11
            replace hRs := hRs.grow g11
            replace hRr := hRr.grow g11
            replace hRf := hRf.grow g11
            replace hE2 := hE2.grow g11
            replace G := G.grow g11
            replace GL10 := GL10.grow g11
            replace B2 := B2.grow g11
            replace cc2 := cc2.grow g11
            have zg11 := g11.size
            obtain ⟨j, rfl, hj⟩ := hrel
            obtain ⟨g2, o2, E2, d2, e2, hp2, cc2, hE2⟩ := hDA.cell (k := k) hkN
            cases e2
            have GL11 := g11
            refine wp_seq_k fun K22 hK22 => ?_
            refine wp_seq_k fun K23 hK23 => ?_
            refine Sb 107 rfl ?_  -- 17
            refine S_val (Y_move rfl) ?_
            refine S_val (Y_field Try.underlying26 rfl fz26_0 (by decide) rfl) ?_
            refine S_val (Y_load Try.underlying23 rfl rfl (B2.at (by rfl))) ?_  -- l8
            refine S_val (Y_move rfl) ?_
            refine S_val (Y_index Try.underlying23 sz37 rfl rfl (by first | assumption | omega)) ?_
            refine S_val (Y_field Try.underlying37 rfl fz37_2 (by decide) rfl) ?_
            refine S_val (Y_load Try.underlying24 rfl rfl (by first | assumption | exact cc2.at (by rfl) | exact cc2.at (by rfl) | exact B2.at (by rfl))) ?_  -- l9
            refine S_val (Y_len Try.underlying24 rfl) ?_
            refine S_val (Y_lss rfl rfl) ?_
            refine S_val (Y_move rfl) ?_
            refine S_g 81 rfl (fun hb10 => ?_) (fun hb10 => ?_)  -- g5
            · -- g5T
             replace hb10 := nb_tt hb10
             have hj1 : j < h.cells[k].refs.length := by omega
             obtain ⟨g4, o4, e4, hp4, hc4⟩ := hRx.bool (k := k) hk1
             cases e4
             rw [deadL_at hk1] at hc4
             obtain ⟨g5, o5, e5, hp5, hc5⟩ := hE2.int (k := j) hj1
             cases e5
             refine S_on rfl rfl ?_
             refine S_val (Y_move rfl) ?_
             refine S_on rfl rfl ?_
             refine S_val (Y_move rfl) ?_
             refine S_on rfl rfl ?_
             refine S_val (Y_index Try.underlying32 sz4 rfl rfl (by first | assumption | omega)) ?_
             refine S_on rfl rfl ?_
             refine S_val (Y_load Try.underlying4 rfl rfl (by first | assumption | exact cc2.at (by rfl) | exact cc2.at (by rfl) | exact B2.at (by rfl))) ?_  -- l10
             refine S_on rfl rfl ?_
             refine S_val (Y_not rfl) ?_
             refine S_val (Y_pickT rfl rfl) ?_
             refine S_nl rfl rfl ?_
             refine th_n (hK23 _ _ ?_)
             clear hK23 K23
             refine S_if rfl (fun hb11 => ?_) (fun hb11 => ?_)  -- c6
             · -- c6T
              first | with_reducible (replace hb11 := nb_nt hb11) | with_reducible (replace hb11 := nb_tt hb11) | with_reducible (replace hb11 := nb_bt hb11) | skip
              refine wp_skip ?_
              refine th_n (hK22 _ _ ?_)
              clear hK22 K22
              refine wp_seq_k fun K24 hK24 => ?_
              refine wp_block ?_
              refine wp_seq_k fun K25 hK25 => ?_
              refine Sb 107 rfl ?_  -- 19
              refine S_val (Y_field Try.underlying26 rfl fz26_0 (by decide) rfl) ?_
              refine S_val (Y_load Try.underlying23 rfl rfl (B2.at (by rfl))) ?_  -- l11
              refine S_val (Y_move rfl) ?_
              refine S_val (Y_index Try.underlying23 sz37 rfl rfl (by first | assumption | omega)) ?_
              refine S_val (Y_field Try.underlying37 rfl fz37_2 (by decide) rfl) ?_
              refine S_val (Y_load Try.underlying24 rfl rfl (by first | assumption | exact cc2.at (by rfl) | exact cc2.at (by rfl) | exact B2.at (by rfl))) ?_  -- l12
              refine S_val (Y_move rfl) ?_
              refine S_val (Y_index Try.underlying24 sz3 rfl rfl (by first | assumption | omega)) ?_
              refine S_val (Y_load Try.underlying3 rfl rfl (by first | assumption | exact cc2.at (by rfl) | exact cc2.at (by rfl) | exact B2.at (by rfl))) ?_  -- l13
              refine S_val (Y_assign rfl) ?_
              refine S_nl rfl rfl ?_
              refine th_n (hK25 _ _ ?_)
              clear hK25 K25
              refine wp_seq_k fun K26 hK26 => ?_
              refine Sb 107 rfl ?_  -- 20
              refine S_val (Y_move rfl) ?_
              refine S_val (Y_geq rfl rfl) ?_
              refine S_val (Y_move rfl) ?_
              refine S_g 101 rfl (fun hb12 => ?_) (fun hb12 => ?_)  -- g6
              · -- g6T
               replace hb12 := nb_tt hb12
               obtain ⟨m, hm⟩ := Int.eq_ofNat_of_zero_le (by assumption : 0 ≤ h.cells[k].refs[j])
               have hmN : m < h.cells.length := by have h9 := (va.leads.refs hkN _ (List.getElem_mem hj1) (nn_of (by assumption))).2; omega
               rw [hm]
               obtain ⟨g6, o6, e6, hp6, hc6⟩ := hRx.bool (k := m) (by omega)
               cases e6
               rw [deadL_at (by omega)] at hc6
               refine S_on rfl rfl ?_
               refine S_val (Y_move rfl) ?_
               refine S_on rfl rfl ?_
               refine S_val (Y_move rfl) ?_
               refine S_on rfl rfl ?_
               refine S_val (Y_index Try.underlying32 sz4 rfl rfl (by first | assumption | omega)) ?_
               refine S_on rfl rfl ?_
               refine S_val (Y_load Try.underlying4 rfl rfl (by first | assumption | exact cc2.at (by rfl) | exact cc2.at (by rfl) | exact B2.at (by rfl))) ?_  -- l14
               refine S_val (Y_pickT rfl rfl) ?_
               refine S_nl rfl rfl ?_
               refine th_n (hK26 _ _ ?_)
               clear hK26 K26
               refine S_if rfl (fun hb13 => ?_) (fun hb13 => ?_)  -- c7
               · -- c7T
                first | with_reducible (replace hb13 := nb_nt hb13) | with_reducible (replace hb13 := nb_tt hb13) | with_reducible (replace hb13 := nb_bt hb13) | skip
                rw [dead_refs va (i := k) (m := m) (by assumption) (by rw [refsOf_at hkN, ← hm]; exact List.getElem_mem hj1)] at hb13; cases hb13
               · -- c7F
                first | with_reducible (replace hb13 := nb_nf hb13) | with_reducible (replace hb13 := nb_tf hb13) | with_reducible (replace hb13 := nb_bf hb13) | skip
                refine wp_skip ?_
                refine ib_n ?_
                refine th_n (hK24 _ _ ?_)
                clear hK24 K24
                refine Sb 107 rfl ?_  -- 18
                refine S_val (Y_move rfl) ?_
                refine S_val (Y_inc rfl rfl (by omega)) ?_
                refine S_val (Y_assign rfl) ?_
                refine S_nl rfl rfl ?_
                refine th_n ?_
                go_roundw  -- e1 of L2
                case rel =>
                 refine ⟨?_, GL11⟩
                 exact ⟨j + 1, rfl, by omega⟩
                case measure =>
                 exact dec_nat (by omega)
              · -- g6F
               replace hb12 := nb_tf hb12
               refine S_off rfl rfl ?_
               refine S_off rfl rfl ?_
               refine S_off rfl rfl ?_
               refine S_off rfl rfl ?_
               refine S_val (Y_pickF rfl rfl) ?_
               refine S_nl rfl rfl ?_
               refine th_n (hK26 _ _ ?_)
               clear hK26 K26
               refine S_ifF rfl ?_
               refine wp_skip ?_
               refine ib_n ?_
               refine th_n (hK24 _ _ ?_)
               clear hK24 K24
               refine Sb 107 rfl ?_  -- 18
               refine S_val (Y_move rfl) ?_
               refine S_val (Y_inc rfl rfl (by omega)) ?_
               refine S_val (Y_assign rfl) ?_
               refine S_nl rfl rfl ?_
               refine th_n ?_
               go_roundw  -- e2 of L2
               case rel =>
                refine ⟨?_, GL11⟩
                exact ⟨j + 1, rfl, by omega⟩
               case measure =>
                exact dec_nat (by omega)
             · -- c6F
              first | with_reducible (replace hb11 := nb_nf hb11) | with_reducible (replace hb11 := nb_tf hb11) | with_reducible (replace hb11 := nb_bf hb11) | skip
              refine wp_exit ?_
              refine th_x ?_
              try clear GL11
              refine th_x ?_
              refine ib_e ?_
              refine ib_n ?_
              refine th_n (hK18 _ _ ?_)
              clear hK22 K22 hK18 K18
              refine Sb 107 rfl ?_  -- 13
              refine S_val (Y_move rfl) ?_
              refine S_val (Y_inc rfl rfl (by omega)) ?_
              refine S_val (Y_assign rfl) ?_
              refine S_nl rfl rfl ?_
              refine th_n ?_
              go_roundw  -- e3 of L1
              case rel =>
               refine ⟨?_, GL10⟩
               exact ⟨k + 1, rfl, by omega⟩
              case measure =>
               exact dec_nat (by omega)
            · -- g5F
             replace hb10 := nb_tf hb10
             refine S_off rfl rfl ?_
             refine S_off rfl rfl ?_
             refine S_off rfl rfl ?_
             refine S_off rfl rfl ?_
             refine S_off rfl rfl ?_
             refine S_val (Y_pickF rfl rfl) ?_
             refine S_nl rfl rfl ?_
             refine th_n (hK23 _ _ ?_)
             clear hK23 K23
             refine S_ifF rfl ?_
             refine wp_exit ?_
             refine th_x ?_
             try clear GL11
             refine th_x ?_
             refine ib_e ?_
             refine ib_n ?_
             refine th_n (hK18 _ _ ?_)
             clear hK22 K22 hK18 K18
             refine Sb 107 rfl ?_  -- 13
             refine S_val (Y_move rfl) ?_
             refine S_val (Y_inc rfl rfl (by omega)) ?_
             refine S_val (Y_assign rfl) ?_
             refine S_nl rfl rfl ?_
             refine th_n ?_
             go_roundw  -- e4 of L1
             case rel =>
              refine ⟨?_, GL10⟩
              exact ⟨k + 1, rfl, by omega⟩
             case measure =>
              exact dec_nat (by omega)
        · -- g3F
         first | with_reducible (replace hb7 := nb_nf hb7) | with_reducible (replace hb7 := nb_tf hb7) | with_reducible (replace hb7 := nb_bf hb7) | skip
         refine S_off rfl rfl ?_
         refine S_off rfl rfl ?_
         refine S_off rfl rfl ?_
         refine S_off rfl rfl ?_
         refine S_off rfl rfl ?_
         refine S_offU rfl rfl ?_
         refine S_offU rfl rfl ?_
         refine S_offU rfl rfl ?_
         refine S_offU rfl rfl ?_
         refine S_offU rfl rfl ?_
         refine S_off rfl rfl ?_
         refine S_on rfl rfl ?_
         refine S_val (Y_pickF rfl rfl) ?_
         refine S_val (Y_pickF rfl rfl) ?_
         refine S_nl rfl rfl ?_
         refine th_n (hK20 _ _ ?_)
         clear hK20 K20
         refine S_ifF rfl ?_
         refine wp_skip ?_
         refine th_n (hK19 _ _ ?_)
         clear hK19 K19
         refine wp_seq_k fun K27 hK27 => ?_
         refine Sb 107 rfl ?_  -- 16
         refine S_val (Y_assign rfl) ?_
         refine S_nl rfl rfl ?_
         refine th_n (hK27 _ _ ?_)
         clear hK27 K27
         refine wp_block ?_
         go_loopw [9] (fun u9 wr => (∃ j : Nat, u9 = .int .i64 j ∧ j ≤ h.cells[k].refs.length) ∧ Mod No w10 wr) (fun u9 wr => h.cells[k].refs.length - (intOf u9).toNat)  -- L3
         case atStart =>
          refine ⟨?_, Mod.refl _ _⟩
          exact ⟨0, rfl, by omega⟩
         case round =>
          obtain ⟨w12, rfl⟩ : ∃ x : World, x = wr := ⟨_, rfl⟩
          obtain ⟨hrel, g12⟩ := hrel
          replace hA := hA.grow g12
          replace hDA := hDA.grow g12
          replace hDB := hDB.grow g12
          replace hRx := hRx.grow g12
          replace hRs := hRs.grow g12
          replace hRr := hRr.grow g12
          replace hRf := hRf.grow g12
          replace hE2 := hE2.grow g12
          replace G := G.grow g12
          replace GL10 := GL10.grow g12
          replace B2 := B2.grow g12
          replace cc2 := cc2.grow g12
          have zg12 := g12.size
          obtain ⟨j, rfl, hj⟩ := hrel
          obtain ⟨g2, o2, E2, d2, e2, hp2, cc2, hE2⟩ := hDA.cell (k := k) hkN
          cases e2
          have GL12 := g12
          refine wp_seq_k fun K28 hK28 => ?_
          refine wp_seq_k fun K29 hK29 => ?_
          refine Sb 107 rfl ?_  -- 17
          refine S_val (Y_move rfl) ?_
          refine S_val (Y_field Try.underlying26 rfl fz26_0 (by decide) rfl) ?_
          refine S_val (Y_load Try.underlying23 rfl rfl (B2.at (by rfl))) ?_  -- l15
          refine S_val (Y_move rfl) ?_
          refine S_val (Y_index Try.underlying23 sz37 rfl rfl (by first | assumption | omega)) ?_
          refine S_val (Y_field Try.underlying37 rfl fz37_2 (by decide) rfl) ?_
          refine S_val (Y_load Try.underlying24 rfl rfl (by first | assumption | exact cc2.at (by rfl) | exact cc2.at (by rfl) | exact B2.at (by rfl))) ?_  -- l16
          refine S_val (Y_len Try.underlying24 rfl) ?_
          refine S_val (Y_lss rfl rfl) ?_
          refine S_val (Y_move rfl) ?_
          refine S_g 81 rfl (fun hb8 => ?_) (fun hb8 => ?_)  -- g7
          · -- g7T
           replace hb8 := nb_tt hb8
           have hj1 : j < h.cells[k].refs.length := by omega
           obtain ⟨g4, o4, e4, hp4, hc4⟩ := hRx.bool (k := k) hk1
           cases e4
           rw [deadL_at hk1] at hc4
           obtain ⟨g5, o5, e5, hp5, hc5⟩ := hE2.int (k := j) hj1
           cases e5
           refine S_on rfl rfl ?_
           refine S_val (Y_move rfl) ?_
           refine S_on rfl rfl ?_
           refine S_val (Y_move rfl) ?_
           refine S_on rfl rfl ?_
           refine S_val (Y_index Try.underlying32 sz4 rfl rfl (by first | assumption | omega)) ?_
           refine S_on rfl rfl ?_
           refine S_val (Y_load Try.underlying4 rfl rfl (by first | assumption | exact cc2.at (by rfl) | exact cc2.at (by rfl) | exact B2.at (by rfl))) ?_  -- l17
           refine S_on rfl rfl ?_
           refine S_val (Y_not rfl) ?_
           refine S_val (Y_pickT rfl rfl) ?_
           refine S_nl rfl rfl ?_
           refine th_n (hK29 _ _ ?_)
           clear hK29 K29
           refine S_if rfl (fun hb9 => ?_) (fun hb9 => ?_)  -- c8
           · -- c8T
            first | with_reducible (replace hb9 := nb_nt hb9) | with_reducible (replace hb9 := nb_tt hb9) | with_reducible (replace hb9 := nb_bt hb9) | skip
            refine wp_skip ?_
            refine th_n (hK28 _ _ ?_)
            clear hK28 K28
            refine wp_seq_k fun K30 hK30 => ?_
            refine wp_block ?_
            refine wp_seq_k fun K31 hK31 => ?_
            refine Sb 107 rfl ?_  -- 19
            refine S_val (Y_field Try.underlying26 rfl fz26_0 (by decide) rfl) ?_
            refine S_val (Y_load Try.underlying23 rfl rfl (B2.at (by rfl))) ?_  -- l18
            refine S_val (Y_move rfl) ?_
            refine S_val (Y_index Try.underlying23 sz37 rfl rfl (by first | assumption | omega)) ?_
            refine S_val (Y_field Try.underlying37 rfl fz37_2 (by decide) rfl) ?_
            refine S_val (Y_load Try.underlying24 rfl rfl (by first | assumption | exact cc2.at (by rfl) | exact cc2.at (by rfl) | exact B2.at (by rfl))) ?_  -- l19
            refine S_val (Y_move rfl) ?_
            refine S_val (Y_index Try.underlying24 sz3 rfl rfl (by first | assumption | omega)) ?_
            refine S_val (Y_load Try.underlying3 rfl rfl (by first | assumption | exact cc2.at (by rfl) | exact cc2.at (by rfl) | exact B2.at (by rfl))) ?_  -- l20
            refine S_val (Y_assign rfl) ?_
            refine S_nl rfl rfl ?_
            refine th_n (hK31 _ _ ?_)
            clear hK31 K31
            refine wp_seq_k fun K32 hK32 => ?_
            refine Sb 107 rfl ?_  -- 20
            refine S_val (Y_move rfl) ?_
            refine S_val (Y_geq rfl rfl) ?_
            refine S_val (Y_move rfl) ?_
            refine S_g 101 rfl (fun hb10 => ?_) (fun hb10 => ?_)  -- g8
            · -- g8T
             replace hb10 := nb_tt hb10
             obtain ⟨m, hm⟩ := Int.eq_ofNat_of_zero_le (by assumption : 0 ≤ h.cells[k].refs[j])
             have hmN : m < h.cells.length := by have h9 := (va.leads.refs hkN _ (List.getElem_mem hj1) (nn_of (by assumption))).2; omega
             rw [hm]
             obtain ⟨g6, o6, e6, hp6, hc6⟩ := hRx.bool (k := m) (by omega)
             cases e6
             rw [deadL_at (by omega)] at hc6
             refine S_on rfl rfl ?_
             refine S_val (Y_move rfl) ?_
             refine S_on rfl rfl ?_
             refine S_val (Y_move rfl) ?_
             refine S_on rfl rfl ?_
             refine S_val (Y_index Try.underlying32 sz4 rfl rfl (by first | assumption | omega)) ?_
             refine S_on rfl rfl ?_
             refine S_val (Y_load Try.underlying4 rfl rfl (by first | assumption | exact cc2.at (by rfl) | exact cc2.at (by rfl) | exact B2.at (by rfl))) ?_  -- l21
             refine S_val (Y_pickT rfl rfl) ?_
             refine S_nl rfl rfl ?_
             refine th_n (hK32 _ _ ?_)
             clear hK32 K32
             refine S_if rfl (fun hb11 => ?_) (fun hb11 => ?_)  -- c9
             · -- c9T
              first | with_reducible (replace hb11 := nb_nt hb11) | with_reducible (replace hb11 := nb_tt hb11) | with_reducible (replace hb11 := nb_bt hb11) | skip
              rw [dead_refs va (i := k) (m := m) (by assumption) (by rw [refsOf_at hkN, ← hm]; exact List.getElem_mem hj1)] at hb11; cases hb11
             · -- c9F
              first | with_reducible (replace hb11 := nb_nf hb11) | with_reducible (replace hb11 := nb_tf hb11) | with_reducible (replace hb11 := nb_bf hb11) | skip
              refine wp_skip ?_
              refine ib_n ?_
              refine th_n (hK30 _ _ ?_)
              clear hK30 K30
              refine Sb 107 rfl ?_  -- 18
              refine S_val (Y_move rfl) ?_
              refine S_val (Y_inc rfl rfl (by omega)) ?_
              refine S_val (Y_assign rfl) ?_
              refine S_nl rfl rfl ?_
              refine th_n ?_
              go_roundw  -- e5 of L3
              case rel =>
               refine ⟨?_, GL12⟩
               exact ⟨j + 1, rfl, by omega⟩
              case measure =>
               exact dec_nat (by omega)
            · -- g8F
             replace hb10 := nb_tf hb10
             refine S_off rfl rfl ?_
             refine S_off rfl rfl ?_
             refine S_off rfl rfl ?_
             refine S_off rfl rfl ?_
             refine S_val (Y_pickF rfl rfl) ?_
             refine S_nl rfl rfl ?_
             refine th_n (hK32 _ _ ?_)
             clear hK32 K32
             refine S_ifF rfl ?_
             refine wp_skip ?_
             refine ib_n ?_
             refine th_n (hK30 _ _ ?_)
             clear hK30 K30
             refine Sb 107 rfl ?_  -- 18
             refine S_val (Y_move rfl) ?_
             refine S_val (Y_inc rfl rfl (by omega)) ?_
             refine S_val (Y_assign rfl) ?_
             refine S_nl rfl rfl ?_
             refine th_n ?_
             go_roundw  -- e6 of L3
             case rel =>
              refine ⟨?_, GL12⟩
              exact ⟨j + 1, rfl, by omega⟩
             case measure =>
              exact dec_nat (by omega)
           · -- c8F
            first | with_reducible (replace hb9 := nb_nf hb9) | with_reducible (replace hb9 := nb_tf hb9) | with_reducible (replace hb9 := nb_bf hb9) | skip
            refine wp_exit ?_
            refine th_x ?_
            try clear GL12
            refine th_x ?_
            refine ib_e ?_
            refine ib_n ?_
            refine th_n (hK18 _ _ ?_)
            clear hK28 K28 hK18 K18
            refine Sb 107 rfl ?_  -- 13
            refine S_val (Y_move rfl) ?_
            refine S_val (Y_inc rfl rfl (by omega)) ?_
            refine S_val (Y_assign rfl) ?_
            refine S_nl rfl rfl ?_
            refine th_n ?_
            go_roundw  -- e7 of L1
            case rel =>
             refine ⟨?_, GL10⟩
             exact ⟨k + 1, rfl, by omega⟩
            case measure =>
             exact dec_nat (by omega)
          · -- g7F
           replace hb8 := nb_tf hb8
           refine S_off rfl rfl ?_
           refine S_off rfl rfl ?_
           refine S_off rfl rfl ?_
           refine S_off rfl rfl ?_
           refine S_off rfl rfl ?_
           refine S_val (Y_pickF rfl rfl) ?_
           refine S_nl rfl rfl ?_
           refine th_n (hK29 _ _ ?_)
           clear hK29 K29
           refine S_ifF rfl ?_
           refine wp_exit ?_
           refine th_x ?_
           try clear GL12
           refine th_x ?_
           refine ib_e ?_
           refine ib_n ?_
           refine th_n (hK18 _ _ ?_)
           clear hK28 K28 hK18 K18
           refine Sb 107 rfl ?_  -- 13
           refine S_val (Y_move rfl) ?_
           refine S_val (Y_inc rfl rfl (by omega)) ?_
           refine S_val (Y_assign rfl) ?_
           refine S_nl rfl rfl ?_
           refine th_n ?_
           go_roundw  -- e8 of L1
           case rel =>
            refine ⟨?_, GL10⟩
            exact ⟨k + 1, rfl, by omega⟩
           case measure =>
            exact dec_nat (by omega)
     · -- c4F
      replace hb4 := nb_tf hb4
      refine wp_exit ?_
      refine th_x ?_
      try clear GL10
      refine th_x ?_
      refine ib_e ?_
      refine th_n (hK14 _ _ ?_)
      clear hK16 K16 hK14 K14
      refine wp_seq_k fun K33 hK33 => ?_
      refine Sb 107 rfl ?_  -- 22
      refine S_val (Y_assign rfl) ?_
      refine S_nl rfl rfl ?_
      refine th_n (hK33 _ _ ?_)
      clear hK33 K33
      refine wp_ret ?_
      refine ret_r1 rfl rfl ?_  -- r3
      exact ⟨rfl, G⟩

end Go.Proofs.Ytikgflhepclfgab
