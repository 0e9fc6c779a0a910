/-
  The law FnLeakedCells returns true.
  Conditions: those that each theorem states.
-/
import Derived.Test.YtikgflhepclfgabQb5
set_option linter.unusedVariables false
set_option linter.unusedSimpArgs false
namespace Go.Proofs.Ytikgflhepclfgab
open Go Go.RowKit
attribute [local irreducible] wpList wpAnyH Code.wp dOp

set_option maxHeartbeats 400000 in
set_option maxRecDepth 20000 in
theorem laws_FnLeakedCells_c (Pr : Nat → Prop) (A : Option Addr) (xs : List Int) (c : Nat) (w : World) (hA : R1 Pr w A (u8s xs)) (hn : xs.length ≤ 9223372036854775807) (hcap : xs.length ≤ c) (hrg : ∀ y ∈ xs, 0 ≤ y ∧ y ≤ 255) :
    Calls Try.prog 8 #[.slice A xs.length c] w (Ret fun v w' => v = .bool true ∧ Grow w w') := by
 refine enter Try.func8 rfl Try.ntmps8 (L := [_,_,_,_,_,_,_,_,_,_,_,_,_,_,_,_,_,_,_,_,_,_,_,_,_,_,_,_,_,_,_,_,_,_,_,_,_,_,_,_,_,_,_,_,_,_,_,_,_,_,_,_,_,_,_,_,_,_,_,_,_,_,_,_,_,_,_,_,_,_,_,_,_,_,_,_,_,_,_,_,_,_,_,_,_,_,_,_]) rfl ?_
 have G := Mod.refl No w
 have hA0 := hA
 refine wp_seq_k fun K1 hK1 => ?_
 refine Sb 88 rfl ?_  -- 0
 refine S_val (Y_assign rfl) ?_
 refine S_nl rfl rfl ?_
 refine th_n (hK1 _ _ ?_)
 clear hK1 K1
 refine wp_seq_k fun K2 hK2 => ?_
 refine wp_seq_k fun K3 hK3 => ?_
 refine Sb 88 rfl ?_  -- 1
 refine S_val (Y_move rfl) ?_
 refine S_val (Y_len Try.underlying22 rfl) ?_
 refine S_val (Y_gtr rfl rfl) ?_
 refine S_nl rfl rfl ?_
 refine th_n (hK3 _ _ ?_)
 clear hK3 K3
 refine S_if rfl (fun hb1 => ?_) (fun hb1 => ?_)  -- c1
 · -- c1T
  replace hb1 := nb_tt hb1
  refine wp_seq_k fun K4 hK4 => ?_
  refine Sb 88 rfl ?_  -- 2
  refine S_val (Y_assign rfl) ?_
  refine S_nl rfl rfl ?_
  refine th_n (hK4 _ _ ?_)
  clear hK4 K4
  refine wp_ret ?_
  refine th_r ?_
  clear hK2 K2
  refine ret_r1 rfl rfl ?_  -- r1
  first | exact ⟨rfl, G⟩ | exact ⟨vT (by omega), G⟩
 · -- c1F
  replace hb1 := nb_tf hb1
  have hx : xs.length ≤ 1048576 := by omega
  refine wp_skip ?_
  refine th_n (hK2 _ _ ?_)
  clear hK2 K2
  refine wp_seq_k fun K5 hK5 => ?_
  refine Sb 88 rfl ?_  -- 3
  refine S_val (Y_move rfl) ?_
  refine S_call rfl en40 (spec_DrawLeakedCells_c _ _ _ _ _ (by assumption) (by omega) (by omega) (by assumption)) ?_  -- k1 spec.DrawLeakedCells
  rintro v1 w1 ⟨hD1, A1, B1, n11, c11, n21, c21, rfl, hn11, hn21, hz1, RC1, RR1, g1⟩
  replace hA := hA.grow g1
  replace G := G.grow g1
  have zg1 := g1.size
  subst hn11
  subst hn21
  obtain ⟨h, rfl⟩ : ∃ x, x = hD1 := ⟨_, rfl⟩
  obtain ⟨AD, rfl⟩ : ∃ x, x = A1 := ⟨_, rfl⟩
  obtain ⟨BD, rfl⟩ : ∃ x, x = B1 := ⟨_, rfl⟩
  obtain ⟨cD, rfl⟩ : ∃ x, x = c11 := ⟨_, rfl⟩
  obtain ⟨dD, rfl⟩ : ∃ x, x = c21 := ⟨_, rfl⟩
  have hzD := hz1
  have hzcD := hsize_cells h
  have hzrD := hsize_roots h
  have hDA := RC1.below
  have hDB := RR1.below
  have hll := leakV_len h
  have hrl := reachV_le h
  refine S_alloc (cs := [_, _]) zr26 rfl ?_
  intro b2 w2 fb2 g2 B2
  have lb2 := B2.lt
  replace hA := hA.grow g2
  replace hDA := hDA.grow g2
  replace hDB := hDB.grow g2
  replace G := G.grow g2
  have zg2 := g2.size
  refine S_stM (pre := []) (old := [_, _]) (post := []) (vs := [_, _]) sz26 rfl rfl rfl (by first | rfl | assumption) B2 rfl rfl ?_
  intro w3 m3 X3
  replace B2 := Blk.eq (ys := [_, _]) X3 rfl
  clear X3
  replace G := G.abv m3
  replace hA := hA0.grow G
  replace hDA := hDA.md m3
  replace hDB := hDB.md m3
  have zm3 := m3.size
  refine S_nl rfl rfl ?_
  refine th_n (hK5 _ _ ?_)
  clear hK5 K5
  refine wp_seq_k fun K6 hK6 => ?_
  refine Sb 88 rfl ?_  -- 4
  refine S_val (Y_loadS Try.underlying26 rfl sz26 rfl (B2.row (by rfl))) ?_  -- l1
  refine S_call rfl en41 (impl_LeakedCells_c _ _ _ _ _ _ _ (by assumption) (by assumption) (by omega)) ?_  -- k2 impl.LeakedCells
  rintro v4 w4 ⟨A4, q4, cap4, rfl, hq4, O4, g4⟩
  replace hA := hA.grow g4
  replace hDA := hDA.grow g4
  replace hDB := hDB.grow g4
  replace G := G.grow g4
  replace B2 := B2.grow g4
  have zg4 := g4.size
  subst hq4
  have hRx := O4.lt.r1
  refine S_val (Y_assign rfl) ?_
  refine S_nl rfl rfl ?_
  refine th_n (hK6 _ _ ?_)
  clear hK6 K6
  refine wp_seq_k fun K7 hK7 => ?_
  refine wp_seq_k fun K8 hK8 => ?_
  refine Sb 88 rfl ?_  -- 5
  refine S_val (Y_move rfl) ?_
  refine S_val (Y_loadS Try.underlying26 rfl sz26 rfl (B2.row (by rfl))) ?_  -- l2
  refine S_call rfl en42 (spec_LeakedCells_c _ _ _ _ _ _ _ (by assumption) (by assumption) (by omega)) ?_  -- k3 spec.LeakedCells
  rintro v5 w5 ⟨A5, q5, cap5, rfl, hq5, O5, g5⟩
  replace hA := hA.grow g5
  replace hDA := hDA.grow g5
  replace hDB := hDB.grow g5
  replace hRx := hRx.grow g5
  replace G := G.grow g5
  replace B2 := B2.grow g5
  have zg5 := g5.size
  subst hq5
  have hRs := O5.lt.r1
  refine S_call rfl en17 (laws_sameInts_c _ _ _ _ _ _ _ _ _ (by assumption) (by assumption) (by omega)) ?_  -- k4 laws.sameInts
  rintro v6 w6 ⟨rfl, g6⟩
  replace hA := hA.grow g6
  replace hDA := hDA.grow g6
  replace hDB := hDB.grow g6
  replace hRx := hRx.grow g6
  replace hRs := hRs.grow g6
  replace G := G.grow g6
  replace B2 := B2.grow g6
  have zg6 := g6.size
  refine S_val (Y_not rfl) ?_
  refine S_nl rfl rfl ?_
  refine th_n (hK8 _ _ ?_)
  clear hK8 K8
  refine S_if rfl (fun hb2 => ?_) (fun hb2 => ?_)  -- c2
  · -- c2T
   first | with_reducible (replace hb2 := nb_nt hb2) | with_reducible (replace hb2 := nb_tt hb2) | with_reducible (replace hb2 := nb_bt hb2) | skip
   exact absurd rfl hb2
  · -- c2F
   first | with_reducible (replace hb2 := nb_nf hb2) | with_reducible (replace hb2 := nb_tf hb2) | with_reducible (replace hb2 := nb_bf hb2) | skip
   refine wp_skip ?_
   refine th_n (hK7 _ _ ?_)
   clear hK7 K7
   refine wp_seq_k fun K9 hK9 => ?_
   refine wp_seq_k fun K10 hK10 => ?_
   refine Sb 88 rfl ?_  -- 7
   refine S_val (Y_loadS Try.underlying26 rfl sz26 rfl (B2.row (by rfl))) ?_  -- l3
   refine S_call rfl en19 (spec_HeapValid_c _ _ _ _ _ _ _ (by assumption) (by assumption) (by omega)) ?_  -- k5 spec.HeapValid
   rintro v7 w7 ⟨rfl, g7⟩
   replace hA := hA.grow g7
   replace hDA := hDA.grow g7
   replace hDB := hDB.grow g7
   replace hRx := hRx.grow g7
   replace hRs := hRs.grow g7
   replace G := G.grow g7
   replace B2 := B2.grow g7
   have zg7 := g7.size
   refine S_val (Y_not rfl) ?_
   refine S_nl rfl rfl ?_
   refine th_n (hK10 _ _ ?_)
   clear hK10 K10
   refine S_if rfl (fun hb3 => ?_) (fun hb3 => ?_)  -- c3
   · -- c3T
    first | with_reducible (replace hb3 := nb_nt hb3) | with_reducible (replace hb3 := nb_tt hb3) | with_reducible (replace hb3 := nb_bt hb3) | skip
    have hrf := leakV_f hb3
    have hr0 : (leakV h).length = 0 := by rw [hrf]; rfl
    refine wp_seq_k fun K11 hK11 => ?_
    refine Sb 88 rfl ?_  -- 8
    refine S_val (Y_move rfl) ?_
    refine S_val (Y_len Try.underlying24 rfl) ?_
    refine S_val (Y_eql rfl rfl) ?_
    refine S_val (Y_move rfl) ?_
    refine S_g 28 rfl (fun hb4 => ?_) (fun hb4 => ?_)  -- g1
    · -- g1T
     replace hb4 := nb_tt hb4
     refine S_on rfl rfl ?_
     refine S_call rfl en20 (laws_alive_c _) ?_  -- k6 laws.alive
     rintro v8 w8 ⟨rfl, g8⟩
     replace hA := hA.grow g8
     replace hDA := hDA.grow g8
     replace hDB := hDB.grow g8
     replace hRx := hRx.grow g8
     replace hRs := hRs.grow g8
     replace G := G.grow g8
     replace B2 := B2.grow g8
     have zg8 := g8.size
     refine S_val (Y_pickT rfl rfl) ?_
     refine S_val (Y_assign rfl) ?_
     refine S_nl rfl rfl ?_
     refine th_n (hK11 _ _ ?_)
     clear hK11 K11
     refine wp_ret ?_
     refine th_r ?_
     clear hK9 K9
     refine ret_r1 rfl rfl ?_  -- r2
     first | exact ⟨rfl, G⟩ | exact ⟨vT (by omega), G⟩
    · -- g1F
     replace hb4 := nb_tf hb4
     omega
   · -- c3F
    first | with_reducible (replace hb3 := nb_nf hb3) | with_reducible (replace hb3 := nb_tf hb3) | with_reducible (replace hb3 := nb_bf hb3) | skip
    have va := valid_iff.1 hb3
    have hv9 := hb3
    have h40 := va.le
    have hr4 := va.roots4
    have hrl2 := reachV_len hv9
    have hle := leakV_eq va
    refine wp_skip ?_
    refine th_n (hK9 _ _ ?_)
    clear hK9 K9
    refine wp_seq_k fun K12 hK12 => ?_
    refine Sb 88 rfl ?_  -- 9
    refine S_val (Y_loadS Try.underlying26 rfl sz26 rfl (B2.row (by rfl))) ?_  -- l4
    refine S_call rfl en21 (impl_Reachable_c _ _ _ _ _ _ _ (by assumption) (by assumption) (by omega)) ?_  -- k7 impl.Reachable
    rintro v9 w9 ⟨A9, q9, cap9, rfl, hq9, O9, g9⟩
    replace hA := hA.grow g9
    replace hDA := hDA.grow g9
    replace hDB := hDB.grow g9
    replace hRx := hRx.grow g9
    replace hRs := hRs.grow g9
    replace G := G.grow g9
    replace B2 := B2.grow g9
    have zg9 := g9.size
    subst hq9
    have hRr := O9.lt.r1
    refine S_val (Y_assign rfl) ?_
    refine S_nl rfl rfl ?_
    refine th_n (hK12 _ _ ?_)
    clear hK12 K12
    refine wp_seq_k fun K13 hK13 => ?_
    refine Sb 88 rfl ?_  -- 10
    refine S_val (Y_assign rfl) ?_
    refine S_nl rfl rfl ?_
    refine th_n (hK13 _ _ ?_)
    clear hK13 K13
    refine wp_seq_k fun K14 hK14 => ?_
    refine wp_seq_k fun K15 hK15 => ?_
    refine Sb 88 rfl ?_  -- 11
    refine S_val (Y_assign rfl) ?_
    refine S_nl rfl rfl ?_
    refine th_n (hK15 _ _ ?_)
    clear hK15 K15
    refine wp_block ?_
    go_loopw [6, 7] (fun u6 u7 wr => (∃ k : Nat, u7 = .int .i64 k ∧ u6 = .int .i64 ((cntP (leakP h) k : Nat) : Int) ∧ k ≤ h.cells.length) ∧ Mod No w9 wr) (fun u6 u7 wr => h.cells.length - (intOf u7).toNat)  -- L1
    case atStart =>
     refine ⟨?_, Mod.refl _ _⟩
     exact ⟨0, rfl, rfl, by omega⟩
    case round =>
     obtain ⟨w10, rfl⟩ : ∃ x : World, x = wr := ⟨_, rfl⟩
     obtain ⟨hrel, g10⟩ := hrel
     replace hA := hA.grow g10
     replace hDA := hDA.grow g10
     replace hDB := hDB.grow g10
     replace hRx := hRx.grow g10
     replace hRs := hRs.grow g10
     replace hRr := hRr.grow g10
     replace G := G.grow g10
     replace B2 := B2.grow g10
     have zg10 := g10.size
     obtain ⟨k, rfl, rfl, hk⟩ := hrel
     have hcp := cntP_le (leakP h) k
     have GL10 := g10
     refine wp_seq_k fun K16 hK16 => ?_
     refine wp_seq_k fun K17 hK17 => ?_
     refine Sb 88 rfl ?_  -- 12
     refine S_val (Y_move rfl) ?_
     refine S_val (Y_field Try.underlying26 rfl fz26_0 (by decide) rfl) ?_
     refine S_val (Y_load Try.underlying23 rfl rfl (B2.at (by rfl))) ?_  -- l5
     refine S_val (Y_len Try.underlying23 rfl) ?_
     refine S_val (Y_lss rfl rfl) ?_
     refine S_val (Y_move rfl) ?_
     refine S_g 38 rfl (fun hb4 => ?_) (fun hb4 => ?_)  -- g2
     · -- g2T
      replace hb4 := nb_tt hb4
      refine S_on rfl rfl ?_
      refine S_val (Y_move rfl) ?_
      refine S_on rfl rfl ?_
      refine S_val (Y_move rfl) ?_
      refine S_on rfl rfl ?_
      refine S_val (Y_len Try.underlying32 rfl) ?_
      refine S_on rfl rfl ?_
      refine S_val (Y_lss rfl rfl) ?_
      refine S_val (Y_pickT rfl rfl) ?_
      refine S_nl rfl rfl ?_
      refine th_n (hK17 _ _ ?_)
      clear hK17 K17
      refine S_if rfl (fun hb5 => ?_) (fun hb5 => ?_)  -- c4
      · -- c4T
       first | with_reducible (replace hb5 := nb_nt hb5) | with_reducible (replace hb5 := nb_tt hb5) | with_reducible (replace hb5 := nb_bt hb5) | skip
       have hkN : k < h.cells.length := by omega
       obtain ⟨g2, o2, E2, d2, e2, hp2, cc2, hE2⟩ := hDA.cell (k := k) hkN
       cases e2
       obtain ⟨g6, o6, e6, hp6, hc6⟩ := hRr.bool (k := k) (by omega)
       cases e6
       rw [reachV_at hv9] at hc6
       refine wp_skip ?_
       refine th_n (hK16 _ _ ?_)
       clear hK16 K16
       refine wp_seq_k fun K18 hK18 => ?_
       refine wp_block ?_
       refine wp_seq_k fun K19 hK19 => ?_
       refine Sb 88 rfl ?_  -- 14
       refine S_val (Y_field Try.underlying26 rfl fz26_0 (by decide) rfl) ?_
       refine S_val (Y_load Try.underlying23 rfl rfl (B2.at (by rfl))) ?_  -- l6
       refine S_val (Y_move rfl) ?_
       refine S_val (Y_index Try.underlying23 sz37 rfl rfl (by first | assumption | omega)) ?_
       refine S_val (Y_field Try.underlying37 rfl fz37_0 (by decide) rfl) ?_
       refine S_val (Y_load Try.underlying4 rfl rfl (by first | assumption | exact cc2.at (by rfl) | exact B2.at (by rfl))) ?_  -- l7
       refine S_val (Y_move rfl) ?_
       refine S_g 52 rfl (fun hb6 => ?_) (fun hb6 => ?_)  -- g3
       · -- g3T
        first | with_reducible (replace hb6 := nb_nt hb6) | with_reducible (replace hb6 := nb_tt hb6) | with_reducible (replace hb6 := nb_bt hb6) | skip
        refine S_on rfl rfl ?_
        refine S_val (Y_move rfl) ?_
        refine S_on rfl rfl ?_
        refine S_val (Y_move rfl) ?_
        refine S_on rfl rfl ?_
        refine S_val (Y_index Try.underlying32 sz4 rfl rfl (by first | assumption | omega)) ?_
        refine S_on rfl rfl ?_
        refine S_val (Y_load Try.underlying4 rfl rfl (by first | assumption | exact cc2.at (by rfl) | exact B2.at (by rfl))) ?_  -- l8
        refine S_on rfl rfl ?_
        refine S_val (Y_not rfl) ?_
        refine S_val (Y_pickT rfl rfl) ?_
        refine S_nl rfl rfl ?_
        refine th_n (hK19 _ _ ?_)
        clear hK19 K19
        refine S_if rfl (fun hb7 => ?_) (fun hb7 => ?_)  -- c5
        · -- c5T
         first | with_reducible (replace hb7 := nb_nt hb7) | with_reducible (replace hb7 := nb_tt hb7) | with_reducible (replace hb7 := nb_bt hb7) | skip
         have hlp : leakP h k = true := by unfold leakP; rw [usedAt_at hkN, (by assumption : h.cells[k].used = true), hb7]; rfl
         obtain ⟨hl1, hl2⟩ := leak_at hv9 hkN hlp
         obtain ⟨g5, o5, e5, hp5, hc5⟩ := hRx.int (k := cntP (leakP h) k) hl1
         cases e5
         rw [hl2] at hc5
         refine wp_seq_k fun K20 hK20 => ?_
         refine wp_seq_k fun K21 hK21 => ?_
         refine Sb 88 rfl ?_  -- 15
         refine S_val (Y_move rfl) ?_
         refine S_val (Y_move rfl) ?_
         refine S_val (Y_len Try.underlying24 rfl) ?_
         refine S_val (Y_geq rfl rfl) ?_
         refine S_val (Y_move rfl) ?_
         refine S_g 63 rfl (fun hb8 => ?_) (fun hb8 => ?_)  -- g4
         · -- g4T
          replace hb8 := nb_tt hb8
          omega
         · -- g4F
          replace hb8 := nb_tf hb8
          refine S_on rfl rfl ?_
          refine S_val (Y_move rfl) ?_
          refine S_on rfl rfl ?_
          refine S_val (Y_move rfl) ?_
          refine S_on rfl rfl ?_
          refine S_val (Y_index Try.underlying24 sz3 rfl rfl (by first | assumption | omega)) ?_
          refine S_on rfl rfl ?_
          refine S_val (Y_load Try.underlying3 rfl rfl (by first | assumption | exact cc2.at (by rfl) | exact B2.at (by rfl))) ?_  -- l9
          refine S_on rfl rfl ?_
          refine S_val (Y_move rfl) ?_
          refine S_on rfl rfl ?_
          refine S_val (Y_neq rfl rfl) ?_
          refine S_val (Y_pickF rfl rfl) ?_
          refine S_nl rfl rfl ?_
          refine th_n (hK21 _ _ ?_)
          clear hK21 K21
          refine S_if rfl (fun hb9 => ?_) (fun hb9 => ?_)  -- c6
          · -- c6T
           first | with_reducible (replace hb9 := nb_nt hb9) | with_reducible (replace hb9 := nb_tt hb9) | with_reducible (replace hb9 := nb_bt hb9) | skip
           exact absurd rfl hb9
          · -- c6F
           first | with_reducible (replace hb9 := nb_nf hb9) | with_reducible (replace hb9 := nb_tf hb9) | with_reducible (replace hb9 := nb_bf hb9) | skip
           refine wp_skip ?_
           refine th_n (hK20 _ _ ?_)
           clear hK20 K20
           refine Sb 88 rfl ?_  -- 17
           refine S_val (Y_move rfl) ?_
           refine S_val (Y_inc rfl rfl (by omega)) ?_
           refine S_val (Y_assign rfl) ?_
           refine S_nl rfl rfl ?_
           refine ib_n ?_
           refine th_n (hK18 _ _ ?_)
           clear hK18 K18
           refine Sb 88 rfl ?_  -- 13
           refine S_val (Y_move rfl) ?_
           refine S_val (Y_inc rfl rfl (by omega)) ?_
           refine S_val (Y_assign rfl) ?_
           refine S_nl rfl rfl ?_
           refine th_n ?_
           go_roundw  -- e1 of L1
           case rel =>
            refine ⟨?_, GL10⟩
            first | exact ⟨k + 1, rfl, by rw [cntP_yes hlp], by omega⟩ | exact ⟨k + 1, rfl, by rw [cntP_no hlp], by omega⟩
           case measure =>
            exact dec_nat (by omega)
        · -- c5F
         first | with_reducible (replace hb7 := nb_nf hb7) | with_reducible (replace hb7 := nb_tf hb7) | with_reducible (replace hb7 := nb_bf hb7) | skip
         have hlp : leakP h k = false := by unfold leakP; rw [hb7, Bool.and_comm]; rfl
         refine wp_skip ?_
         refine ib_n ?_
         refine th_n (hK18 _ _ ?_)
         clear hK18 K18
         refine Sb 88 rfl ?_  -- 13
         refine S_val (Y_move rfl) ?_
         refine S_val (Y_inc rfl rfl (by omega)) ?_
         refine S_val (Y_assign rfl) ?_
         refine S_nl rfl rfl ?_
         refine th_n ?_
         go_roundw  -- e2 of L1
         case rel =>
          refine ⟨?_, GL10⟩
          first | exact ⟨k + 1, rfl, by rw [cntP_yes hlp], by omega⟩ | exact ⟨k + 1, rfl, by rw [cntP_no hlp], by omega⟩
         case measure =>
          exact dec_nat (by omega)
       · -- g3F
        first | with_reducible (replace hb6 := nb_nf hb6) | with_reducible (replace hb6 := nb_tf hb6) | with_reducible (replace hb6 := nb_bf hb6) | skip
        have hlp : leakP h k = false := by unfold leakP; rw [usedAt_at hkN, hb6]; rfl
        refine S_off rfl rfl ?_
        refine S_off rfl rfl ?_
        refine S_off rfl rfl ?_
        refine S_off rfl rfl ?_
        refine S_off rfl rfl ?_
        refine S_val (Y_pickF rfl rfl) ?_
        refine S_nl rfl rfl ?_
        refine th_n (hK19 _ _ ?_)
        clear hK19 K19
        refine S_ifF rfl ?_
        refine wp_skip ?_
        refine ib_n ?_
        refine th_n (hK18 _ _ ?_)
        clear hK18 K18
        refine Sb 88 rfl ?_  -- 13
        refine S_val (Y_move rfl) ?_
        refine S_val (Y_inc rfl rfl (by omega)) ?_
        refine S_val (Y_assign rfl) ?_
        refine S_nl rfl rfl ?_
        refine th_n ?_
        go_roundw  -- e3 of L1
        case rel =>
         refine ⟨?_, GL10⟩
         first | exact ⟨k + 1, rfl, by rw [cntP_yes hlp], by omega⟩ | exact ⟨k + 1, rfl, by rw [cntP_no hlp], by omega⟩
        case measure =>
         exact dec_nat (by omega)
      · -- c4F
       first | with_reducible (replace hb5 := nb_nf hb5) | with_reducible (replace hb5 := nb_tf hb5) | with_reducible (replace hb5 := nb_bf hb5) | skip
       omega
     · -- g2F
      replace hb4 := nb_tf hb4
      have hkE : k = h.cells.length := by omega
      rw [← hkE] at hle
      refine S_off rfl rfl ?_
      refine S_off rfl rfl ?_
      refine S_off rfl rfl ?_
      refine S_off rfl rfl ?_
      refine S_val (Y_pickF rfl rfl) ?_
      refine S_nl rfl rfl ?_
      refine th_n (hK17 _ _ ?_)
      clear hK17 K17
      refine S_ifF rfl ?_
      refine wp_exit ?_
      refine th_x ?_
      try clear GL10
      refine th_x ?_
      refine ib_e ?_
      refine th_n (hK14 _ _ ?_)
      clear hK16 K16 hK14 K14
      refine wp_seq_k fun K22 hK22 => ?_
      refine Sb 88 rfl ?_  -- 18
      refine S_val (Y_loadS Try.underlying26 rfl sz26 rfl (B2.row (by rfl))) ?_  -- l10
      refine S_call rfl en43 (impl_CollectSweep_c _ _ _ _ _ _ _ (by assumption) (by assumption) (by omega)) ?_  -- k8 impl.CollectSweep
      rintro v11 w11 ⟨A11, B11, n111, c111, n211, c211, rs11, rfl, hn111, hn211, O11, g11⟩
      replace hA := hA.grow g11
      replace hDA := hDA.grow g11
      replace hDB := hDB.grow g11
      replace hRx := hRx.grow g11
      replace hRs := hRs.grow g11
      replace hRr := hRr.grow g11
      replace G := G.grow g11
      replace B2 := B2.grow g11
      have zg11 := g11.size
      obtain ⟨hS, hSe⟩ : ∃ x, x = (sweepV h (reachV h)).1 := ⟨_, rfl⟩
      have hSc : hS = sweptH h := by rw [hSe, swept_eq va]
      have hSz : hsize hS ≤ 200 := by rw [hSe]; exact sweep_small _ _
      rw [← hSe] at hn111 hn211 O11
      subst hn111
      subst hn211
      have hSA := O11.lt.rc
      have hSB := O11.lt.r1
      have hvS := valid_iff.2 (swept_valid va)
      have hnl : leakV hS = [] := by rw [hSc]; exact no_leak (swept_valid va) (fun i => swept_none va i)
      have hnl0 : (leakV hS).length = 0 := by rw [hnl]; rfl
      refine S_val (Y_move rfl) ?_
      refine S_val (Y_extract rfl rfl) ?_
      refine S_val (Y_extract rfl rfl) ?_
      refine S_alloc (cs := [_, _]) zr26 rfl ?_
      intro b12 w12 fb12 g12 B12
      have lb12 := B12.lt
      replace hA := hA.grow g12
      replace hDA := hDA.grow g12
      replace hDB := hDB.grow g12
      replace hRx := hRx.grow g12
      replace hRs := hRs.grow g12
      replace hRr := hRr.grow g12
      replace hSA := hSA.grow g12
      replace hSB := hSB.grow g12
      replace G := G.grow g12
      replace B2 := B2.grow g12
      have zg12 := g12.size
      refine S_stM (pre := []) (old := [_, _]) (post := []) (vs := [_, _]) sz26 rfl rfl rfl (by first | rfl | assumption) B12 rfl rfl ?_
      intro w13 m13 X13
      replace B12 := Blk.eq (ys := [_, _]) X13 rfl
      clear X13
      replace G := G.abv m13
      replace hA := hA0.grow G
      replace hDA := hDA.md m13
      replace hDB := hDB.md m13
      replace hRx := hRx.md m13
      replace hRs := hRs.md m13
      replace hRr := hRr.md m13
      replace hSA := hSA.md m13
      replace hSB := hSB.md m13
      replace B2 := B2.md m13
      have zm13 := m13.size
      refine S_val (Y_assign rfl) ?_
      refine S_nl rfl rfl ?_
      refine th_n (hK22 _ _ ?_)
      clear hK22 K22
      refine wp_seq_k fun K23 hK23 => ?_
      refine Sb 88 rfl ?_  -- 19
      refine S_val (Y_move rfl) ?_
      refine S_val (Y_move rfl) ?_
      refine S_val (Y_len Try.underlying24 rfl) ?_
      refine S_val (Y_eql rfl rfl) ?_
      refine S_val (Y_move rfl) ?_
      refine S_g 82 rfl (fun hb5 => ?_) (fun hb5 => ?_)  -- g5
      · -- g5T
       replace hb5 := nb_tt hb5
       refine S_on rfl rfl ?_
       refine S_val (Y_loadS Try.underlying26 rfl sz26 rfl (B12.row (by rfl))) ?_  -- l11
       refine S_on rfl rfl ?_
       refine S_call rfl en41 (impl_LeakedCells_c _ _ _ _ _ _ _ (by assumption) (by assumption) (by omega)) ?_  -- k9 impl.LeakedCells
       rintro v14 w14 ⟨A14, q14, cap14, rfl, hq14, O14, g14⟩
       replace hA := hA.grow g14
       replace hDA := hDA.grow g14
       replace hDB := hDB.grow g14
       replace hRx := hRx.grow g14
       replace hRs := hRs.grow g14
       replace hRr := hRr.grow g14
       replace hSA := hSA.grow g14
       replace hSB := hSB.grow g14
       replace G := G.grow g14
       replace B2 := B2.grow g14
       replace B12 := B12.grow g14
       have zg14 := g14.size
       subst hq14
       refine S_on rfl rfl ?_
       refine S_val (Y_len Try.underlying24 rfl) ?_
       refine S_on rfl rfl ?_
       refine S_val (Y_eql rfl rfl) ?_
       refine S_val (Y_pickT rfl rfl) ?_
       refine S_val (Y_assign rfl) ?_
       refine S_nl rfl rfl ?_
       refine th_n (hK23 _ _ ?_)
       clear hK23 K23
       refine wp_ret ?_
       refine ret_r1 rfl rfl ?_  -- r3
       first | exact ⟨rfl, G⟩ | exact ⟨vT (by omega), G⟩
      · -- g5F
       replace hb5 := nb_tf hb5
       omega

end Go.Proofs.Ytikgflhepclfgab
