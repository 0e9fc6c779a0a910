/-
  The law FnMarkSame returns true.
  Conditions: those that each theorem states.
-/
import Derived.Test.YtikgflhepclfgaaQb5
set_option linter.unusedVariables false
set_option linter.unusedSimpArgs false
namespace Go.Proofs.Ytikgflhepclfgaa
open Go Go.RowKit
attribute [local irreducible] wpList wpAnyH Code.wp dOp

set_option maxHeartbeats 400000 in
set_option maxRecDepth 20000 in
theorem laws_FnMarkSame_c (Pr : Nat → Prop) (A : Option Addr) (xs : List Int) (c : Nat) (w : World) (hA : R1 Pr w A (u8s xs)) (hn : xs.length ≤ 9223372036854775807) (hcap : xs.length ≤ c) (hrg : ∀ y ∈ xs, 0 ≤ y ∧ y ≤ 255) :
    Calls Try.prog 9 #[.slice A xs.length c] w (Ret fun v w' => v = .bool true ∧ Grow w w') := by
 refine enter Try.func9 rfl Try.ntmps9 (L := [_,_,_,_,_,_,_,_,_,_,_,_,_,_,_,_,_,_,_,_,_,_,_,_,_,_,_,_,_,_,_,_,_,_,_,_,_,_,_,_,_,_,_,_,_,_,_,_,_,_,_,_,_,_,_,_,_,_,_,_,_,_,_,_,_,_,_,_,_,_,_,_,_,_,_,_,_,_,_,_,_,_,_,_,_,_,_,_,_,_,_,_,_,_,_,_,_,_,_,_,_,_,_,_,_]) rfl ?_
 have G := Mod.refl No w
 have hA0 := hA
 refine wp_seq_k fun K1 hK1 => ?_
 refine Sb 105 rfl ?_  -- 0
 refine S_val (Y_assign rfl) ?_
 refine S_nl rfl rfl ?_
 refine th_n (hK1 _ _ ?_)
 clear hK1 K1
 refine wp_seq_k fun K2 hK2 => ?_
 refine wp_seq_k fun K3 hK3 => ?_
 refine Sb 105 rfl ?_  -- 1
 refine S_val (Y_move rfl) ?_
 refine S_val (Y_len Try.underlying22 rfl) ?_
 refine S_val (Y_gtr rfl rfl) ?_
 refine S_nl rfl rfl ?_
 refine th_n (hK3 _ _ ?_)
 clear hK3 K3
 refine S_if rfl (fun hb1 => ?_) (fun hb1 => ?_)  -- c1
 · -- c1T
  replace hb1 := nb_tt hb1
  refine wp_seq_k fun K4 hK4 => ?_
  refine Sb 105 rfl ?_  -- 2
  refine S_val (Y_assign rfl) ?_
  refine S_nl rfl rfl ?_
  refine th_n (hK4 _ _ ?_)
  clear hK4 K4
  refine wp_ret ?_
  refine th_r ?_
  clear hK2 K2
  refine ret_r1 rfl rfl ?_  -- r1
  exact ⟨rfl, G⟩
 · -- c1F
  replace hb1 := nb_tf hb1
  have hx : xs.length ≤ 1048576 := by omega
  refine wp_skip ?_
  refine th_n (hK2 _ _ ?_)
  clear hK2 K2
  refine wp_seq_k fun K5 hK5 => ?_
  refine Sb 105 rfl ?_  -- 3
  refine S_val (Y_move rfl) ?_
  refine S_call rfl en38 (spec_DrawMarkDepth_c _ _ _ _ _ (by assumption) (by omega) (by omega) (by assumption)) ?_  -- k1 spec.DrawMarkDepth
  rintro v1 w1 ⟨hD1, A1, B1, n11, c11, n21, c21, rfl, hn11, hn21, hz1, RC1, RR1, g1⟩
  replace hA := hA.grow g1
  replace G := G.grow g1
  have zg1 := g1.size
  subst hn11
  subst hn21
  obtain ⟨h, rfl⟩ : ∃ x, x = hD1 := ⟨_, rfl⟩
  obtain ⟨AD, rfl⟩ : ∃ x, x = A1 := ⟨_, rfl⟩
  obtain ⟨BD, rfl⟩ : ∃ x, x = B1 := ⟨_, rfl⟩
  obtain ⟨cD, rfl⟩ : ∃ x, x = c11 := ⟨_, rfl⟩
  obtain ⟨dD, rfl⟩ : ∃ x, x = c21 := ⟨_, rfl⟩
  have hzD := hz1
  have hzcD := hsize_cells h
  have hzrD := hsize_roots h
  have hDA := RC1.below
  have hDB := RR1.below
  have hdl := depthV_len h
  have hml := metV_len h
  have hbd := depth_bndX h
  have hbm := met_bndX h
  refine S_alloc (cs := [_, _]) zr35 rfl ?_
  intro b2 w2 fb2 g2 B2
  have lb2 := B2.lt
  replace hA := hA.grow g2
  replace hDA := hDA.grow g2
  replace hDB := hDB.grow g2
  replace G := G.grow g2
  have zg2 := g2.size
  refine S_stM (pre := []) (old := [_, _]) (post := []) (vs := [_, _]) sz35 rfl rfl rfl (by first | rfl | assumption) B2 rfl rfl ?_
  intro w3 m3 X3
  replace B2 := Blk.eq (ys := [_, _]) X3 rfl
  clear X3
  replace G := G.abv m3
  replace hA := hA0.grow G
  replace hDA := hDA.md m3
  replace hDB := hDB.md m3
  have zm3 := m3.size
  refine S_nl rfl rfl ?_
  refine th_n (hK5 _ _ ?_)
  clear hK5 K5
  refine wp_seq_k fun K6 hK6 => ?_
  refine Sb 105 rfl ?_  -- 4
  refine S_val (Y_loadS Try.underlying35 rfl sz35 rfl (B2.row (by rfl))) ?_  -- l1
  refine S_call rfl en39 (impl_MarkDepth_c _ _ _ _ _ _ _ (by assumption) (by assumption) (by omega)) ?_  -- k2 impl.MarkDepth
  rintro v4 w4 ⟨A4, q4, cap4, rfl, hq4, O4, g4⟩
  replace hA := hA.grow g4
  replace hDA := hDA.grow g4
  replace hDB := hDB.grow g4
  replace G := G.grow g4
  replace B2 := B2.grow g4
  have zg4 := g4.size
  subst hq4
  have hRx := O4.lt.r1
  refine S_val (Y_assign rfl) ?_
  refine S_nl rfl rfl ?_
  refine th_n (hK6 _ _ ?_)
  clear hK6 K6
  refine wp_seq_k fun K7 hK7 => ?_
  refine wp_seq_k fun K8 hK8 => ?_
  refine Sb 105 rfl ?_  -- 5
  refine S_val (Y_move rfl) ?_
  refine S_val (Y_loadS Try.underlying35 rfl sz35 rfl (B2.row (by rfl))) ?_  -- l2
  refine S_call rfl en40 (spec_MarkDepth_c _ _ _ _ _ _ _ (by assumption) (by assumption) (by omega)) ?_  -- k3 spec.MarkDepth
  rintro v5 w5 ⟨A5, q5, cap5, rfl, hq5, O5, g5⟩
  replace hA := hA.grow g5
  replace hDA := hDA.grow g5
  replace hDB := hDB.grow g5
  replace hRx := hRx.grow g5
  replace G := G.grow g5
  replace B2 := B2.grow g5
  have zg5 := g5.size
  subst hq5
  have hRs := O5.lt.r1
  refine S_call rfl en36 (laws_sameInts_c _ _ _ _ _ _ _ _ _ (by assumption) (by assumption) (by omega)) ?_  -- k4 laws.sameInts
  rintro v6 w6 ⟨rfl, g6⟩
  replace hA := hA.grow g6
  replace hDA := hDA.grow g6
  replace hDB := hDB.grow g6
  replace hRx := hRx.grow g6
  replace hRs := hRs.grow g6
  replace G := G.grow g6
  replace B2 := B2.grow g6
  have zg6 := g6.size
  refine S_val (Y_not rfl) ?_
  refine S_nl rfl rfl ?_
  refine th_n (hK8 _ _ ?_)
  clear hK8 K8
  refine S_if rfl (fun hb2 => ?_) (fun hb2 => ?_)  -- c2
  · -- c2T
   first | with_reducible (replace hb2 := nb_nt hb2) | with_reducible (replace hb2 := nb_tt hb2) | with_reducible (replace hb2 := nb_bt hb2) | skip
   exact absurd rfl hb2
  · -- c2F
   first | with_reducible (replace hb2 := nb_nf hb2) | with_reducible (replace hb2 := nb_tf hb2) | with_reducible (replace hb2 := nb_bf hb2) | skip
   refine wp_skip ?_
   refine th_n (hK7 _ _ ?_)
   clear hK7 K7
   refine wp_seq_k fun K9 hK9 => ?_
   refine Sb 105 rfl ?_  -- 7
   refine S_val (Y_loadS Try.underlying35 rfl sz35 rfl (B2.row (by rfl))) ?_  -- l3
   refine S_call rfl en28 (impl_MetOrder_c _ _ _ _ _ _ _ (by assumption) (by assumption) (by omega)) ?_  -- k5 impl.MetOrder
   rintro v7 w7 ⟨A7, q7, cap7, rfl, hq7, O7, g7⟩
   replace hA := hA.grow g7
   replace hDA := hDA.grow g7
   replace hDB := hDB.grow g7
   replace hRx := hRx.grow g7
   replace hRs := hRs.grow g7
   replace G := G.grow g7
   replace B2 := B2.grow g7
   have zg7 := g7.size
   subst hq7
   have hRb := O7.lt.r1
   refine S_val (Y_assign rfl) ?_
   refine S_nl rfl rfl ?_
   refine th_n (hK9 _ _ ?_)
   clear hK9 K9
   refine wp_seq_k fun K10 hK10 => ?_
   refine Sb 105 rfl ?_  -- 8
   refine S_val (Y_field Try.underlying35 rfl fz35_0 (by decide) rfl) ?_
   refine S_val (Y_load Try.underlying32 rfl rfl (B2.at (by rfl))) ?_  -- l4
   refine S_val (Y_len Try.underlying32 rfl) ?_
   refine S_make (n := h.cells.length) (l := h.cells.length) (z := [.bool false]) Try.underlying43 zr4 sz4 by4 rfl rfl (by omega) (by omega) (by omega) ?_
   intro b8 w8 fb8 g8 B8
   have lb8 := B8.lt
   replace hA := hA.grow g8
   replace hDA := hDA.grow g8
   replace hDB := hDB.grow g8
   replace hRx := hRx.grow g8
   replace hRs := hRs.grow g8
   replace hRb := hRb.grow g8
   replace G := G.grow g8
   replace B2 := B2.grow g8
   have zg8 := g8.size
   obtain ⟨bM, rfl⟩ : ∃ x, x = b8 := ⟨_, rfl⟩
   have BM := Blk.eq B8 (mB_zero _)
   refine S_val (Y_assign rfl) ?_
   refine S_nl rfl rfl ?_
   refine th_n (hK10 _ _ ?_)
   clear hK10 K10
   refine wp_seq_k fun K11 hK11 => ?_
   refine wp_seq_k fun K12 hK12 => ?_
   refine Sb 105 rfl ?_  -- 9
   refine S_val (Y_assign rfl) ?_
   refine S_nl rfl rfl ?_
   refine th_n (hK12 _ _ ?_)
   clear hK12 K12
   refine wp_block ?_
   go_loopw [7] (fun u7 wr => (∃ k : Nat, u7 = .int .i64 k ∧ k ≤ (depthV h).length ∧ Blk wr bM 4 (bools (mB h.cells.length ((depthV h).take k))).toArray) ∧ Mod (fun i => i = bM) w8 wr) (fun u7 wr => (depthV h).length - (intOf u7).toNat)  -- L1
   case atStart =>
    refine ⟨?_, Mod.refl _ _⟩
    exact ⟨0, rfl, by omega, BM⟩
   case round =>
    obtain ⟨w9, rfl⟩ : ∃ x : World, x = wr := ⟨_, rfl⟩
    obtain ⟨hrel, g9⟩ := hrel
    clear BM
    replace G := G.abv g9
    replace hA := hA0.grow G
    replace hDA := hDA.md g9
    replace hDB := hDB.md g9
    replace hRx := hRx.md g9
    replace hRs := hRs.md g9
    replace hRb := hRb.md g9
    replace B2 := B2.md g9
    have zg9 := g9.size
    obtain ⟨k, rfl, hk, BM⟩ := hrel
    have GL9 := g9
    refine wp_seq_k fun K13 hK13 => ?_
    refine wp_seq_k fun K14 hK14 => ?_
    refine Sb 105 rfl ?_  -- 10
    refine S_val (Y_move rfl) ?_
    refine S_val (Y_move rfl) ?_
    refine S_val (Y_len Try.underlying33 rfl) ?_
    refine S_val (Y_lss rfl rfl) ?_
    refine S_nl rfl rfl ?_
    refine th_n (hK14 _ _ ?_)
    clear hK14 K14
    refine S_if rfl (fun hb3 => ?_) (fun hb3 => ?_)  -- c3
    · -- c3T
     replace hb3 := nb_tt hb3
     have hk1 : k < (depthV h).length := by omega
     obtain ⟨n, hn, hnN, hng⟩ := bnd_at hbd hk1
     obtain ⟨g4, o4, e4, hp4, hc4⟩ := hRx.int (k := k) hk1
     cases e4
     rw [hn] at hc4
     refine wp_skip ?_
     refine th_n (hK13 _ _ ?_)
     clear hK13 K13
     refine wp_seq_k fun K15 hK15 => ?_
     refine wp_block ?_
     refine wp_seq_k fun K16 hK16 => ?_
     refine wp_seq_k fun K17 hK17 => ?_
     refine Sb 105 rfl ?_  -- 12
     refine S_val (Y_move rfl) ?_
     refine S_val (Y_move rfl) ?_
     refine S_val (Y_index Try.underlying33 sz3 rfl rfl (by first | assumption | omega)) ?_
     refine S_val (Y_load Try.underlying3 rfl rfl (by first | assumption | exact B2.at (by rfl) | exact BM.at (by rfl))) ?_  -- l5
     refine S_val (Y_lss rfl rfl) ?_
     refine S_val (Y_move rfl) ?_
     refine S_g 38 rfl (fun hb4 => ?_) (fun hb4 => ?_)  -- g1
     · -- g1T
      replace hb4 := nb_tt hb4
      omega
     · -- g1F
      replace hb4 := nb_tf hb4
      refine S_on rfl rfl ?_
      refine S_val (Y_move rfl) ?_
      refine S_on rfl rfl ?_
      refine S_val (Y_move rfl) ?_
      refine S_on rfl rfl ?_
      refine S_val (Y_index Try.underlying33 sz3 rfl rfl (by first | assumption | omega)) ?_
      refine S_on rfl rfl ?_
      refine S_val (Y_load Try.underlying3 rfl rfl (by first | assumption | exact B2.at (by rfl) | exact BM.at (by rfl))) ?_  -- l6
      refine S_on rfl rfl ?_
      refine S_val (Y_move rfl) ?_
      refine S_on rfl rfl ?_
      refine S_val (Y_len Try.underlying43 rfl) ?_
      refine S_on rfl rfl ?_
      refine S_val (Y_geq rfl rfl) ?_
      refine S_val (Y_pickF rfl rfl) ?_
      refine S_nl rfl rfl ?_
      refine th_n (hK17 _ _ ?_)
      clear hK17 K17
      refine S_if rfl (fun hb5 => ?_) (fun hb5 => ?_)  -- c4
      · -- c4T
       first | with_reducible (replace hb5 := nb_nt hb5) | with_reducible (replace hb5 := nb_tt hb5) | with_reducible (replace hb5 := nb_bt hb5) | skip
       omega
      · -- c4F
       first | with_reducible (replace hb5 := nb_nf hb5) | with_reducible (replace hb5 := nb_tf hb5) | with_reducible (replace hb5 := nb_bf hb5) | skip
       refine wp_skip ?_
       refine th_n (hK16 _ _ ?_)
       clear hK16 K16
       refine Sb 105 rfl ?_  -- 14
       refine S_val (Y_move rfl) ?_
       refine S_val (Y_move rfl) ?_
       refine S_val (Y_move rfl) ?_
       refine S_val (Y_index Try.underlying33 sz3 rfl rfl (by first | assumption | omega)) ?_
       refine S_val (Y_load Try.underlying3 rfl rfl (by first | assumption | exact B2.at (by rfl) | exact BM.at (by rfl))) ?_  -- l7
       refine S_val (Y_index Try.underlying43 sz4 rfl rfl (by first | assumption | omega)) ?_
       refine S_stM (pre := (bools (mB h.cells.length ((depthV h).take k))).take n) (old := [.bool (decide ((n : Int) ∈ ((depthV h).take k)))]) (post := (bools (mB h.cells.length ((depthV h).take k))).drop (n + 1)) (vs := [_]) sz4 rfl rfl rfl rfl (by rw [← mB_split (N := h.cells.length) (n := n) (s := ((depthV h).take k)) hnN]; exact BM) (by rw [List.length_take, bools_len, mB_len]; omega) rfl ?_
       intro w10 m10 X10
       replace BM := Blk.eq X10 (mB_set hnN)
       clear X10
       replace G := G.abv m10
       replace GL9 := GL9.trn m10
       replace hA := hA0.grow G
       replace hDA := hDA.md m10
       replace hDB := hDB.md m10
       replace hRx := hRx.md m10
       replace hRs := hRs.md m10
       replace hRb := hRb.md m10
       replace B2 := B2.md m10
       have zm10 := m10.size
       refine S_nl rfl rfl ?_
       refine ib_n ?_
       refine th_n (hK15 _ _ ?_)
       clear hK15 K15
       refine Sb 105 rfl ?_  -- 11
       refine S_val (Y_move rfl) ?_
       refine S_val (Y_inc rfl rfl (by omega)) ?_
       refine S_val (Y_assign rfl) ?_
       refine S_nl rfl rfl ?_
       refine th_n ?_
       go_roundw  -- e1 of L1
       case rel =>
        refine ⟨?_, GL9⟩
        exact ⟨k + 1, rfl, by omega, by rw [List.take_succ_eq_append_getElem hk1, hn]; exact BM⟩
       case measure =>
        exact dec_nat (by omega)
    · -- c3F
     replace hb3 := nb_tf hb3
     rw [List.take_of_length_le (by omega)] at BM
     refine wp_exit ?_
     refine th_x ?_
     try clear GL9
     refine th_x ?_
     refine ib_e ?_
     refine th_n (hK11 _ _ ?_)
     clear hK13 K13 hK11 K11
     refine wp_seq_k fun K18 hK18 => ?_
     refine wp_seq_k fun K19 hK19 => ?_
     refine Sb 105 rfl ?_  -- 15
     refine S_val (Y_assign rfl) ?_
     refine S_nl rfl rfl ?_
     refine th_n (hK19 _ _ ?_)
     clear hK19 K19
     refine wp_block ?_
     go_loopw [8] (fun u8 wr => (∃ k : Nat, u8 = .int .i64 k ∧ k ≤ (metV h).length) ∧ Mod No w9 wr) (fun u8 wr => (metV h).length - (intOf u8).toNat)  -- L2
     case atStart =>
      refine ⟨?_, Mod.refl _ _⟩
      exact ⟨0, rfl, by omega⟩
     case round =>
      obtain ⟨w11, rfl⟩ : ∃ x : World, x = wr := ⟨_, rfl⟩
      obtain ⟨hrel, g11⟩ := hrel
      replace hA := hA.grow g11
      replace hDA := hDA.grow g11
      replace hDB := hDB.grow g11
      replace hRx := hRx.grow g11
      replace hRs := hRs.grow g11
      replace hRb := hRb.grow g11
      replace G := G.grow g11
      replace B2 := B2.grow g11
      replace BM := BM.grow g11
      have zg11 := g11.size
      obtain ⟨k2, rfl, hk2⟩ := hrel
      have GL11 := g11
      refine wp_seq_k fun K20 hK20 => ?_
      refine wp_seq_k fun K21 hK21 => ?_
      refine Sb 105 rfl ?_  -- 16
      refine S_val (Y_move rfl) ?_
      refine S_val (Y_move rfl) ?_
      refine S_val (Y_len Try.underlying33 rfl) ?_
      refine S_val (Y_lss rfl rfl) ?_
      refine S_nl rfl rfl ?_
      refine th_n (hK21 _ _ ?_)
      clear hK21 K21
      refine S_if rfl (fun hb4 => ?_) (fun hb4 => ?_)  -- c5
      · -- c5T
       replace hb4 := nb_tt hb4
       have hk3 : k2 < (metV h).length := by omega
       obtain ⟨n, hn, hnN, hng⟩ := bnd_at hbm hk3
       obtain ⟨g4, o4, e4, hp4, hc4⟩ := hRb.int (k := k2) hk3
       cases e4
       rw [hn] at hc4
       have hcm : w11.cell? ⟨bM, 0 + n * 1, none⟩ = some (.bool (decide ((n : Int) ∈ depthV h))) := by simpa using BM.at (mB_at hnN)
       have hmm : (n : Int) ∈ depthV h := (depth_met_memX h n).2 (by rw [← hn]; exact List.getElem_mem hk3)
       refine wp_skip ?_
       refine th_n (hK20 _ _ ?_)
       clear hK20 K20
       refine wp_seq_k fun K22 hK22 => ?_
       refine wp_block ?_
       refine wp_seq_k fun K23 hK23 => ?_
       refine Sb 105 rfl ?_  -- 18
       refine S_val (Y_move rfl) ?_
       refine S_val (Y_move rfl) ?_
       refine S_val (Y_index Try.underlying33 sz3 rfl rfl (by first | assumption | omega)) ?_
       refine S_val (Y_load Try.underlying3 rfl rfl (by first | assumption | exact B2.at (by rfl) | exact BM.at (by rfl))) ?_  -- l8
       refine S_val (Y_lss rfl rfl) ?_
       refine S_val (Y_move rfl) ?_
       refine S_g 64 rfl (fun hb5 => ?_) (fun hb5 => ?_)  -- g2
       · -- g2T
        replace hb5 := nb_tt hb5
        omega
       · -- g2F
        replace hb5 := nb_tf hb5
        refine S_on rfl rfl ?_
        refine S_val (Y_move rfl) ?_
        refine S_on rfl rfl ?_
        refine S_val (Y_move rfl) ?_
        refine S_on rfl rfl ?_
        refine S_val (Y_index Try.underlying33 sz3 rfl rfl (by first | assumption | omega)) ?_
        refine S_on rfl rfl ?_
        refine S_val (Y_load Try.underlying3 rfl rfl (by first | assumption | exact B2.at (by rfl) | exact BM.at (by rfl))) ?_  -- l9
        refine S_on rfl rfl ?_
        refine S_val (Y_move rfl) ?_
        refine S_on rfl rfl ?_
        refine S_val (Y_len Try.underlying43 rfl) ?_
        refine S_on rfl rfl ?_
        refine S_val (Y_geq rfl rfl) ?_
        refine S_val (Y_pickF rfl rfl) ?_
        refine S_val (Y_move rfl) ?_
        refine S_g 73 rfl (fun hb6 => ?_) (fun hb6 => ?_)  -- g3
        · -- g3T
         first | with_reducible (replace hb6 := nb_nt hb6) | with_reducible (replace hb6 := nb_tt hb6) | with_reducible (replace hb6 := nb_bt hb6) | skip
         omega
        · -- g3F
         first | with_reducible (replace hb6 := nb_nf hb6) | with_reducible (replace hb6 := nb_tf hb6) | with_reducible (replace hb6 := nb_bf hb6) | skip
         refine S_on rfl rfl ?_
         refine S_val (Y_move rfl) ?_
         refine S_on rfl rfl ?_
         refine S_val (Y_move rfl) ?_
         refine S_on rfl rfl ?_
         refine S_val (Y_move rfl) ?_
         refine S_on rfl rfl ?_
         refine S_val (Y_index Try.underlying33 sz3 rfl rfl (by first | assumption | omega)) ?_
         refine S_on rfl rfl ?_
         refine S_val (Y_load Try.underlying3 rfl rfl (by first | assumption | exact B2.at (by rfl) | exact BM.at (by rfl))) ?_  -- l10
         refine S_on rfl rfl ?_
         refine S_val (Y_index Try.underlying43 sz4 rfl rfl (by first | assumption | omega)) ?_
         refine S_on rfl rfl ?_
         refine S_val (Y_load Try.underlying4 rfl rfl (by first | assumption | exact B2.at (by rfl) | exact BM.at (by rfl))) ?_  -- l11
         refine S_on rfl rfl ?_
         refine S_val (Y_not rfl) ?_
         refine S_val (Y_pickF rfl rfl) ?_
         refine S_nl rfl rfl ?_
         refine th_n (hK23 _ _ ?_)
         clear hK23 K23
         refine S_if rfl (fun hb7 => ?_) (fun hb7 => ?_)  -- c6
         · -- c6T
          first | with_reducible (replace hb7 := nb_nt hb7) | with_reducible (replace hb7 := nb_tt hb7) | with_reducible (replace hb7 := nb_bt hb7) | skip
          first | exact absurd hmm hb7 | (rw [decide_eq_false_iff_not] at hb7; exact absurd hmm hb7)
         · -- c6F
          first | with_reducible (replace hb7 := nb_nf hb7) | with_reducible (replace hb7 := nb_tf hb7) | with_reducible (replace hb7 := nb_bf hb7) | skip
          refine wp_skip ?_
          refine ib_n ?_
          refine th_n (hK22 _ _ ?_)
          clear hK22 K22
          refine Sb 105 rfl ?_  -- 17
          refine S_val (Y_move rfl) ?_
          refine S_val (Y_inc rfl rfl (by omega)) ?_
          refine S_val (Y_assign rfl) ?_
          refine S_nl rfl rfl ?_
          refine th_n ?_
          go_roundw  -- e2 of L2
          case rel =>
           refine ⟨?_, GL11⟩
           exact ⟨k2 + 1, rfl, by omega⟩
          case measure =>
           exact dec_nat (by omega)
      · -- c5F
       replace hb4 := nb_tf hb4
       refine wp_exit ?_
       refine th_x ?_
       try clear GL11
       refine th_x ?_
       refine ib_e ?_
       refine th_n (hK18 _ _ ?_)
       clear hK20 K20 hK18 K18
       refine wp_seq_k fun K24 hK24 => ?_
       refine D_start 23 105 (fun w => Mod (No) w) follows rfl rfl ?_  -- d1 r20
       intro w12 g12
       replace hA := hA.grow g12
       replace hDA := hDA.grow g12
       replace hDB := hDB.grow g12
       replace hRx := hRx.grow g12
       replace hRs := hRs.grow g12
       replace hRb := hRb.grow g12
       replace G := G.grow g12
       replace B2 := B2.grow g12
       replace BM := BM.grow g12
       have zg12 := g12.size
       have GS12 := Mod.refl (No) w12
       have hRxb := hRx
       have hRbb := hRb
       have hln := depth_met_len h
       refine Dq (i := 0) rfl GS12 (fun _ _ => Y_move rfl) ?_
       refine Dq (i := 1) rfl GS12 (fun _ _ => Y_len Try.underlying33 rfl) ?_
       refine Dq (i := 2) rfl GS12 (fun _ _ => Y_move rfl) ?_
       refine Dq (i := 3) rfl GS12 (fun _ _ => Y_len Try.underlying33 rfl) ?_
       refine Dq (i := 4) rfl GS12 (fun _ _ => Y_eql rfl rfl) ?_
       refine Dq (i := 5) rfl GS12 (fun _ _ => Y_move rfl) ?_
       refine D_g 88 rfl (fun hb5 => ?_) (fun hb5 => ?_)  -- g4
       · -- g4T
        replace hb5 := nb_tt hb5
        refine Dqon (i := 6) rfl rfl rfl GS12 (fun _ _ => Y_move rfl) ?_
        refine Dqon (i := 7) rfl rfl rfl GS12 (fun _ _ => Y_len Try.underlying33 rfl) ?_
        refine Dqon (i := 8) rfl rfl rfl GS12 (fun _ _ => Y_eql rfl rfl) ?_
        refine Dqon (i := 9) rfl rfl rfl GS12 (fun _ _ => Y_move rfl) ?_
        refine D_g 92 rfl (fun hb6 => ?_) (fun hb6 => ?_)  -- g5
        · -- g5T
         replace hb6 := nb_tt hb6
         refine Dqoff (i := 10) rfl rfl rfl GS12 ?_
         refine Dqoff (i := 11) rfl rfl rfl GS12 ?_
         refine Dqoff (i := 12) rfl rfl rfl GS12 ?_
         refine Dqoff (i := 13) rfl rfl rfl GS12 ?_
         refine Dqoff (i := 14) rfl rfl rfl GS12 ?_
         refine Dqoff (i := 15) rfl rfl rfl GS12 ?_
         refine Dqoff (i := 16) rfl rfl rfl GS12 ?_
         refine Dqon (i := 17) rfl rfl rfl GS12 (fun _ _ => Y_pickT rfl rfl) ?_
         refine Dq (i := 18) rfl GS12 (fun _ _ => Y_pickT rfl rfl) ?_
         refine Dq (i := 19) rfl GS12 (fun _ _ => Y_move rfl) ?_
         refine D_1 (i := 20) (by kernel_rfl) ?_
         refine E_calln rfl rfl rfl rfl en18 (laws_alive_c _) ?_  -- k6 laws.alive
         rintro v13 w13 ⟨rfl, g13⟩
         replace hA := hA.grow g13
         replace hDA := hDA.grow g13
         replace hDB := hDB.grow g13
         replace hRx := hRx.grow g13
         replace hRs := hRs.grow g13
         replace hRb := hRb.grow g13
         replace G := G.grow g13
         replace GS12 := GS12.grow g13
         replace B2 := B2.grow g13
         replace BM := BM.grow g13
         have zg13 := g13.size
         refine ⟨GS12, ?_⟩
         refine Dq (i := 21) rfl GS12 (fun _ _ => Y_pickT rfl rfl) ?_
         refine Dq (i := 22) rfl GS12 (fun _ _ => Y_assign rfl) ?_
         refine D_en (by kernel_rfl) rfl rfl ?_
         refine th_n (hK24 _ _ ?_)
         clear hK24 K24
         refine wp_ret ?_
         refine ret_r1 rfl rfl ?_  -- r2
         exact ⟨rfl, G⟩
        · -- g5F
         replace hb6 := nb_tf hb6
         have hl0 : 0 < (depthV h).length := by omega
         have hl1 : 0 < (metV h).length := by omega
         obtain ⟨g6, o6, e6, hp6, hc6⟩ := hRxb.int (k := 0) hl0
         cases e6
         obtain ⟨g7, o7, e7, hp7, hc7⟩ := hRbb.int (k := 0) hl1
         cases e7
         refine Dqon (i := 10) rfl rfl rfl GS12 (fun _ _ => Y_move rfl) ?_
         refine Dqon (i := 11) rfl rfl rfl GS12 (fun _ _ => Y_index (i := 0) Try.underlying33 sz3 rfl rfl (by first | assumption | omega)) ?_
         refine Dqon (i := 12) rfl rfl rfl GS12 (fun _ hs => Y_load Try.underlying3 rfl rfl (by first | exact hs.cell0 (by assumption) | exact hs.cell0 (B2.at (by rfl)) | exact hs.cell0 (BM.at (by rfl)))) ?_
         refine Dqon (i := 13) rfl rfl rfl GS12 (fun _ _ => Y_move rfl) ?_
         refine Dqon (i := 14) rfl rfl rfl GS12 (fun _ _ => Y_index (i := 0) Try.underlying33 sz3 rfl rfl (by first | assumption | omega)) ?_
         refine Dqon (i := 15) rfl rfl rfl GS12 (fun _ hs => Y_load Try.underlying3 rfl rfl (by first | exact hs.cell0 (by assumption) | exact hs.cell0 (B2.at (by rfl)) | exact hs.cell0 (BM.at (by rfl)))) ?_
         refine Dqon (i := 16) rfl rfl rfl GS12 (fun _ _ => Y_eql rfl rfl) ?_
         refine Dqon (i := 17) rfl rfl rfl GS12 (fun _ _ => Y_pickF rfl rfl) ?_
         refine Dq (i := 18) rfl GS12 (fun _ _ => Y_pickT rfl rfl) ?_
         refine Dq (i := 19) rfl GS12 (fun _ _ => Y_move rfl) ?_
         refine D_g 102 rfl (fun hb7 => ?_) (fun hb7 => ?_)  -- g6
         · -- g6T
          first | with_reducible (replace hb7 := nb_nt hb7) | with_reducible (replace hb7 := nb_tt hb7) | with_reducible (replace hb7 := nb_bt hb7) | skip
          refine D_1 (i := 20) (by kernel_rfl) ?_
          refine E_calln rfl rfl rfl rfl en18 (laws_alive_c _) ?_  -- k7 laws.alive
          rintro v14 w14 ⟨rfl, g14⟩
          replace hA := hA.grow g14
          replace hDA := hDA.grow g14
          replace hDB := hDB.grow g14
          replace hRx := hRx.grow g14
          replace hRs := hRs.grow g14
          replace hRb := hRb.grow g14
          replace G := G.grow g14
          replace GS12 := GS12.grow g14
          replace B2 := B2.grow g14
          replace BM := BM.grow g14
          have zg14 := g14.size
          refine ⟨GS12, ?_⟩
          refine Dq (i := 21) rfl GS12 (fun _ _ => Y_pickT rfl rfl) ?_
          refine Dq (i := 22) rfl GS12 (fun _ _ => Y_assign rfl) ?_
          refine D_en (by kernel_rfl) rfl rfl ?_
          refine th_n (hK24 _ _ ?_)
          clear hK24 K24
          refine wp_ret ?_
          refine ret_r1 rfl rfl ?_  -- r3
          exact ⟨rfl, G⟩
         · -- g6F
          first | with_reducible (replace hb7 := nb_nf hb7) | with_reducible (replace hb7 := nb_tf hb7) | with_reducible (replace hb7 := nb_bf hb7) | skip
          exact absurd (depth_met_zero hl0 hl1) hb7
       · -- g4F
        replace hb5 := nb_tf hb5
        omega

end Go.Proofs.Ytikgflhepclfgaa
