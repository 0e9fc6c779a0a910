/-
  The law FnTrialCounts returns true.
  Conditions: those that each theorem states.
-/
import Derived.Test.YtikgflhepclfgaaQc4
set_option linter.unusedVariables false
set_option linter.unusedSimpArgs false
namespace Go.Proofs.Ytikgflhepclfgaa
open Go Go.RowKit
attribute [local irreducible] wpList wpAnyH Code.wp dOp

set_option maxHeartbeats 2000000 in
set_option maxRecDepth 20000 in
theorem laws_FnTrialCounts_c (Pr : Nat → Prop) (A : Option Addr) (xs : List Int) (c : Nat) (w : World) (hA : R1 Pr w A (u8s xs)) (hn : xs.length ≤ 9223372036854775807) (hcap : xs.length ≤ c) (hrg : ∀ y ∈ xs, 0 ≤ y ∧ y ≤ 255) :
    Calls Try.prog 14 #[.slice A xs.length c] w (Ret fun v w' => v = .bool true ∧ Grow w w') := by
 refine enter Try.func14 rfl Try.ntmps14 (L := [_,_,_,_,_,_,_,_,_,_,_,_,_,_,_,_,_,_,_,_,_,_,_,_,_,_,_,_,_,_,_,_,_,_,_,_,_,_,_,_,_,_,_,_,_,_,_,_,_,_,_,_,_,_,_,_,_,_,_,_,_,_,_,_,_,_,_,_,_,_,_,_,_,_,_,_,_,_,_,_,_,_,_,_,_,_,_,_,_,_,_,_,_,_,_,_,_,_,_,_,_,_,_,_,_,_,_,_,_,_,_,_,_,_,_,_,_,_,_,_,_,_,_,_,_,_,_,_,_,_,_,_,_,_,_,_,_,_]) rfl ?_
 have G := Mod.refl No w
 have hA0 := hA
 refine wp_seq_k fun K1 hK1 => ?_
 refine Sb 138 rfl ?_  -- 0
 refine S_val (Y_assign rfl) ?_
 refine S_nl rfl rfl ?_
 refine th_n (hK1 _ _ ?_)
 clear hK1 K1
 refine wp_seq_k fun K2 hK2 => ?_
 refine wp_seq_k fun K3 hK3 => ?_
 refine Sb 138 rfl ?_  -- 1
 refine S_val (Y_move rfl) ?_
 refine S_val (Y_len Try.underlying22 rfl) ?_
 refine S_val (Y_gtr rfl rfl) ?_
 refine S_nl rfl rfl ?_
 refine th_n (hK3 _ _ ?_)
 clear hK3 K3
 refine S_if rfl (fun hb1 => ?_) (fun hb1 => ?_)  -- c1
 · -- c1T
  replace hb1 := nb_tt hb1
  refine wp_seq_k fun K4 hK4 => ?_
  refine Sb 138 rfl ?_  -- 2
  refine S_val (Y_assign rfl) ?_
  refine S_nl rfl rfl ?_
  refine th_n (hK4 _ _ ?_)
  clear hK4 K4
  refine wp_ret ?_
  refine th_r ?_
  clear hK2 K2
  refine ret_r1 rfl rfl ?_  -- r1
  first | exact ⟨rfl, G⟩ | exact ⟨vT (by omega), G⟩
 · -- c1F
  replace hb1 := nb_tf hb1
  have hx : xs.length ≤ 1048576 := by omega
  refine wp_skip ?_
  refine th_n (hK2 _ _ ?_)
  clear hK2 K2
  refine wp_seq_k fun K5 hK5 => ?_
  refine Sb 138 rfl ?_  -- 3
  refine S_val (Y_move rfl) ?_
  refine S_call rfl en55 (spec_DrawTrialCounts_c _ _ _ _ _ (by assumption) (by omega) (by omega) (by assumption)) ?_  -- k1 spec.DrawTrialCounts
  rintro v1 w1 ⟨hD1, A1, B1, n11, c11, n21, c21, bs1, C1, q31, c31, rfl, hn11, hn21, hz1, hx1, RC1, RR1, RB1, g1⟩
  replace hA := hA.grow g1
  replace G := G.grow g1
  have zg1 := g1.size
  subst hn11
  subst hn21
  obtain ⟨h, rfl⟩ : ∃ x, x = hD1 := ⟨_, rfl⟩
  obtain ⟨AD, rfl⟩ : ∃ x, x = A1 := ⟨_, rfl⟩
  obtain ⟨BD, rfl⟩ : ∃ x, x = B1 := ⟨_, rfl⟩
  obtain ⟨cD, rfl⟩ : ∃ x, x = c11 := ⟨_, rfl⟩
  obtain ⟨dD, rfl⟩ : ∃ x, x = c21 := ⟨_, rfl⟩
  have hzD := hz1
  have hzcD := hsize_cells h
  have hzrD := hsize_roots h
  have hDA := RC1.below
  have hDB := RR1.below
  obtain ⟨hq31, hl31⟩ := hx1
  subst hq31
  obtain ⟨bs, rfl⟩ : ∃ x, x = bs1 := ⟨_, rfl⟩
  obtain ⟨CM, rfl⟩ : ∃ x, x = C1 := ⟨_, rfl⟩
  have hbl0 := hl31
  have hRb := RB1.below
  have htl0 := triV_len h bs
  have hcl0 := countsV_len h
  refine S_val (Y_move rfl) ?_
  refine S_val (Y_extract rfl rfl) ?_
  refine S_val (Y_extract rfl rfl) ?_
  refine S_alloc (cs := [_, _]) zr35 rfl ?_
  intro b2 w2 fb2 g2 B2
  have lb2 := B2.lt
  replace hA := hA.grow g2
  replace hDA := hDA.grow g2
  replace hDB := hDB.grow g2
  replace hRb := hRb.grow g2
  replace G := G.grow g2
  have zg2 := g2.size
  refine S_stM (pre := []) (old := [_, _]) (post := []) (vs := [_, _]) sz35 rfl rfl rfl (by first | rfl | assumption) B2 rfl rfl ?_
  intro w3 m3 X3
  replace B2 := Blk.eq (ys := [_, _]) X3 rfl
  clear X3
  replace G := G.abv m3
  replace hA := hA0.grow G
  replace hDA := hDA.md m3
  replace hDB := hDB.md m3
  replace hRb := hRb.md m3
  have zm3 := m3.size
  refine S_val (Y_assign rfl) ?_
  refine S_nl rfl rfl ?_
  refine th_n (hK5 _ _ ?_)
  clear hK5 K5
  refine wp_seq_k fun K6 hK6 => ?_
  refine Sb 138 rfl ?_  -- 4
  refine S_val (Y_loadS Try.underlying35 rfl sz35 rfl (B2.row (by rfl))) ?_  -- l1
  refine S_val (Y_move rfl) ?_
  refine S_call rfl en56 (impl_TrialCounts_c _ _ _ _ _ h bs _ _ _ _ hDA hDB hRb (by omega) (by omega)) ?_  -- k2 impl.TrialCounts
  rintro v4 w4 ⟨A4, q4, cap4, rfl, hq4, O4, g4⟩
  replace hA := hA.grow g4
  replace hDA := hDA.grow g4
  replace hDB := hDB.grow g4
  replace hRb := hRb.grow g4
  replace G := G.grow g4
  replace B2 := B2.grow g4
  have zg4 := g4.size
  subst hq4
  have hRx := O4.lt.r1
  refine S_val (Y_assign rfl) ?_
  refine S_nl rfl rfl ?_
  refine th_n (hK6 _ _ ?_)
  clear hK6 K6
  refine wp_seq_k fun K7 hK7 => ?_
  refine wp_seq_k fun K8 hK8 => ?_
  refine Sb 138 rfl ?_  -- 5
  refine S_val (Y_move rfl) ?_
  refine S_val (Y_loadS Try.underlying35 rfl sz35 rfl (B2.row (by rfl))) ?_  -- l2
  refine S_val (Y_move rfl) ?_
  refine S_call rfl en57 (spec_TrialCounts_c _ _ _ _ _ h bs _ _ _ _ hDA hDB hRb (by omega) (by omega)) ?_  -- k3 spec.TrialCounts
  rintro v5 w5 ⟨A5, q5, cap5, rfl, hq5, O5, g5⟩
  replace hA := hA.grow g5
  replace hDA := hDA.grow g5
  replace hDB := hDB.grow g5
  replace hRb := hRb.grow g5
  replace hRx := hRx.grow g5
  replace G := G.grow g5
  replace B2 := B2.grow g5
  have zg5 := g5.size
  subst hq5
  have hRs := O5.lt.r1
  refine S_call rfl en36 (laws_sameInts_c _ _ _ _ _ _ _ _ _ (by assumption) (by assumption) (by omega)) ?_  -- k4 laws.sameInts
  rintro v6 w6 ⟨rfl, g6⟩
  replace hA := hA.grow g6
  replace hDA := hDA.grow g6
  replace hDB := hDB.grow g6
  replace hRb := hRb.grow g6
  replace hRx := hRx.grow g6
  replace hRs := hRs.grow g6
  replace G := G.grow g6
  replace B2 := B2.grow g6
  have zg6 := g6.size
  refine S_val (Y_not rfl) ?_
  refine S_nl rfl rfl ?_
  refine th_n (hK8 _ _ ?_)
  clear hK8 K8
  refine S_if rfl (fun hb2 => ?_) (fun hb2 => ?_)  -- c2
  · -- c2T
   first | with_reducible (replace hb2 := nb_nt hb2) | with_reducible (replace hb2 := nb_tt hb2) | with_reducible (replace hb2 := nb_bt hb2) | skip
   exact absurd rfl hb2
  · -- c2F
   first | with_reducible (replace hb2 := nb_nf hb2) | with_reducible (replace hb2 := nb_tf hb2) | with_reducible (replace hb2 := nb_bf hb2) | skip
   refine wp_skip ?_
   refine th_n (hK7 _ _ ?_)
   clear hK7 K7
   refine wp_seq_k fun K9 hK9 => ?_
   refine wp_seq_k fun K10 hK10 => ?_
   refine Sb 138 rfl ?_  -- 7
   refine S_val (Y_move rfl) ?_
   refine S_val (Y_len Try.underlying33 rfl) ?_
   refine S_val (Y_eql rfl rfl) ?_
   refine S_nl rfl rfl ?_
   refine th_n (hK10 _ _ ?_)
   clear hK10 K10
   refine S_if rfl (fun hb3 => ?_) (fun hb3 => ?_)  -- c3
   · -- c3T
    replace hb3 := nb_tt hb3
    refine wp_seq_k fun K11 hK11 => ?_
    refine Sb 138 rfl ?_  -- 8
    refine S_call rfl en18 (laws_alive_c _) ?_  -- k5 laws.alive
    rintro v7 w7 ⟨rfl, g7⟩
    replace hA := hA.grow g7
    replace hDA := hDA.grow g7
    replace hDB := hDB.grow g7
    replace hRb := hRb.grow g7
    replace hRx := hRx.grow g7
    replace hRs := hRs.grow g7
    replace G := G.grow g7
    replace B2 := B2.grow g7
    have zg7 := g7.size
    refine S_val (Y_assign rfl) ?_
    refine S_nl rfl rfl ?_
    refine th_n (hK11 _ _ ?_)
    clear hK11 K11
    refine wp_ret ?_
    refine th_r ?_
    clear hK9 K9
    refine ret_r1 rfl rfl ?_  -- r2
    first | exact ⟨rfl, G⟩ | exact ⟨vT (by omega), G⟩
   · -- c3F
    replace hb3 := nb_tf hb3
    obtain ⟨va, hbl, hin, hte⟩ := triV_pos (h := h) (bs := bs) (by omega)
    have hv9 := valid_iff.2 va
    have h40 := va.le
    rw [hte] at hRx
    rw [hte]
    have htl := triL_len h bs h.cells.length
    have hr4 := va.roots4
    have hul : (usedL h.cells).length = h.cells.length := by simp [usedL]
    refine wp_skip ?_
    refine th_n (hK9 _ _ ?_)
    clear hK9 K9
    refine wp_seq_k fun K12 hK12 => ?_
    refine Sb 138 rfl ?_  -- 9
    refine S_val (Y_loadS Try.underlying35 rfl sz35 rfl (B2.row (by rfl))) ?_  -- l3
    refine S_call rfl en42 (impl_RefCounts_c _ _ _ _ _ _ _ (by assumption) (by assumption) (by omega)) ?_  -- k6 impl.RefCounts
    rintro v8 w8 ⟨A8, q8, cap8, rfl, hq8, O8, g8⟩
    replace hA := hA.grow g8
    replace hDA := hDA.grow g8
    replace hDB := hDB.grow g8
    replace hRb := hRb.grow g8
    replace hRx := hRx.grow g8
    replace hRs := hRs.grow g8
    replace G := G.grow g8
    replace B2 := B2.grow g8
    have zg8 := g8.size
    subst hq8
    have hRc := O8.lt.r1
    have hcl := countsV_lenT hv9
    refine S_val (Y_assign rfl) ?_
    refine S_nl rfl rfl ?_
    refine th_n (hK12 _ _ ?_)
    clear hK12 K12
    refine wp_seq_k fun K13 hK13 => ?_
    refine Sb 138 rfl ?_  -- 10
    refine S_bs0 Try.underlying43 sz4 ?_
    intro b9 w9 fb9 g9 B9
    have lb9 := B9.lt
    replace hA := hA.grow g9
    replace hDA := hDA.grow g9
    replace hDB := hDB.grow g9
    replace hRb := hRb.grow g9
    replace hRx := hRx.grow g9
    replace hRs := hRs.grow g9
    replace hRc := hRc.grow g9
    replace G := G.grow g9
    replace B2 := B2.grow g9
    have zg9 := g9.size
    refine S_val (Y_assign rfl) ?_
    refine S_nl rfl rfl ?_
    refine th_n (hK13 _ _ ?_)
    clear hK13 K13
    refine wp_seq_k fun K14 hK14 => ?_
    refine wp_seq_k fun K15 hK15 => ?_
    refine Sb 138 rfl ?_  -- 11
    refine S_val (Y_assign rfl) ?_
    refine S_nl rfl rfl ?_
    refine th_n (hK15 _ _ ?_)
    clear hK15 K15
    refine wp_block ?_
    obtain ⟨loM, hloM⟩ : ∃ x, x = b9 := ⟨_, rfl⟩
    have O1 : OW (fun i => loM ≤ i) w9 4 1 (some ⟨b9, 0, none⟩) 0 0 (bools ((usedL h.cells).take 0)) := OW.of_blk B9 rfl (by decide) (by first | omega | (dsimp only; omega))
    go_loopw [7, 8] (fun u7 u8 wr => (∃ (k q cap : Nat) (A1 : Option Addr), u8 = .int .i64 k ∧ u7 = .slice A1 q cap ∧ k ≤ h.cells.length ∧ q = k ∧ OW (fun i => loM ≤ i) wr 4 1 A1 q cap (bools ((usedL h.cells).take k))) ∧ Mod (fun i => loM ≤ i) w9 wr) (fun u7 u8 wr => h.cells.length - (intOf u8).toNat)  -- L1
    case atStart =>
     refine ⟨?_, Mod.refl _ _⟩
     exact ⟨0, 0, 0, _, rfl, rfl, by omega, rfl, O1⟩
    case round =>
     obtain ⟨w10, rfl⟩ : ∃ x : World, x = wr := ⟨_, rfl⟩
     obtain ⟨hrel, g10⟩ := hrel
     clear O1
     replace G := G.abv g10
     replace hA := hA0.grow G
     replace hDA := hDA.md g10
     replace hDB := hDB.md g10
     replace hRb := hRb.md g10
     replace hRx := hRx.md g10
     replace hRs := hRs.md g10
     replace hRc := hRc.md g10
     replace B2 := B2.md g10
     have zg10 := g10.size
     obtain ⟨k, q1, cap1, A1, rfl, rfl, hk, hq1, O1⟩ := hrel
     have GL10 := g10
     refine wp_seq_k fun K16 hK16 => ?_
     refine wp_seq_k fun K17 hK17 => ?_
     refine Sb 138 rfl ?_  -- 12
     refine S_val (Y_move rfl) ?_
     refine S_val (Y_field Try.underlying35 rfl fz35_0 (by decide) rfl) ?_
     refine S_val (Y_load Try.underlying32 rfl rfl (B2.at (by rfl))) ?_  -- l4
     refine S_val (Y_len Try.underlying32 rfl) ?_
     refine S_val (Y_lss rfl rfl) ?_
     refine S_nl rfl rfl ?_
     refine th_n (hK17 _ _ ?_)
     clear hK17 K17
     refine S_if rfl (fun hb4 => ?_) (fun hb4 => ?_)  -- c4
     · -- c4T
      replace hb4 := nb_tt hb4
      have hkN : k < h.cells.length := by omega
      have hkb : k < bs.length := by omega
      have hts : (usedL h.cells).take (k + 1) = (usedL h.cells).take k ++ [h.cells[k].used] := by rw [List.take_succ_eq_append_getElem (by omega)]; simp [usedL]
      obtain ⟨g2, o2, E2, d2, e2, hp2, cc2, hE2⟩ := hDA.cell (k := k) hkN
      cases e2
      refine wp_skip ?_
      refine th_n (hK16 _ _ ?_)
      clear hK16 K16
      refine wp_seq_k fun K18 hK18 => ?_
      refine wp_block ?_
      refine wp_seq_k fun K19 hK19 => ?_
      refine Sb 138 rfl ?_  -- 14
      refine S_val (Y_move rfl) ?_
      refine S_val (Y_field Try.underlying35 rfl fz35_0 (by decide) rfl) ?_
      refine S_val (Y_load Try.underlying32 rfl rfl (B2.at (by rfl))) ?_  -- l5
      refine S_val (Y_move rfl) ?_
      refine S_val (Y_index Try.underlying32 sz39 rfl rfl (by first | assumption | omega)) ?_
      refine S_val (Y_field Try.underlying39 rfl fz39_0 (by decide) rfl) ?_
      refine S_val (Y_load Try.underlying4 rfl rfl (by first | assumption | exact cc2.at (by rfl) | exact B2.at (by rfl))) ?_  -- l6
      refine S_bs1 (cs := [_]) Try.underlying43 zr4 sz4 rfl rfl rfl ?_
      intro b11 w11 fb11 g11 B11
      have lb11 := B11.lt
      replace hA := hA.grow g11
      replace hDA := hDA.grow g11
      replace hDB := hDB.grow g11
      replace hRb := hRb.grow g11
      replace hRx := hRx.grow g11
      replace hRs := hRs.grow g11
      replace hRc := hRc.grow g11
      replace O1 := O1.grow g11
      replace G := G.grow g11
      replace GL10 := GL10.grow g11
      replace B2 := B2.grow g11
      replace cc2 := cc2.grow g11
      have zg11 := g11.size
      refine S_app Try.underlying43 zr4 sz4 by4 rfl rfl O1 rfl (Src.blk B11) (by simp [Value.oneCell']) (by omega) (Pr' := fun i => loM ≤ i) (fun i hi => hi) (by omega) ?_
      intro A12 cap12 w12 X12 m12
      replace O1 := X12
      rw [bools_app] at O1
      clear X12
      replace G := G.abv m12
      replace GL10 := GL10.trn m12
      replace hA := hA0.grow G
      replace hDA := hDA.md m12
      replace hDB := hDB.md m12
      replace hRb := hRb.md m12
      replace hRx := hRx.md m12
      replace hRs := hRs.md m12
      replace hRc := hRc.md m12
      replace B2 := B2.md m12
      clear cc2
      have zm12 := m12.size
      refine S_val (Y_assign rfl) ?_
      refine S_nl rfl rfl ?_
      refine th_n (hK19 _ _ ?_)
      clear hK19 K19
      refine wp_seq_k fun K20 hK20 => ?_
      refine D_start 42 138 (fun w => Mod (No) w) follows rfl rfl ?_  -- d1 r15
      intro w13 g13
      replace hA := hA.grow g13
      replace hDA := hDA.grow g13
      replace hDB := hDB.grow g13
      replace hRb := hRb.grow g13
      replace hRx := hRx.grow g13
      replace hRs := hRs.grow g13
      replace hRc := hRc.grow g13
      replace O1 := O1.grow g13
      replace G := G.grow g13
      replace GL10 := GL10.grow g13
      replace B2 := B2.grow g13
      have zg13 := g13.size
      have GS13 := Mod.refl (No) w13
      obtain ⟨g4, o4, e4, hp4, hc4⟩ := hRb.bool (k := k) hkb
      cases e4
      obtain ⟨g5, o5, e5, hp5, hc5⟩ := hRx.int (k := k) (by omega)
      cases e5
      rw [triL_at] at hc5
      obtain ⟨g6, o6, e6, hp6, hc6⟩ := hRc.int (k := k) (by omega)
      cases e6
      rw [countsV_at hv9] at hc6
      refine Dq (i := 0) rfl GS13 (fun _ _ => Y_move rfl) ?_
      refine Dq (i := 1) rfl GS13 (fun _ _ => Y_move rfl) ?_
      refine Dq (i := 2) rfl GS13 (fun _ _ => Y_len Try.underlying33 rfl) ?_
      refine Dq (i := 3) rfl GS13 (fun _ _ => Y_geq rfl rfl) ?_
      refine Dq (i := 4) rfl GS13 (fun _ _ => Y_move rfl) ?_
      refine D_g 57 rfl (fun hb5 => ?_) (fun hb5 => ?_)  -- g1
      · -- g1T
       replace hb5 := nb_tt hb5
       omega
      · -- g1F
       replace hb5 := nb_tf hb5
       refine Dqon (i := 5) rfl rfl rfl GS13 (fun _ _ => Y_move rfl) ?_
       refine Dqon (i := 6) rfl rfl rfl GS13 (fun _ _ => Y_move rfl) ?_
       refine Dqon (i := 7) rfl rfl rfl GS13 (fun _ _ => Y_index Try.underlying43 sz4 rfl rfl (by first | assumption | omega)) ?_
       refine Dqon (i := 8) rfl rfl rfl GS13 (fun _ hs => Y_load Try.underlying4 rfl rfl (by first | exact hs.cell0 (by assumption) | exact hs.cell0 (B2.at (by rfl)))) ?_
       refine Dqon (i := 9) rfl rfl rfl GS13 (fun _ _ => Y_move rfl) ?_
       refine D_g 62 rfl (fun hb6 => ?_) (fun hb6 => ?_)  -- g2
       · -- g2T
        first | with_reducible (replace hb6 := nb_nt hb6) | with_reducible (replace hb6 := nb_tt hb6) | with_reducible (replace hb6 := nb_bt hb6) | skip
        have hb1 : inB bs k = true := by rw [inB_at hkb]; exact hb6
        have ht1 : tri1 h bs k = (((refsAll h (inB bs)).count (k : Int) : Nat) : Int) := if_pos hb1
        rw [ht1] at hc5
        rw [hb6] at hc4
        refine Dqon (i := 10) rfl rfl rfl GS13 (fun _ _ => Y_move rfl) ?_
        refine Dqon (i := 11) rfl rfl rfl GS13 (fun _ _ => Y_move rfl) ?_
        refine Dqon (i := 12) rfl rfl rfl GS13 (fun _ _ => Y_index Try.underlying33 sz3 rfl rfl (by first | assumption | omega)) ?_
        refine Dqon (i := 13) rfl rfl rfl GS13 (fun _ hs => Y_load Try.underlying3 rfl rfl (by first | exact hs.cell0 (by assumption) | exact hs.cell0 (B2.at (by rfl)))) ?_
        refine Dqon (i := 14) rfl rfl rfl GS13 (fun _ _ => Y_lss rfl rfl) ?_
        refine Dqon (i := 15) rfl rfl rfl GS13 (fun _ _ => Y_move rfl) ?_
        refine D_g 68 rfl (fun hb7 => ?_) (fun hb7 => ?_)  -- g3
        · -- g3T
         replace hb7 := nb_tt hb7
         omega
        · -- g3F
         replace hb7 := nb_tf hb7
         refine Dqon (i := 16) rfl rfl rfl GS13 (fun _ _ => Y_move rfl) ?_
         refine Dqon (i := 17) rfl rfl rfl GS13 (fun _ _ => Y_move rfl) ?_
         refine Dqon (i := 18) rfl rfl rfl GS13 (fun _ _ => Y_index Try.underlying33 sz3 rfl rfl (by first | assumption | omega)) ?_
         refine Dqon (i := 19) rfl rfl rfl GS13 (fun _ hs => Y_load Try.underlying3 rfl rfl (by first | exact hs.cell0 (by assumption) | exact hs.cell0 (B2.at (by rfl)))) ?_
         refine Dqon (i := 20) rfl rfl rfl GS13 (fun _ _ => Y_move rfl) ?_
         refine Dqon (i := 21) rfl rfl rfl GS13 (fun _ _ => Y_move rfl) ?_
         refine Dqon (i := 22) rfl rfl rfl GS13 (fun _ _ => Y_index Try.underlying33 sz3 rfl rfl (by first | assumption | omega)) ?_
         refine Dqon (i := 23) rfl rfl rfl GS13 (fun _ hs => Y_load Try.underlying3 rfl rfl (by first | exact hs.cell0 (by assumption) | exact hs.cell0 (B2.at (by rfl)))) ?_
         refine Dqon (i := 24) rfl rfl rfl GS13 (fun _ _ => Y_gtr rfl rfl) ?_
         refine Dqon (i := 25) rfl rfl rfl GS13 (fun _ _ => Y_pickF rfl rfl) ?_
         refine Dqon (i := 26) rfl rfl rfl GS13 (fun _ _ => Y_pickT rfl rfl) ?_
         refine Dq (i := 27) rfl GS13 (fun _ _ => Y_pickF rfl rfl) ?_
         refine Dq (i := 28) rfl GS13 (fun _ _ => Y_move rfl) ?_
         refine D_g 81 rfl (fun hb8 => ?_) (fun hb8 => ?_)  -- g4
         · -- g4T
          first | with_reducible (replace hb8 := nb_nt hb8) | with_reducible (replace hb8 := nb_tt hb8) | with_reducible (replace hb8 := nb_bt hb8) | skip
          have h9 := refsAll_count h (inB bs) (k : Int); omega
         · -- g4F
          first | with_reducible (replace hb8 := nb_nf hb8) | with_reducible (replace hb8 := nb_tf hb8) | with_reducible (replace hb8 := nb_bf hb8) | skip
          refine Dqon (i := 29) rfl rfl rfl GS13 (fun _ _ => Y_move rfl) ?_
          refine Dqon (i := 30) rfl rfl rfl GS13 (fun _ _ => Y_move rfl) ?_
          refine Dqon (i := 31) rfl rfl rfl GS13 (fun _ _ => Y_index Try.underlying43 sz4 rfl rfl (by first | assumption | omega)) ?_
          refine Dqon (i := 32) rfl rfl rfl GS13 (fun _ hs => Y_load Try.underlying4 rfl rfl (by first | exact hs.cell0 (by assumption) | exact hs.cell0 (B2.at (by rfl)))) ?_
          refine Dqon (i := 33) rfl rfl rfl GS13 (fun _ _ => Y_not rfl) ?_
          refine Dqon (i := 34) rfl rfl rfl GS13 (fun _ _ => Y_move rfl) ?_
          refine D_g 87 rfl (fun hb9 => ?_) (fun hb9 => ?_)  -- g5
          · -- g5T
           first | with_reducible (replace hb9 := nb_nt hb9) | with_reducible (replace hb9 := nb_tt hb9) | with_reducible (replace hb9 := nb_bt hb9) | skip
           first | (cases hb9; done) | (simp at hb9; done)
          · -- g5F
           first | with_reducible (replace hb9 := nb_nf hb9) | with_reducible (replace hb9 := nb_tf hb9) | with_reducible (replace hb9 := nb_bf hb9) | skip
           refine Dqoff (i := 35) rfl rfl rfl GS13 ?_
           refine Dqoff (i := 36) rfl rfl rfl GS13 ?_
           refine Dqoff (i := 37) rfl rfl rfl GS13 ?_
           refine Dqoff (i := 38) rfl rfl rfl GS13 ?_
           refine Dqoff (i := 39) rfl rfl rfl GS13 ?_
           refine Dqon (i := 40) rfl rfl rfl GS13 (fun _ _ => Y_pickF rfl rfl) ?_
           refine Dq (i := 41) rfl GS13 (fun _ _ => Y_pickF rfl rfl) ?_
           refine D_en (by kernel_rfl) rfl rfl ?_
           refine th_n (hK20 _ _ ?_)
           clear hK20 K20
           refine S_ifF rfl ?_
           refine wp_skip ?_
           refine ib_n ?_
           refine th_n (hK18 _ _ ?_)
           clear hK18 K18
           refine Sb 138 rfl ?_  -- 13
           refine S_val (Y_move rfl) ?_
           refine S_val (Y_inc rfl rfl (by omega)) ?_
           refine S_val (Y_assign rfl) ?_
           refine S_nl rfl rfl ?_
           refine th_n ?_
           go_roundw  -- e1 of L1
           case rel =>
            refine ⟨?_, GL10⟩
            exact ⟨k + 1, _, _, _, rfl, rfl, by omega, by omega, by rw [hts]; exact O1⟩
           case measure =>
            exact dec_nat (by omega)
       · -- g2F
        first | with_reducible (replace hb6 := nb_nf hb6) | with_reducible (replace hb6 := nb_tf hb6) | with_reducible (replace hb6 := nb_bf hb6) | skip
        have hb1 : inB bs k = false := by rw [inB_at hkb]; exact hb6
        have ht1 : tri1 h bs k = -1 := if_neg (by rw [hb1]; decide)
        rw [ht1] at hc5
        rw [hb6] at hc4
        refine Dqoff (i := 10) rfl rfl rfl GS13 ?_
        refine Dqoff (i := 11) rfl rfl rfl GS13 ?_
        refine Dqoff (i := 12) rfl rfl rfl GS13 ?_
        refine Dqoff (i := 13) rfl rfl rfl GS13 ?_
        refine Dqoff (i := 14) rfl rfl rfl GS13 ?_
        refine Dqoff (i := 15) rfl rfl rfl GS13 ?_
        refine DqoffU (i := 16) rfl rfl rfl GS13 ?_
        refine DqoffU (i := 17) rfl rfl rfl GS13 ?_
        refine DqoffU (i := 18) rfl rfl rfl GS13 ?_
        refine DqoffU (i := 19) rfl rfl rfl GS13 ?_
        refine DqoffU (i := 20) rfl rfl rfl GS13 ?_
        refine DqoffU (i := 21) rfl rfl rfl GS13 ?_
        refine DqoffU (i := 22) rfl rfl rfl GS13 ?_
        refine DqoffU (i := 23) rfl rfl rfl GS13 ?_
        refine DqoffU (i := 24) rfl rfl rfl GS13 ?_
        refine Dqoff (i := 25) rfl rfl rfl GS13 ?_
        refine Dqon (i := 26) rfl rfl rfl GS13 (fun _ _ => Y_pickF rfl rfl) ?_
        refine Dq (i := 27) rfl GS13 (fun _ _ => Y_pickF rfl rfl) ?_
        refine Dq (i := 28) rfl GS13 (fun _ _ => Y_move rfl) ?_
        refine Dqon (i := 29) rfl rfl rfl GS13 (fun _ _ => Y_move rfl) ?_
        refine Dqon (i := 30) rfl rfl rfl GS13 (fun _ _ => Y_move rfl) ?_
        refine Dqon (i := 31) rfl rfl rfl GS13 (fun _ _ => Y_index Try.underlying43 sz4 rfl rfl (by first | assumption | omega)) ?_
        refine Dqon (i := 32) rfl rfl rfl GS13 (fun _ hs => Y_load Try.underlying4 rfl rfl (by first | exact hs.cell0 (by assumption) | exact hs.cell0 (B2.at (by rfl)))) ?_
        refine Dqon (i := 33) rfl rfl rfl GS13 (fun _ _ => Y_not rfl) ?_
        refine Dqon (i := 34) rfl rfl rfl GS13 (fun _ _ => Y_move rfl) ?_
        refine D_g 87 rfl (fun hb7 => ?_) (fun hb7 => ?_)  -- g6
        · -- g6T
         first | with_reducible (replace hb7 := nb_nt hb7) | with_reducible (replace hb7 := nb_tt hb7) | with_reducible (replace hb7 := nb_bt hb7) | skip
         refine Dqon (i := 35) rfl rfl rfl GS13 (fun _ _ => Y_move rfl) ?_
         refine Dqon (i := 36) rfl rfl rfl GS13 (fun _ _ => Y_move rfl) ?_
         refine Dqon (i := 37) rfl rfl rfl GS13 (fun _ _ => Y_index Try.underlying33 sz3 rfl rfl (by first | assumption | omega)) ?_
         refine Dqon (i := 38) rfl rfl rfl GS13 (fun _ hs => Y_load Try.underlying3 rfl rfl (by first | exact hs.cell0 (by assumption) | exact hs.cell0 (B2.at (by rfl)))) ?_
         refine Dqon (i := 39) rfl rfl rfl GS13 (fun _ _ => Y_neq rfl rfl) ?_
         refine Dqon (i := 40) rfl rfl rfl GS13 (fun _ _ => Y_pickT rfl rfl) ?_
         refine Dq (i := 41) rfl GS13 (fun _ _ => Y_pickF rfl rfl) ?_
         refine D_en (by kernel_rfl) rfl rfl ?_
         refine th_n (hK20 _ _ ?_)
         clear hK20 K20
         refine S_if rfl (fun hb8 => ?_) (fun hb8 => ?_)  -- c5
         · -- c5T
          first | with_reducible (replace hb8 := nb_nt hb8) | with_reducible (replace hb8 := nb_tt hb8) | with_reducible (replace hb8 := nb_bt hb8) | skip
          exact absurd rfl hb8
         · -- c5F
          first | with_reducible (replace hb8 := nb_nf hb8) | with_reducible (replace hb8 := nb_tf hb8) | with_reducible (replace hb8 := nb_bf hb8) | skip
          refine wp_skip ?_
          refine ib_n ?_
          refine th_n (hK18 _ _ ?_)
          clear hK18 K18
          refine Sb 138 rfl ?_  -- 13
          refine S_val (Y_move rfl) ?_
          refine S_val (Y_inc rfl rfl (by omega)) ?_
          refine S_val (Y_assign rfl) ?_
          refine S_nl rfl rfl ?_
          refine th_n ?_
          go_roundw  -- e2 of L1
          case rel =>
           refine ⟨?_, GL10⟩
           exact ⟨k + 1, _, _, _, rfl, rfl, by omega, by omega, by rw [hts]; exact O1⟩
          case measure =>
           exact dec_nat (by omega)
        · -- g6F
         first | with_reducible (replace hb7 := nb_nf hb7) | with_reducible (replace hb7 := nb_tf hb7) | with_reducible (replace hb7 := nb_bf hb7) | skip
         refine Dqoff (i := 35) rfl rfl rfl GS13 ?_
         refine Dqoff (i := 36) rfl rfl rfl GS13 ?_
         refine Dqoff (i := 37) rfl rfl rfl GS13 ?_
         refine Dqoff (i := 38) rfl rfl rfl GS13 ?_
         refine Dqoff (i := 39) rfl rfl rfl GS13 ?_
         refine Dqon (i := 40) rfl rfl rfl GS13 (fun _ _ => Y_pickF rfl rfl) ?_
         refine Dq (i := 41) rfl GS13 (fun _ _ => Y_pickF rfl rfl) ?_
         refine D_en (by kernel_rfl) rfl rfl ?_
         refine th_n (hK20 _ _ ?_)
         clear hK20 K20
         refine S_ifF rfl ?_
         refine wp_skip ?_
         refine ib_n ?_
         refine th_n (hK18 _ _ ?_)
         clear hK18 K18
         refine Sb 138 rfl ?_  -- 13
         refine S_val (Y_move rfl) ?_
         refine S_val (Y_inc rfl rfl (by omega)) ?_
         refine S_val (Y_assign rfl) ?_
         refine S_nl rfl rfl ?_
         refine th_n ?_
         go_roundw  -- e3 of L1
         case rel =>
          refine ⟨?_, GL10⟩
          exact ⟨k + 1, _, _, _, rfl, rfl, by omega, by omega, by rw [hts]; exact O1⟩
         case measure =>
          exact dec_nat (by omega)
     · -- c4F
      replace hb4 := nb_tf hb4
      rw [List.take_of_length_le (by omega)] at O1
      obtain rfl : q1 = (usedL h.cells).length := by omega
      have hRa := O1.lt.r1
      refine wp_exit ?_
      refine th_x ?_
      try clear GL10
      refine th_x ?_
      refine ib_e ?_
      refine th_n (hK14 _ _ ?_)
      clear hK16 K16 hK14 K14
      refine wp_seq_k fun K21 hK21 => ?_
      refine Sb 138 rfl ?_  -- 17
      refine S_val (Y_loadS Try.underlying35 rfl sz35 rfl (B2.row (by rfl))) ?_  -- l14
      refine S_val (Y_move rfl) ?_
      refine S_call rfl en56 (impl_TrialCounts_c _ _ _ _ _ h (usedL h.cells) _ _ _ _ hDA hDB hRa (by omega) (by omega)) ?_  -- k7 impl.TrialCounts
      rintro v14 w14 ⟨A14, q14, cap14, rfl, hq14, O14, g14⟩
      replace hA := hA.grow g14
      replace hDA := hDA.grow g14
      replace hDB := hDB.grow g14
      replace hRb := hRb.grow g14
      replace hRx := hRx.grow g14
      replace hRs := hRs.grow g14
      replace hRc := hRc.grow g14
      replace hRa := hRa.grow g14
      replace G := G.grow g14
      replace B2 := B2.grow g14
      have zg14 := g14.size
      have htu := triV_t (used_tri va)
      rw [htu] at hq14 O14
      subst hq14
      have hRy := O14.lt.r1
      have htl2 := triL_len h (usedL h.cells) h.cells.length
      refine S_val (Y_assign rfl) ?_
      refine S_nl rfl rfl ?_
      refine th_n (hK21 _ _ ?_)
      clear hK21 K21
      refine wp_seq_k fun K22 hK22 => ?_
      refine wp_seq_k fun K23 hK23 => ?_
      refine Sb 138 rfl ?_  -- 18
      refine S_val (Y_assign rfl) ?_
      refine S_nl rfl rfl ?_
      refine th_n (hK23 _ _ ?_)
      clear hK23 K23
      refine wp_block ?_
      go_loopw [10] (fun u10 wr => (∃ k : Nat, u10 = .int .i64 k ∧ k ≤ (triL h (usedL h.cells) h.cells.length).length) ∧ Mod No w14 wr) (fun u10 wr => (triL h (usedL h.cells) h.cells.length).length - (intOf u10).toNat)  -- L2
      case atStart =>
       refine ⟨?_, Mod.refl _ _⟩
       exact ⟨0, rfl, by omega⟩
      case round =>
       obtain ⟨w15, rfl⟩ : ∃ x : World, x = wr := ⟨_, rfl⟩
       obtain ⟨hrel, g15⟩ := hrel
       replace hA := hA.grow g15
       replace hDA := hDA.grow g15
       replace hDB := hDB.grow g15
       replace hRb := hRb.grow g15
       replace hRx := hRx.grow g15
       replace hRs := hRs.grow g15
       replace hRc := hRc.grow g15
       replace hRa := hRa.grow g15
       replace hRy := hRy.grow g15
       replace G := G.grow g15
       replace B2 := B2.grow g15
       have zg15 := g15.size
       obtain ⟨k2, rfl, hk2⟩ := hrel
       have GL15 := g15
       refine wp_seq_k fun K24 hK24 => ?_
       refine wp_seq_k fun K25 hK25 => ?_
       refine Sb 138 rfl ?_  -- 19
       refine S_val (Y_move rfl) ?_
       refine S_val (Y_move rfl) ?_
       refine S_val (Y_len Try.underlying33 rfl) ?_
       refine S_val (Y_lss rfl rfl) ?_
       refine S_nl rfl rfl ?_
       refine th_n (hK25 _ _ ?_)
       clear hK25 K25
       refine S_if rfl (fun hb5 => ?_) (fun hb5 => ?_)  -- c6
       · -- c6T
        replace hb5 := nb_tt hb5
        have hk1 : k2 < (triL h (usedL h.cells) h.cells.length).length := by omega
        have hkN : k2 < h.cells.length := by omega
        refine wp_skip ?_
        refine th_n (hK24 _ _ ?_)
        clear hK24 K24
        refine wp_seq_k fun K26 hK26 => ?_
        refine wp_block ?_
        refine wp_seq_k fun K27 hK27 => ?_
        refine Sb 138 rfl ?_  -- 21
        refine S_val (Y_assign rfl) ?_
        refine S_nl rfl rfl ?_
        refine th_n (hK27 _ _ ?_)
        clear hK27 K27
        refine wp_seq_k fun K28 hK28 => ?_
        refine wp_seq_k fun K29 hK29 => ?_
        refine Sb 138 rfl ?_  -- 22
        refine S_val (Y_assign rfl) ?_
        refine S_nl rfl rfl ?_
        refine th_n (hK29 _ _ ?_)
        clear hK29 K29
        refine wp_block ?_
        go_loopw [11, 12] (fun u11 u12 wr => (∃ j : Nat, u12 = .int .i64 j ∧ u11 = .int .i64 (((h.roots.take j).count (k2 : Int) : Nat) : Int) ∧ j ≤ h.roots.length) ∧ Mod No w15 wr) (fun u11 u12 wr => h.roots.length - (intOf u12).toNat)  -- L3
        case atStart =>
         refine ⟨?_, Mod.refl _ _⟩
         exact ⟨0, rfl, rfl, by omega⟩
        case round =>
         obtain ⟨w16, rfl⟩ : ∃ x : World, x = wr := ⟨_, rfl⟩
         obtain ⟨hrel, g16⟩ := hrel
         replace hA := hA.grow g16
         replace hDA := hDA.grow g16
         replace hDB := hDB.grow g16
         replace hRb := hRb.grow g16
         replace hRx := hRx.grow g16
         replace hRs := hRs.grow g16
         replace hRc := hRc.grow g16
         replace hRa := hRa.grow g16
         replace hRy := hRy.grow g16
         replace G := G.grow g16
         replace GL15 := GL15.grow g16
         replace B2 := B2.grow g16
         have zg16 := g16.size
         obtain ⟨j, rfl, rfl, hj⟩ := hrel
         have hcc := count_le (k2 : Int) (h.roots.take j)
         rw [List.length_take] at hcc
         have GL16 := g16
         refine wp_seq_k fun K30 hK30 => ?_
         refine wp_seq_k fun K31 hK31 => ?_
         refine Sb 138 rfl ?_  -- 23
         refine S_val (Y_move rfl) ?_
         refine S_val (Y_field Try.underlying35 rfl fz35_1 (by decide) rfl) ?_
         refine S_val (Y_load Try.underlying33 rfl rfl (B2.at (by rfl))) ?_  -- l15
         refine S_val (Y_len Try.underlying33 rfl) ?_
         refine S_val (Y_lss rfl rfl) ?_
         refine S_nl rfl rfl ?_
         refine th_n (hK31 _ _ ?_)
         clear hK31 K31
         refine S_if rfl (fun hb6 => ?_) (fun hb6 => ?_)  -- c7
         · -- c7T
          replace hb6 := nb_tt hb6
          have hj1 : j < h.roots.length := by omega
          obtain ⟨g3, o3, e3, hp3, hc3⟩ := hDB.int (k := j) hj1
          cases e3
          have htj := List.take_succ_eq_append_getElem hj1
          refine wp_skip ?_
          refine th_n (hK30 _ _ ?_)
          clear hK30 K30
          refine wp_seq_k fun K32 hK32 => ?_
          refine wp_block ?_
          refine wp_seq_k fun K33 hK33 => ?_
          refine Sb 138 rfl ?_  -- 25
          refine S_val (Y_field Try.underlying35 rfl fz35_1 (by decide) rfl) ?_
          refine S_val (Y_load Try.underlying33 rfl rfl (B2.at (by rfl))) ?_  -- l16
          refine S_val (Y_move rfl) ?_
          refine S_val (Y_index Try.underlying33 sz3 rfl rfl (by first | assumption | omega)) ?_
          refine S_val (Y_load Try.underlying3 rfl rfl (by first | assumption | exact B2.at (by rfl))) ?_  -- l17
          refine S_val (Y_move rfl) ?_
          refine S_val (Y_eql rfl rfl) ?_
          refine S_nl rfl rfl ?_
          refine th_n (hK33 _ _ ?_)
          clear hK33 K33
          refine S_if rfl (fun hb7 => ?_) (fun hb7 => ?_)  -- c8
          · -- c8T
           replace hb7 := nb_tt hb7
           refine Sb 138 rfl ?_  -- 26
           refine S_val (Y_move rfl) ?_
           refine S_val (Y_inc rfl rfl (by omega)) ?_
           refine S_val (Y_assign rfl) ?_
           refine S_nl rfl rfl ?_
           refine ib_n ?_
           refine th_n (hK32 _ _ ?_)
           clear hK32 K32
           refine Sb 138 rfl ?_  -- 24
           refine S_val (Y_move rfl) ?_
           refine S_val (Y_inc rfl rfl (by omega)) ?_
           refine S_val (Y_assign rfl) ?_
           refine S_nl rfl rfl ?_
           refine th_n ?_
           go_roundw  -- e4 of L3
           case rel =>
            refine ⟨?_, GL16⟩
            first | exact ⟨j + 1, rfl, by rw [htj, count_snoc, if_pos (by assumption)], by omega⟩ | exact ⟨j + 1, rfl, by rw [htj, count_snoc, if_neg (by assumption)]; rfl, by omega⟩
           case measure =>
            exact dec_nat (by omega)
          · -- c8F
           replace hb7 := nb_tf hb7
           refine wp_skip ?_
           refine ib_n ?_
           refine th_n (hK32 _ _ ?_)
           clear hK32 K32
           refine Sb 138 rfl ?_  -- 24
           refine S_val (Y_move rfl) ?_
           refine S_val (Y_inc rfl rfl (by omega)) ?_
           refine S_val (Y_assign rfl) ?_
           refine S_nl rfl rfl ?_
           refine th_n ?_
           go_roundw  -- e5 of L3
           case rel =>
            refine ⟨?_, GL16⟩
            first | exact ⟨j + 1, rfl, by rw [htj, count_snoc, if_pos (by assumption)], by omega⟩ | exact ⟨j + 1, rfl, by rw [htj, count_snoc, if_neg (by assumption)]; rfl, by omega⟩
           case measure =>
            exact dec_nat (by omega)
         · -- c7F
          replace hb6 := nb_tf hb6
          rw [List.take_of_length_le (by omega)]
          obtain ⟨g7, o7, e7, hp7, hc7⟩ := hRa.bool (k := k2) (by omega)
          cases e7
          obtain ⟨g8, o8, e8, hp8, hc8⟩ := hRy.int (k := k2) hk1
          cases e8
          rw [triL_at] at hc8
          refine wp_exit ?_
          refine th_x ?_
          try clear GL16
          refine th_x ?_
          refine ib_e ?_
          refine th_n (hK28 _ _ ?_)
          clear hK30 K30 hK28 K28
          refine wp_seq_k fun K34 hK34 => ?_
          refine Sb 138 rfl ?_  -- 27
          refine S_val (Y_move rfl) ?_
          refine S_val (Y_move rfl) ?_
          refine S_val (Y_index Try.underlying43 sz4 rfl rfl (by first | assumption | omega)) ?_
          refine S_val (Y_load Try.underlying4 rfl rfl (by first | assumption | exact B2.at (by rfl))) ?_  -- l18
          refine S_val (Y_move rfl) ?_
          refine S_g 124 rfl (fun hb7 => ?_) (fun hb7 => ?_)  -- g7
          · -- g7T
           first | with_reducible (replace hb7 := nb_nt hb7) | with_reducible (replace hb7 := nb_tt hb7) | with_reducible (replace hb7 := nb_bt hb7) | skip
           have hua : usedAt h.cells k2 = true := by rw [← used_in, inB_at (by omega)]; exact hb7
           rw [used_roots va hua] at hc8
           refine S_on rfl rfl ?_
           refine S_val (Y_move rfl) ?_
           refine S_on rfl rfl ?_
           refine S_val (Y_move rfl) ?_
           refine S_on rfl rfl ?_
           refine S_val (Y_index Try.underlying33 sz3 rfl rfl (by first | assumption | omega)) ?_
           refine S_on rfl rfl ?_
           refine S_val (Y_load Try.underlying3 rfl rfl (by first | assumption | exact B2.at (by rfl))) ?_  -- l19
           refine S_on rfl rfl ?_
           refine S_val (Y_move rfl) ?_
           refine S_on rfl rfl ?_
           refine S_val (Y_neq rfl rfl) ?_
           refine S_val (Y_pickT rfl rfl) ?_
           refine S_nl rfl rfl ?_
           refine th_n (hK34 _ _ ?_)
           clear hK34 K34
           refine S_if rfl (fun hb8 => ?_) (fun hb8 => ?_)  -- c9
           · -- c9T
            first | with_reducible (replace hb8 := nb_nt hb8) | with_reducible (replace hb8 := nb_tt hb8) | with_reducible (replace hb8 := nb_bt hb8) | skip
            exact absurd rfl hb8
           · -- c9F
            first | with_reducible (replace hb8 := nb_nf hb8) | with_reducible (replace hb8 := nb_tf hb8) | with_reducible (replace hb8 := nb_bf hb8) | skip
            refine wp_skip ?_
            refine ib_n ?_
            refine th_n (hK26 _ _ ?_)
            clear hK26 K26
            refine Sb 138 rfl ?_  -- 20
            refine S_val (Y_move rfl) ?_
            refine S_val (Y_inc rfl rfl (by omega)) ?_
            refine S_val (Y_assign rfl) ?_
            refine S_nl rfl rfl ?_
            refine th_n ?_
            go_roundw  -- e6 of L2
            case rel =>
             refine ⟨?_, GL15⟩
             exact ⟨k2 + 1, rfl, by omega⟩
            case measure =>
             exact dec_nat (by omega)
          · -- g7F
           first | with_reducible (replace hb7 := nb_nf hb7) | with_reducible (replace hb7 := nb_tf hb7) | with_reducible (replace hb7 := nb_bf hb7) | skip
           refine S_off rfl rfl ?_
           refine S_off rfl rfl ?_
           refine S_off rfl rfl ?_
           refine S_off rfl rfl ?_
           refine S_off rfl rfl ?_
           refine S_off rfl rfl ?_
           refine S_val (Y_pickF rfl rfl) ?_
           refine S_nl rfl rfl ?_
           refine th_n (hK34 _ _ ?_)
           clear hK34 K34
           refine S_ifF rfl ?_
           refine wp_skip ?_
           refine ib_n ?_
           refine th_n (hK26 _ _ ?_)
           clear hK26 K26
           refine Sb 138 rfl ?_  -- 20
           refine S_val (Y_move rfl) ?_
           refine S_val (Y_inc rfl rfl (by omega)) ?_
           refine S_val (Y_assign rfl) ?_
           refine S_nl rfl rfl ?_
           refine th_n ?_
           go_roundw  -- e7 of L2
           case rel =>
            refine ⟨?_, GL15⟩
            exact ⟨k2 + 1, rfl, by omega⟩
           case measure =>
            exact dec_nat (by omega)
       · -- c6F
        replace hb5 := nb_tf hb5
        refine wp_exit ?_
        refine th_x ?_
        try clear GL15
        refine th_x ?_
        refine ib_e ?_
        refine th_n (hK22 _ _ ?_)
        clear hK24 K24 hK22 K22
        refine wp_seq_k fun K35 hK35 => ?_
        refine Sb 138 rfl ?_  -- 29
        refine S_val (Y_move rfl) ?_
        refine S_val (Y_len Try.underlying33 rfl) ?_
        refine S_val (Y_field Try.underlying35 rfl fz35_0 (by decide) rfl) ?_
        refine S_val (Y_load Try.underlying32 rfl rfl (B2.at (by rfl))) ?_  -- l20
        refine S_val (Y_len Try.underlying32 rfl) ?_
        refine S_val (Y_eql rfl rfl) ?_
        refine S_val (Y_assign rfl) ?_
        refine S_nl rfl rfl ?_
        refine th_n (hK35 _ _ ?_)
        clear hK35 K35
        refine wp_ret ?_
        refine ret_r1 rfl rfl ?_  -- r3
        first | exact ⟨rfl, G⟩ | exact ⟨vT (by omega), G⟩

end Go.Proofs.Ytikgflhepclfgaa
