/-
  The law FnSweepCells returns true.
  Conditions: those that each theorem states.
-/
import Derived.Test.YtikgflhepclfgacQc6
set_option linter.unusedVariables false
set_option linter.unusedSimpArgs false
namespace Go.Proofs.Ytikgflhepclfgac
open Go Go.RowKit
attribute [local irreducible] wpList wpAnyH Code.wp dOp

set_option maxHeartbeats 1000000 in
set_option maxRecDepth 20000 in
theorem laws_FnSweepCells_c (Pr : Nat → Prop) (A : Option Addr) (xs : List Int) (c : Nat) (w : World) (hA : R1 Pr w A (u8s xs)) (hn : xs.length ≤ 9223372036854775807) (hcap : xs.length ≤ c) (hrg : ∀ y ∈ xs, 0 ≤ y ∧ y ≤ 255) :
    Calls Try.prog 7 #[.slice A xs.length c] w (Ret fun v w' => v = .bool true ∧ Grow w w') := by
 refine enter Try.func7 rfl Try.ntmps7 (L := [_,_,_,_,_,_,_,_,_,_,_,_,_,_,_,_,_,_,_,_,_,_,_,_,_,_,_,_,_,_,_,_,_,_,_,_,_,_,_,_,_,_,_,_,_,_,_,_,_,_,_,_,_,_,_,_,_,_,_,_,_,_,_,_,_,_,_,_,_,_,_,_,_,_,_,_,_,_,_,_,_,_,_,_,_,_,_,_,_,_,_,_,_,_,_,_,_,_,_,_,_,_,_,_,_,_]) rfl ?_
 have G := Mod.refl No w
 have hA0 := hA
 refine wp_seq_k fun K1 hK1 => ?_
 refine Sb 106 rfl ?_  -- 0
 refine S_val (Y_assign rfl) ?_
 refine S_nl rfl rfl ?_
 refine th_n (hK1 _ _ ?_)
 clear hK1 K1
 refine wp_seq_k fun K2 hK2 => ?_
 refine wp_seq_k fun K3 hK3 => ?_
 refine Sb 106 rfl ?_  -- 1
 refine S_val (Y_move rfl) ?_
 refine S_val (Y_len Try.underlying39 rfl) ?_
 refine S_val (Y_gtr rfl rfl) ?_
 refine S_nl rfl rfl ?_
 refine th_n (hK3 _ _ ?_)
 clear hK3 K3
 refine S_if rfl (fun hb1 => ?_) (fun hb1 => ?_)  -- c1
 · -- c1T
  replace hb1 := nb_tt hb1
  refine wp_seq_k fun K4 hK4 => ?_
  refine Sb 106 rfl ?_  -- 2
  refine S_val (Y_assign rfl) ?_
  refine S_nl rfl rfl ?_
  refine th_n (hK4 _ _ ?_)
  clear hK4 K4
  refine wp_ret ?_
  refine th_r ?_
  clear hK2 K2
  refine ret_r1 rfl rfl ?_  -- r1
  first | exact ⟨rfl, G⟩ | exact ⟨vT (by rw [hXl]), G⟩
 · -- c1F
  replace hb1 := nb_tf hb1
  have hx : xs.length ≤ 1048576 := by omega
  refine wp_skip ?_
  refine th_n (hK2 _ _ ?_)
  clear hK2 K2
  refine wp_seq_k fun K5 hK5 => ?_
  refine Sb 106 rfl ?_  -- 3
  refine S_val (Y_move rfl) ?_
  refine S_call rfl en38 (spec_DrawSweepCells_c _ _ _ _ _ (by assumption) (by omega) (by omega) (by assumption)) ?_  -- k1 spec.DrawSweepCells
  rintro v1 w1 ⟨hD1, A1, B1, n11, c11, n21, c21, bs1, C1, q31, c31, rfl, hn11, hn21, hz1, hx1, RC1, RR1, RB1, g1⟩
  replace hA := hA.grow g1
  replace G := G.grow g1
  have zg1 := g1.size
  subst hn11
  subst hn21
  obtain ⟨h, rfl⟩ : ∃ x, x = hD1 := ⟨_, rfl⟩
  obtain ⟨AD, rfl⟩ : ∃ x, x = A1 := ⟨_, rfl⟩
  obtain ⟨BD, rfl⟩ : ∃ x, x = B1 := ⟨_, rfl⟩
  obtain ⟨cD, rfl⟩ : ∃ x, x = c11 := ⟨_, rfl⟩
  obtain ⟨dD, rfl⟩ : ∃ x, x = c21 := ⟨_, rfl⟩
  have hzD := hz1
  have hzcD := hsize_cells h
  have hzrD := hsize_roots h
  have hDA := RC1.below
  have hDB := RR1.below
  obtain ⟨hq31, hl31⟩ := hx1
  subst hq31
  obtain ⟨bs, rfl⟩ : ∃ x, x = bs1 := ⟨_, rfl⟩
  obtain ⟨CM, rfl⟩ : ∃ x, x = C1 := ⟨_, rfl⟩
  have hbl0 := hl31
  have hRb := RB1.below
  refine S_val (Y_move rfl) ?_
  refine S_val (Y_extract rfl rfl) ?_
  refine S_val (Y_extract rfl rfl) ?_
  refine S_alloc (cs := [_, _]) zr32 rfl ?_
  intro b2 w2 fb2 g2 B2
  have lb2 := B2.lt
  replace hA := hA.grow g2
  replace hDA := hDA.grow g2
  replace hDB := hDB.grow g2
  replace hRb := hRb.grow g2
  replace G := G.grow g2
  have zg2 := g2.size
  refine S_stM (pre := []) (old := [_, _]) (post := []) (vs := [_, _]) sz32 rfl rfl rfl (by first | rfl | assumption) B2 rfl rfl ?_
  intro w3 m3 X3
  replace B2 := Blk.eq (ys := [_, _]) X3 rfl
  clear X3
  replace G := G.abv m3
  replace hA := hA0.grow G
  replace hDA := hDA.md m3
  replace hDB := hDB.md m3
  replace hRb := hRb.md m3
  have zm3 := m3.size
  refine S_val (Y_assign rfl) ?_
  refine S_nl rfl rfl ?_
  refine th_n (hK5 _ _ ?_)
  clear hK5 K5
  refine wp_seq_k fun K6 hK6 => ?_
  refine Sb 106 rfl ?_  -- 4
  refine S_val (Y_loadS Try.underlying32 rfl sz32 rfl (B2.row (by rfl))) ?_  -- l1
  refine S_val (Y_move rfl) ?_
  refine S_call rfl en39 (impl_SweepCells_c _ _ _ _ _ h bs _ _ _ _ hDA hDB hRb (by omega) (by omega)) ?_  -- k2 impl.SweepCells
  rintro v4 w4 ⟨A4, B4, n14, c14, n24, c24, rs4, rfl, hn14, hn24, O4, g4⟩
  replace hA := hA.grow g4
  replace hDA := hDA.grow g4
  replace hDB := hDB.grow g4
  replace hRb := hRb.grow g4
  replace G := G.grow g4
  replace B2 := B2.grow g4
  have zg4 := g4.size
  obtain ⟨hX, hXe⟩ : ∃ x, x = (sweepV h bs).1 := ⟨_, rfl⟩
  have hXz : hsize hX ≤ 200 := by rw [hXe]; exact sweep_small _ _
  have hXc := hsize_cells hX
  rw [← hXe] at hn14 hn24 O4
  subst hn14
  subst hn24
  have hXA := O4.lt.rc
  have hXB := O4.lt.r1
  refine S_val (Y_move rfl) ?_
  refine S_val (Y_extract rfl rfl) ?_
  refine S_val (Y_extract rfl rfl) ?_
  refine S_alloc (cs := [_, _]) zr32 rfl ?_
  intro b5 w5 fb5 g5 B5
  have lb5 := B5.lt
  replace hA := hA.grow g5
  replace hDA := hDA.grow g5
  replace hDB := hDB.grow g5
  replace hRb := hRb.grow g5
  replace hXA := hXA.grow g5
  replace hXB := hXB.grow g5
  replace G := G.grow g5
  replace B2 := B2.grow g5
  have zg5 := g5.size
  refine S_stM (pre := []) (old := [_, _]) (post := []) (vs := [_, _]) sz32 rfl rfl rfl (by first | rfl | assumption) B5 rfl rfl ?_
  intro w6 m6 X6
  replace B5 := Blk.eq (ys := [_, _]) X6 rfl
  clear X6
  replace G := G.abv m6
  replace hA := hA0.grow G
  replace hDA := hDA.md m6
  replace hDB := hDB.md m6
  replace hRb := hRb.md m6
  replace hXA := hXA.md m6
  replace hXB := hXB.md m6
  replace B2 := B2.md m6
  have zm6 := m6.size
  refine S_val (Y_assign rfl) ?_
  refine S_nl rfl rfl ?_
  refine th_n (hK6 _ _ ?_)
  clear hK6 K6
  refine wp_seq_k fun K7 hK7 => ?_
  refine Sb 106 rfl ?_  -- 5
  refine S_val (Y_loadS Try.underlying32 rfl sz32 rfl (B2.row (by rfl))) ?_  -- l2
  refine S_val (Y_move rfl) ?_
  refine S_call rfl en40 (spec_SweepCells_c _ _ _ _ _ h bs _ _ _ _ hDA hDB hRb (by omega) (by omega)) ?_  -- k3 spec.SweepCells
  rintro v7 w7 ⟨A7, B7, n17, c17, n27, c27, rs7, rfl, hn17, hn27, O7, g7⟩
  replace hA := hA.grow g7
  replace hDA := hDA.grow g7
  replace hDB := hDB.grow g7
  replace hRb := hRb.grow g7
  replace hXA := hXA.grow g7
  replace hXB := hXB.grow g7
  replace G := G.grow g7
  replace B2 := B2.grow g7
  replace B5 := B5.grow g7
  have zg7 := g7.size
  rw [← hXe] at hn17 hn27 O7
  subst hn17
  subst hn27
  have hYA := O7.lt.rc
  have hYB := O7.lt.r1
  refine S_val (Y_move rfl) ?_
  refine S_val (Y_extract rfl rfl) ?_
  refine S_val (Y_extract rfl rfl) ?_
  refine S_alloc (cs := [_, _]) zr32 rfl ?_
  intro b8 w8 fb8 g8 B8
  have lb8 := B8.lt
  replace hA := hA.grow g8
  replace hDA := hDA.grow g8
  replace hDB := hDB.grow g8
  replace hRb := hRb.grow g8
  replace hXA := hXA.grow g8
  replace hXB := hXB.grow g8
  replace hYA := hYA.grow g8
  replace hYB := hYB.grow g8
  replace G := G.grow g8
  replace B2 := B2.grow g8
  replace B5 := B5.grow g8
  have zg8 := g8.size
  refine S_stM (pre := []) (old := [_, _]) (post := []) (vs := [_, _]) sz32 rfl rfl rfl (by first | rfl | assumption) B8 rfl rfl ?_
  intro w9 m9 X9
  replace B8 := Blk.eq (ys := [_, _]) X9 rfl
  clear X9
  replace G := G.abv m9
  replace hA := hA0.grow G
  replace hDA := hDA.md m9
  replace hDB := hDB.md m9
  replace hRb := hRb.md m9
  replace hXA := hXA.md m9
  replace hXB := hXB.md m9
  replace hYA := hYA.md m9
  replace hYB := hYB.md m9
  replace B2 := B2.md m9
  replace B5 := B5.md m9
  have zm9 := m9.size
  refine S_val (Y_assign rfl) ?_
  refine S_nl rfl rfl ?_
  refine th_n (hK7 _ _ ?_)
  clear hK7 K7
  refine wp_seq_k fun K8 hK8 => ?_
  refine wp_seq_k fun K9 hK9 => ?_
  refine Sb 106 rfl ?_  -- 6
  refine S_val (Y_loadS Try.underlying32 rfl sz32 rfl (B5.row (by rfl))) ?_  -- l3
  refine S_val (Y_loadS Try.underlying32 rfl sz32 rfl (B8.row (by rfl))) ?_  -- l4
  refine S_call rfl en27 (laws_sameHeap_c _ _ _ _ _ _ hX hX _ _ _ _ _ hXA hXB hYA hYB (by omega)) ?_  -- k4 laws.sameHeap
  rintro v10 w10 ⟨rfl, g10⟩
  replace hA := hA.grow g10
  replace hDA := hDA.grow g10
  replace hDB := hDB.grow g10
  replace hRb := hRb.grow g10
  replace hXA := hXA.grow g10
  replace hXB := hXB.grow g10
  replace hYA := hYA.grow g10
  replace hYB := hYB.grow g10
  replace G := G.grow g10
  replace B2 := B2.grow g10
  replace B5 := B5.grow g10
  replace B8 := B8.grow g10
  have zg10 := g10.size
  refine S_val (Y_not rfl) ?_
  refine S_val (Y_move rfl) ?_
  refine S_g 36 rfl (fun hb2 => ?_) (fun hb2 => ?_)  -- g1
  · -- g1T
   first | with_reducible (replace hb2 := nb_nt hb2) | with_reducible (replace hb2 := nb_tt hb2) | with_reducible (replace hb2 := nb_bt hb2) | skip
   exact absurd rfl hb2
  · -- g1F
   first | with_reducible (replace hb2 := nb_nf hb2) | with_reducible (replace hb2 := nb_tf hb2) | with_reducible (replace hb2 := nb_bf hb2) | skip
   refine S_on rfl rfl ?_
   refine S_val (Y_move rfl) ?_
   refine S_on rfl rfl ?_
   refine S_val (Y_move rfl) ?_
   refine S_on rfl rfl ?_
   refine S_val (Y_neq rfl rfl) ?_
   refine S_val (Y_pickF rfl rfl) ?_
   refine S_nl rfl rfl ?_
   refine th_n (hK9 _ _ ?_)
   clear hK9 K9
   refine S_if rfl (fun hb3 => ?_) (fun hb3 => ?_)  -- c2
   · -- c2T
    first | with_reducible (replace hb3 := nb_nt hb3) | with_reducible (replace hb3 := nb_tt hb3) | with_reducible (replace hb3 := nb_bt hb3) | skip
    exact absurd rfl hb3
   · -- c2F
    first | with_reducible (replace hb3 := nb_nf hb3) | with_reducible (replace hb3 := nb_tf hb3) | with_reducible (replace hb3 := nb_bf hb3) | skip
    refine wp_skip ?_
    refine th_n (hK8 _ _ ?_)
    clear hK8 K8
    refine wp_seq_k fun K10 hK10 => ?_
    refine wp_seq_k fun K11 hK11 => ?_
    refine Sb 106 rfl ?_  -- 8
    refine S_val (Y_move rfl) ?_
    refine S_val (Y_lss rfl rfl) ?_
    refine S_nl rfl rfl ?_
    refine th_n (hK11 _ _ ?_)
    clear hK11 K11
    refine S_if rfl (fun hb4 => ?_) (fun hb4 => ?_)  -- c3
    · -- c3T
     replace hb4 := nb_tt hb4
     have hsn := sweep_neg hb4
     have hX0 : hX.roots.length = 0 := by rw [hXe, hsn]; rfl
     refine wp_seq_k fun K12 hK12 => ?_
     refine Sb 106 rfl ?_  -- 9
     refine S_val (Y_move rfl) ?_
     refine S_val (Y_eql rfl rfl) ?_
     refine S_val (Y_move rfl) ?_
     refine S_g 45 rfl (fun hb5 => ?_) (fun hb5 => ?_)  -- g2
     · -- g2T
      replace hb5 := nb_tt hb5
      refine S_on rfl rfl ?_
      refine S_val (Y_field Try.underlying32 rfl fz32_1 (by decide) rfl) ?_
      refine S_on rfl rfl ?_
      refine S_val (Y_load Try.underlying23 rfl rfl (B5.at (by rfl))) ?_  -- l5
      refine S_on rfl rfl ?_
      refine S_val (Y_len Try.underlying23 rfl) ?_
      refine S_on rfl rfl ?_
      refine S_val (Y_eql rfl rfl) ?_
      refine S_val (Y_pickT rfl rfl) ?_
      refine S_val (Y_move rfl) ?_
      refine S_g 51 rfl (fun hb6 => ?_) (fun hb6 => ?_)  -- g3
      · -- g3T
       first | with_reducible (replace hb6 := nb_nt hb6) | with_reducible (replace hb6 := nb_tt hb6) | with_reducible (replace hb6 := nb_bt hb6) | skip
       refine S_on rfl rfl ?_
       refine S_call rfl en22 (laws_alive_c _) ?_  -- k5 laws.alive
       rintro v11 w11 ⟨rfl, g11⟩
       replace hA := hA.grow g11
       replace hDA := hDA.grow g11
       replace hDB := hDB.grow g11
       replace hRb := hRb.grow g11
       replace hXA := hXA.grow g11
       replace hXB := hXB.grow g11
       replace hYA := hYA.grow g11
       replace hYB := hYB.grow g11
       replace G := G.grow g11
       replace B2 := B2.grow g11
       replace B5 := B5.grow g11
       replace B8 := B8.grow g11
       have zg11 := g11.size
       refine S_val (Y_pickT rfl rfl) ?_
       refine S_val (Y_assign rfl) ?_
       refine S_nl rfl rfl ?_
       refine th_n (hK12 _ _ ?_)
       clear hK12 K12
       refine wp_ret ?_
       refine th_r ?_
       clear hK10 K10
       refine ret_r1 rfl rfl ?_  -- r2
       first | exact ⟨rfl, G⟩ | exact ⟨vT (by rw [hXl]), G⟩
      · -- g3F
       first | with_reducible (replace hb6 := nb_nf hb6) | with_reducible (replace hb6 := nb_tf hb6) | with_reducible (replace hb6 := nb_bf hb6) | skip
       omega
     · -- g2F
      replace hb5 := nb_tf hb5
      exact absurd (by rw [hsn]) hb5
    · -- c3F
     replace hb4 := nb_tf hb4
     obtain ⟨va, hbl, hkp, hse⟩ := sweep_ok hb4
     have hv9 := valid_iff.2 va
     have hXd : hX = dropH h (sweepP bs) := by rw [hXe, hse]
     have hvX9 : validB hX = true := by rw [hXd]; exact (valid_drop va _).2 hkp
     have hview : viewV hX = viewV h := by rw [hXd]; exact drop_view va hkp
     have htw : sweepV hX bs = (hX, 0) := by rw [hXd]; exact sweep_twice va hbl hkp
     have hXl : hX.cells.length = h.cells.length := by rw [hXd, drop_len]
     refine wp_skip ?_
     refine th_n (hK10 _ _ ?_)
     clear hK10 K10
     refine wp_seq_k fun K13 hK13 => ?_
     refine wp_seq_k fun K14 hK14 => ?_
     refine Sb 106 rfl ?_  -- 10
     refine S_val (Y_assign rfl) ?_
     refine S_nl rfl rfl ?_
     refine th_n (hK14 _ _ ?_)
     clear hK14 K14
     refine wp_block ?_
     go_loopw [9] (fun u9 wr => (∃ k : Nat, u9 = .int .i64 k ∧ k ≤ hX.cells.length) ∧ Mod No w10 wr) (fun u9 wr => hX.cells.length - (intOf u9).toNat)  -- L1
     case atStart =>
      refine ⟨?_, Mod.refl _ _⟩
      exact ⟨0, rfl, by omega⟩
     case round =>
      obtain ⟨w12, rfl⟩ : ∃ x : World, x = wr := ⟨_, rfl⟩
      obtain ⟨hrel, g12⟩ := hrel
      replace hA := hA.grow g12
      replace hDA := hDA.grow g12
      replace hDB := hDB.grow g12
      replace hRb := hRb.grow g12
      replace hXA := hXA.grow g12
      replace hXB := hXB.grow g12
      replace hYA := hYA.grow g12
      replace hYB := hYB.grow g12
      replace G := G.grow g12
      replace B2 := B2.grow g12
      replace B5 := B5.grow g12
      replace B8 := B8.grow g12
      have zg12 := g12.size
      obtain ⟨k, rfl, hk⟩ := hrel
      have GL12 := g12
      refine wp_seq_k fun K15 hK15 => ?_
      refine wp_seq_k fun K16 hK16 => ?_
      refine Sb 106 rfl ?_  -- 11
      refine S_val (Y_move rfl) ?_
      refine S_val (Y_field Try.underlying32 rfl fz32_0 (by decide) rfl) ?_
      refine S_val (Y_load Try.underlying30 rfl rfl (B5.at (by rfl))) ?_  -- l6
      refine S_val (Y_len Try.underlying30 rfl) ?_
      refine S_val (Y_lss rfl rfl) ?_
      refine S_nl rfl rfl ?_
      refine th_n (hK16 _ _ ?_)
      clear hK16 K16
      refine S_if rfl (fun hb5 => ?_) (fun hb5 => ?_)  -- c4
      · -- c4T
       replace hb5 := nb_tt hb5
       have hk1 : k < hX.cells.length := by omega
       have hkN : k < h.cells.length := by omega
       have hkb : k < bs.length := by omega
       have hxu : hX.cells[k].used = (h.cells[k].used && bs[k]) := by
         subst hXd
         rw [drop_at, usedAt_at hkN]
         unfold sweepP
         rw [inB_at hkb, Bool.not_not]
       refine wp_skip ?_
       refine th_n (hK15 _ _ ?_)
       clear hK15 K15
       refine wp_seq_k fun K17 hK17 => ?_
       refine wp_block ?_
       refine wp_seq_k fun K18 hK18 => ?_
       refine D_start 19 106 (fun w => Mod (No) w) follows rfl rfl ?_  -- d1 r13
       intro w13 g13
       replace hA := hA.grow g13
       replace hDA := hDA.grow g13
       replace hDB := hDB.grow g13
       replace hRb := hRb.grow g13
       replace hXA := hXA.grow g13
       replace hXB := hXB.grow g13
       replace hYA := hYA.grow g13
       replace hYB := hYB.grow g13
       replace G := G.grow g13
       replace GL12 := GL12.grow g13
       replace B2 := B2.grow g13
       replace B5 := B5.grow g13
       replace B8 := B8.grow g13
       have zg13 := g13.size
       have GS13 := Mod.refl (No) w13
       obtain ⟨g7, o7, E7, d7, e7, hp7, cc7, _⟩ := hXA.cell hk1
       cases e7
       rw [hxu] at cc7
       obtain ⟨g2, o2, E2, d2, e2, hp2, cc2, hE2⟩ := hDA.cell (k := k) hkN
       cases e2
       obtain ⟨g4, o4, e4, hp4, hc4⟩ := hRb.bool (k := k) hkb
       cases e4
       have B2d13 := B2
       have B5d13 := B5
       refine Dq (i := 0) rfl GS13 (fun _ _ => Y_field Try.underlying32 rfl fz32_0 (by decide) rfl) ?_
       refine Dq (i := 1) rfl GS13 (fun _ hs => Y_load Try.underlying30 rfl rfl (hs.cell0 (B5.at (by rfl)))) ?_
       refine Dq (i := 2) rfl GS13 (fun _ _ => Y_move rfl) ?_
       refine Dq (i := 3) rfl GS13 (fun _ _ => Y_index Try.underlying30 sz63 rfl rfl (by first | assumption | omega)) ?_
       refine Dq (i := 4) rfl GS13 (fun _ _ => Y_field Try.underlying63 rfl fz63_0 (by decide) rfl) ?_
       refine Dq (i := 5) rfl GS13 (fun _ hs => Y_load Try.underlying4 rfl rfl (by first | exact hs.cell0 (by assumption) | exact hs.cell0 (cc2.at (by rfl)) | exact hs.cell0 (cc7.at (by rfl)) | exact hs.cell0 (B2.at (by rfl)) | exact hs.cell0 (B5.at (by rfl)) | exact hs.cell0 (B8.at (by rfl)))) ?_
       refine Dq (i := 6) rfl GS13 (fun _ _ => Y_field Try.underlying32 rfl fz32_0 (by decide) rfl) ?_
       refine Dq (i := 7) rfl GS13 (fun _ hs => Y_load Try.underlying30 rfl rfl (hs.cell0 (B2.at (by rfl)))) ?_
       refine Dq (i := 8) rfl GS13 (fun _ _ => Y_move rfl) ?_
       refine Dq (i := 9) rfl GS13 (fun _ _ => Y_index Try.underlying30 sz63 rfl rfl (by first | assumption | omega)) ?_
       refine Dq (i := 10) rfl GS13 (fun _ _ => Y_field Try.underlying63 rfl fz63_0 (by decide) rfl) ?_
       refine Dq (i := 11) rfl GS13 (fun _ hs => Y_load Try.underlying4 rfl rfl (by first | exact hs.cell0 (by assumption) | exact hs.cell0 (cc2.at (by rfl)) | exact hs.cell0 (cc7.at (by rfl)) | exact hs.cell0 (B2.at (by rfl)) | exact hs.cell0 (B5.at (by rfl)) | exact hs.cell0 (B8.at (by rfl)))) ?_
       refine Dq (i := 12) rfl GS13 (fun _ _ => Y_move rfl) ?_
       refine D_g 73 rfl (fun hb6 => ?_) (fun hb6 => ?_)  -- g4
       · -- g4T
        first | with_reducible (replace hb6 := nb_nt hb6) | with_reducible (replace hb6 := nb_tt hb6) | with_reducible (replace hb6 := nb_bt hb6) | skip
        refine Dqon (i := 13) rfl rfl rfl GS13 (fun _ _ => Y_move rfl) ?_
        refine Dqon (i := 14) rfl rfl rfl GS13 (fun _ _ => Y_move rfl) ?_
        refine Dqon (i := 15) rfl rfl rfl GS13 (fun _ _ => Y_index Try.underlying27 sz4 rfl rfl (by first | assumption | omega)) ?_
        refine Dqon (i := 16) rfl rfl rfl GS13 (fun _ hs => Y_load Try.underlying4 rfl rfl (by first | exact hs.cell0 (by assumption) | exact hs.cell0 (cc2.at (by rfl)) | exact hs.cell0 (cc7.at (by rfl)) | exact hs.cell0 (B2.at (by rfl)) | exact hs.cell0 (B5.at (by rfl)) | exact hs.cell0 (B8.at (by rfl)))) ?_
        refine Dq (i := 17) rfl GS13 (fun _ _ => Y_pickT rfl rfl) ?_
        refine Dq (i := 18) rfl GS13 (fun _ _ => Y_neb Try.underlying4 rfl rfl) ?_
        refine D_en (by kernel_rfl) rfl rfl ?_
        refine th_n (hK18 _ _ ?_)
        clear hK18 K18
        refine S_if rfl (fun hb7 => ?_) (fun hb7 => ?_)  -- c5
        · -- c5T
         replace hb7 := nb_nt hb7
         exfalso; revert hb7; first | (rw [(by assumption : h.cells[k].used = true)]; simp) | (rw [(by assumption : h.cells[k].used = false)]; simp)
        · -- c5F
         replace hb7 := nb_nf hb7
         refine wp_skip ?_
         refine ib_n ?_
         refine th_n (hK17 _ _ ?_)
         clear hK17 K17
         refine Sb 106 rfl ?_  -- 12
         refine S_val (Y_move rfl) ?_
         refine S_val (Y_inc rfl rfl (by omega)) ?_
         refine S_val (Y_assign rfl) ?_
         refine S_nl rfl rfl ?_
         refine th_n ?_
         go_roundw  -- e1 of L1
         case rel =>
          refine ⟨?_, GL12⟩
          exact ⟨k + 1, rfl, by omega⟩
         case measure =>
          exact dec_nat (by omega)
       · -- g4F
        first | with_reducible (replace hb6 := nb_nf hb6) | with_reducible (replace hb6 := nb_tf hb6) | with_reducible (replace hb6 := nb_bf hb6) | skip
        refine Dqoff (i := 13) rfl rfl rfl GS13 ?_
        refine Dqoff (i := 14) rfl rfl rfl GS13 ?_
        refine Dqoff (i := 15) rfl rfl rfl GS13 ?_
        refine Dqoff (i := 16) rfl rfl rfl GS13 ?_
        refine Dq (i := 17) rfl GS13 (fun _ _ => Y_pickF rfl rfl) ?_
        refine Dq (i := 18) rfl GS13 (fun _ _ => Y_neb Try.underlying4 rfl rfl) ?_
        refine D_en (by kernel_rfl) rfl rfl ?_
        refine th_n (hK18 _ _ ?_)
        clear hK18 K18
        refine S_if rfl (fun hb7 => ?_) (fun hb7 => ?_)  -- c6
        · -- c6T
         replace hb7 := nb_nt hb7
         exfalso; revert hb7; first | (rw [(by assumption : h.cells[k].used = true)]; simp) | (rw [(by assumption : h.cells[k].used = false)]; simp)
        · -- c6F
         replace hb7 := nb_nf hb7
         refine wp_skip ?_
         refine ib_n ?_
         refine th_n (hK17 _ _ ?_)
         clear hK17 K17
         refine Sb 106 rfl ?_  -- 12
         refine S_val (Y_move rfl) ?_
         refine S_val (Y_inc rfl rfl (by omega)) ?_
         refine S_val (Y_assign rfl) ?_
         refine S_nl rfl rfl ?_
         refine th_n ?_
         go_roundw  -- e2 of L1
         case rel =>
          refine ⟨?_, GL12⟩
          exact ⟨k + 1, rfl, by omega⟩
         case measure =>
          exact dec_nat (by omega)
      · -- c4F
       replace hb5 := nb_tf hb5
       refine wp_exit ?_
       refine th_x ?_
       try clear GL12
       refine th_x ?_
       refine ib_e ?_
       refine th_n (hK13 _ _ ?_)
       clear hK15 K15 hK13 K13
       refine wp_seq_k fun K19 hK19 => ?_
       refine Sb 106 rfl ?_  -- 15
       refine S_val (Y_loadS Try.underlying32 rfl sz32 rfl (B5.row (by rfl))) ?_  -- l12
       refine S_val (Y_move rfl) ?_
       refine S_call rfl en39 (impl_SweepCells_c _ _ _ _ _ hX bs _ _ _ _ hXA hXB hRb (by omega) (by omega)) ?_  -- k6 impl.SweepCells
       rintro v14 w14 ⟨A14, B14, n114, c114, n214, c214, rs14, rfl, hn114, hn214, O14, g14⟩
       replace hA := hA.grow g14
       replace hDA := hDA.grow g14
       replace hDB := hDB.grow g14
       replace hRb := hRb.grow g14
       replace hXA := hXA.grow g14
       replace hXB := hXB.grow g14
       replace hYA := hYA.grow g14
       replace hYB := hYB.grow g14
       replace G := G.grow g14
       replace B2 := B2.grow g14
       replace B5 := B5.grow g14
       replace B8 := B8.grow g14
       have zg14 := g14.size
       rw [htw] at hn114 hn214 O14
       rw [htw]
       try dsimp only at hn114 hn214 O14
       subst hn114
       subst hn214
       refine S_val (Y_move rfl) ?_
       refine S_val (Y_extract rfl rfl) ?_
       refine S_val (Y_extract rfl rfl) ?_
       refine S_alloc (cs := [_, _]) zr32 rfl ?_
       intro b15 w15 fb15 g15 B15
       have lb15 := B15.lt
       replace hA := hA.grow g15
       replace hDA := hDA.grow g15
       replace hDB := hDB.grow g15
       replace hRb := hRb.grow g15
       replace hXA := hXA.grow g15
       replace hXB := hXB.grow g15
       replace hYA := hYA.grow g15
       replace hYB := hYB.grow g15
       replace G := G.grow g15
       replace B2 := B2.grow g15
       replace B5 := B5.grow g15
       replace B8 := B8.grow g15
       have zg15 := g15.size
       refine S_stM (pre := []) (old := [_, _]) (post := []) (vs := [_, _]) sz32 rfl rfl rfl (by first | rfl | assumption) B15 rfl rfl ?_
       intro w16 m16 X16
       replace B15 := Blk.eq (ys := [_, _]) X16 rfl
       clear X16
       replace G := G.abv m16
       replace hA := hA0.grow G
       replace hDA := hDA.md m16
       replace hDB := hDB.md m16
       replace hRb := hRb.md m16
       replace hXA := hXA.md m16
       replace hXB := hXB.md m16
       replace hYA := hYA.md m16
       replace hYB := hYB.md m16
       replace B2 := B2.md m16
       replace B5 := B5.md m16
       replace B8 := B8.md m16
       have zm16 := m16.size
       refine S_val (Y_assign rfl) ?_
       refine S_nl rfl rfl ?_
       refine th_n (hK19 _ _ ?_)
       clear hK19 K19
       refine wp_seq_k fun K20 hK20 => ?_
       refine Sb 106 rfl ?_  -- 16
       refine S_val (Y_loadS Try.underlying32 rfl sz32 rfl (B5.row (by rfl))) ?_  -- l13
       refine S_call rfl en41 (impl_HeapValid_c _ _ _ hX _ _ _ hXA hXB (by omega)) ?_  -- k7 impl.HeapValid
       rintro v17 w17 ⟨rfl, g17⟩
       replace hA := hA.grow g17
       replace hDA := hDA.grow g17
       replace hDB := hDB.grow g17
       replace hRb := hRb.grow g17
       replace hXA := hXA.grow g17
       replace hXB := hXB.grow g17
       replace hYA := hYA.grow g17
       replace hYB := hYB.grow g17
       replace G := G.grow g17
       replace B2 := B2.grow g17
       replace B5 := B5.grow g17
       replace B8 := B8.grow g17
       replace B15 := B15.grow g17
       have zg17 := g17.size
       refine S_val (Y_move rfl) ?_
       refine S_g 88 rfl (fun hb6 => ?_) (fun hb6 => ?_)  -- g5
       · -- g5T
        first | with_reducible (replace hb6 := nb_nt hb6) | with_reducible (replace hb6 := nb_tt hb6) | with_reducible (replace hb6 := nb_bt hb6) | skip
        refine S_on rfl rfl ?_
        refine S_val (Y_loadS Try.underlying32 rfl sz32 rfl (B5.row (by rfl))) ?_  -- l14
        refine S_on rfl rfl ?_
        refine S_val (Y_loadS Try.underlying32 rfl sz32 rfl (B2.row (by rfl))) ?_  -- l15
        refine S_on rfl rfl ?_
        refine S_call rfl en37 (impl_SameView_c _ _ _ _ _ _ hX h _ _ _ _ _ hXA hXB hDA hDB (by omega) (by omega)) ?_  -- k8 impl.SameView
        rintro v18 w18 ⟨rfl, g18⟩
        replace hA := hA.grow g18
        replace hDA := hDA.grow g18
        replace hDB := hDB.grow g18
        replace hRb := hRb.grow g18
        replace hXA := hXA.grow g18
        replace hXB := hXB.grow g18
        replace hYA := hYA.grow g18
        replace hYB := hYB.grow g18
        replace G := G.grow g18
        replace B2 := B2.grow g18
        replace B5 := B5.grow g18
        replace B8 := B8.grow g18
        replace B15 := B15.grow g18
        have zg18 := g18.size
        refine S_val (Y_pickT rfl rfl) ?_
        refine S_val (Y_move rfl) ?_
        refine S_g 93 rfl (fun hb7 => ?_) (fun hb7 => ?_)  -- g6
        · -- g6T
         first | with_reducible (replace hb7 := nb_nt hb7) | with_reducible (replace hb7 := nb_tt hb7) | with_reducible (replace hb7 := nb_bt hb7) | skip
         refine S_on rfl rfl ?_
         refine S_val (Y_move rfl) ?_
         refine S_on rfl rfl ?_
         refine S_val (Y_eql rfl rfl) ?_
         refine S_val (Y_pickT rfl rfl) ?_
         refine S_val (Y_move rfl) ?_
         refine S_g 97 rfl (fun hb8 => ?_) (fun hb8 => ?_)  -- g7
         · -- g7T
          first | with_reducible (replace hb8 := nb_nt hb8) | with_reducible (replace hb8 := nb_tt hb8) | with_reducible (replace hb8 := nb_bt hb8) | skip
          refine S_on rfl rfl ?_
          refine S_val (Y_field Try.underlying32 rfl fz32_0 (by decide) rfl) ?_
          refine S_on rfl rfl ?_
          refine S_val (Y_load Try.underlying30 rfl rfl (B5.at (by rfl))) ?_  -- l16
          refine S_on rfl rfl ?_
          refine S_val (Y_len Try.underlying30 rfl) ?_
          refine S_on rfl rfl ?_
          refine S_val (Y_field Try.underlying32 rfl fz32_0 (by decide) rfl) ?_
          refine S_on rfl rfl ?_
          refine S_val (Y_load Try.underlying30 rfl rfl (B2.at (by rfl))) ?_  -- l17
          refine S_on rfl rfl ?_
          refine S_val (Y_len Try.underlying30 rfl) ?_
          refine S_on rfl rfl ?_
          refine S_val (Y_eql rfl rfl) ?_
          refine S_val (Y_pickT rfl rfl) ?_
          refine S_val (Y_assign rfl) ?_
          refine S_nl rfl rfl ?_
          refine th_n (hK20 _ _ ?_)
          clear hK20 K20
          refine wp_ret ?_
          refine ret_r1 rfl rfl ?_  -- r3
          first | exact ⟨rfl, G⟩ | exact ⟨vT (by rw [hXl]), G⟩
         · -- g7F
          first | with_reducible (replace hb8 := nb_nf hb8) | with_reducible (replace hb8 := nb_tf hb8) | with_reducible (replace hb8 := nb_bf hb8) | skip
          exact absurd rfl hb8
        · -- g6F
         first | with_reducible (replace hb7 := nb_nf hb7) | with_reducible (replace hb7 := nb_tf hb7) | with_reducible (replace hb7 := nb_bf hb7) | skip
         rw [sameV_of hvX9 hv9 hview] at hb7; cases hb7
       · -- g5F
        first | with_reducible (replace hb6 := nb_nf hb6) | with_reducible (replace hb6 := nb_tf hb6) | with_reducible (replace hb6 := nb_bf hb6) | skip
        rw [hvX9] at hb6; cases hb6

end Go.Proofs.Ytikgflhepclfgac
