/-
  The law FnSweepTwice returns true.
  Conditions: those that each theorem states.
-/
import Derived.Test.YtikgflhepclfgacQb6
set_option linter.unusedVariables false
set_option linter.unusedSimpArgs false
namespace Go.Proofs.Ytikgflhepclfgac
open Go Go.RowKit
attribute [local irreducible] wpList wpAnyH Code.wp dOp

set_option maxHeartbeats 400000 in
set_option maxRecDepth 20000 in
theorem laws_FnSweepTwice_c (Pr : Nat → Prop) (A : Option Addr) (xs : List Int) (c : Nat) (w : World) (hA : R1 Pr w A (u8s xs)) (hn : xs.length ≤ 9223372036854775807) (hcap : xs.length ≤ c) (hrg : ∀ y ∈ xs, 0 ≤ y ∧ y ≤ 255) :
    Calls Try.prog 8 #[.slice A xs.length c] w (Ret fun v w' => v = .bool true ∧ Grow w w') := by
 refine enter Try.func8 rfl Try.ntmps8 (L := [_,_,_,_,_,_,_,_,_,_,_,_,_,_,_,_,_,_,_,_,_,_,_,_,_,_,_,_,_,_,_,_,_,_,_,_,_,_,_,_,_,_,_,_,_,_,_,_,_,_,_,_,_,_,_,_,_,_,_,_,_,_,_,_,_,_,_,_,_]) rfl ?_
 have G := Mod.refl No w
 have hA0 := hA
 refine wp_seq_k fun K1 hK1 => ?_
 refine Sb 69 rfl ?_  -- 0
 refine S_val (Y_assign rfl) ?_
 refine S_nl rfl rfl ?_
 refine th_n (hK1 _ _ ?_)
 clear hK1 K1
 refine wp_seq_k fun K2 hK2 => ?_
 refine wp_seq_k fun K3 hK3 => ?_
 refine Sb 69 rfl ?_  -- 1
 refine S_val (Y_move rfl) ?_
 refine S_val (Y_len Try.underlying39 rfl) ?_
 refine S_val (Y_gtr rfl rfl) ?_
 refine S_nl rfl rfl ?_
 refine th_n (hK3 _ _ ?_)
 clear hK3 K3
 refine S_if rfl (fun hb1 => ?_) (fun hb1 => ?_)  -- c1
 · -- c1T
  replace hb1 := nb_tt hb1
  refine wp_seq_k fun K4 hK4 => ?_
  refine Sb 69 rfl ?_  -- 2
  refine S_val (Y_assign rfl) ?_
  refine S_nl rfl rfl ?_
  refine th_n (hK4 _ _ ?_)
  clear hK4 K4
  refine wp_ret ?_
  refine th_r ?_
  clear hK2 K2
  refine ret_r1 rfl rfl ?_  -- r1
  first | exact ⟨rfl, G⟩ | exact ⟨vT rfl, G⟩
 · -- c1F
  replace hb1 := nb_tf hb1
  have hx : xs.length ≤ 1048576 := by omega
  refine wp_skip ?_
  refine th_n (hK2 _ _ ?_)
  clear hK2 K2
  refine wp_seq_k fun K5 hK5 => ?_
  refine Sb 69 rfl ?_  -- 3
  refine S_val (Y_move rfl) ?_
  refine S_call rfl en42 (spec_DrawCollectSweep_c _ _ _ _ _ (by assumption) (by omega) (by omega) (by assumption)) ?_  -- k1 spec.DrawCollectSweep
  rintro v1 w1 ⟨hD1, A1, B1, n11, c11, n21, c21, rfl, hn11, hn21, hz1, RC1, RR1, g1⟩
  replace hA := hA.grow g1
  replace G := G.grow g1
  have zg1 := g1.size
  subst hn11
  subst hn21
  obtain ⟨h, rfl⟩ : ∃ x, x = hD1 := ⟨_, rfl⟩
  obtain ⟨AD, rfl⟩ : ∃ x, x = A1 := ⟨_, rfl⟩
  obtain ⟨BD, rfl⟩ : ∃ x, x = B1 := ⟨_, rfl⟩
  obtain ⟨cD, rfl⟩ : ∃ x, x = c11 := ⟨_, rfl⟩
  obtain ⟨dD, rfl⟩ : ∃ x, x = c21 := ⟨_, rfl⟩
  have hzD := hz1
  have hzcD := hsize_cells h
  have hzrD := hsize_roots h
  have hDA := RC1.below
  have hDB := RR1.below
  have hrl := reachV_le h
  refine S_alloc (cs := [_, _]) zr32 rfl ?_
  intro b2 w2 fb2 g2 B2
  have lb2 := B2.lt
  replace hA := hA.grow g2
  replace hDA := hDA.grow g2
  replace hDB := hDB.grow g2
  replace G := G.grow g2
  have zg2 := g2.size
  refine S_stM (pre := []) (old := [_, _]) (post := []) (vs := [_, _]) sz32 rfl rfl rfl (by first | rfl | assumption) B2 rfl rfl ?_
  intro w3 m3 X3
  replace B2 := Blk.eq (ys := [_, _]) X3 rfl
  clear X3
  replace G := G.abv m3
  replace hA := hA0.grow G
  replace hDA := hDA.md m3
  replace hDB := hDB.md m3
  have zm3 := m3.size
  refine S_nl rfl rfl ?_
  refine th_n (hK5 _ _ ?_)
  clear hK5 K5
  refine wp_seq_k fun K6 hK6 => ?_
  refine Sb 69 rfl ?_  -- 4
  refine S_val (Y_loadS Try.underlying32 rfl sz32 rfl (B2.row (by rfl))) ?_  -- l1
  refine S_call rfl en43 (impl_CollectSweep_c _ _ _ _ _ _ _ (by assumption) (by assumption) (by omega)) ?_  -- k2 impl.CollectSweep
  rintro v4 w4 ⟨A4, B4, n14, c14, n24, c24, rs4, rfl, hn14, hn24, O4, g4⟩
  replace hA := hA.grow g4
  replace hDA := hDA.grow g4
  replace hDB := hDB.grow g4
  replace G := G.grow g4
  replace B2 := B2.grow g4
  have zg4 := g4.size
  obtain ⟨hX, hXe⟩ : ∃ x, x = (sweepV h (reachV h)).1 := ⟨_, rfl⟩
  have hXz : hsize hX ≤ 200 := by rw [hXe]; exact sweep_small _ _
  have hXc := hsize_cells hX
  rw [← hXe] at hn14 hn24 O4
  subst hn14
  subst hn24
  have hXA := O4.lt.rc
  have hXB := O4.lt.r1
  refine S_val (Y_move rfl) ?_
  refine S_val (Y_extract rfl rfl) ?_
  refine S_val (Y_extract rfl rfl) ?_
  refine S_alloc (cs := [_, _]) zr32 rfl ?_
  intro b5 w5 fb5 g5 B5
  have lb5 := B5.lt
  replace hA := hA.grow g5
  replace hDA := hDA.grow g5
  replace hDB := hDB.grow g5
  replace hXA := hXA.grow g5
  replace hXB := hXB.grow g5
  replace G := G.grow g5
  replace B2 := B2.grow g5
  have zg5 := g5.size
  refine S_stM (pre := []) (old := [_, _]) (post := []) (vs := [_, _]) sz32 rfl rfl rfl (by first | rfl | assumption) B5 rfl rfl ?_
  intro w6 m6 X6
  replace B5 := Blk.eq (ys := [_, _]) X6 rfl
  clear X6
  replace G := G.abv m6
  replace hA := hA0.grow G
  replace hDA := hDA.md m6
  replace hDB := hDB.md m6
  replace hXA := hXA.md m6
  replace hXB := hXB.md m6
  replace B2 := B2.md m6
  have zm6 := m6.size
  refine S_val (Y_assign rfl) ?_
  refine S_nl rfl rfl ?_
  refine th_n (hK6 _ _ ?_)
  clear hK6 K6
  refine wp_seq_k fun K7 hK7 => ?_
  refine Sb 69 rfl ?_  -- 5
  refine S_val (Y_loadS Try.underlying32 rfl sz32 rfl (B2.row (by rfl))) ?_  -- l2
  refine S_call rfl en44 (spec_CollectSweep2_c _ _ _ _ _ _ _ (by assumption) (by assumption) (by omega)) ?_  -- k3 spec.CollectSweep
  rintro v7 w7 ⟨A7, B7, n17, c17, n27, c27, rs7, rfl, hn17, hn27, O7, g7⟩
  replace hA := hA.grow g7
  replace hDA := hDA.grow g7
  replace hDB := hDB.grow g7
  replace hXA := hXA.grow g7
  replace hXB := hXB.grow g7
  replace G := G.grow g7
  replace B2 := B2.grow g7
  replace B5 := B5.grow g7
  have zg7 := g7.size
  rw [← hXe] at hn17 hn27 O7
  subst hn17
  subst hn27
  have hYA := O7.lt.rc
  have hYB := O7.lt.r1
  refine S_val (Y_move rfl) ?_
  refine S_val (Y_extract rfl rfl) ?_
  refine S_val (Y_extract rfl rfl) ?_
  refine S_alloc (cs := [_, _]) zr32 rfl ?_
  intro b8 w8 fb8 g8 B8
  have lb8 := B8.lt
  replace hA := hA.grow g8
  replace hDA := hDA.grow g8
  replace hDB := hDB.grow g8
  replace hXA := hXA.grow g8
  replace hXB := hXB.grow g8
  replace hYA := hYA.grow g8
  replace hYB := hYB.grow g8
  replace G := G.grow g8
  replace B2 := B2.grow g8
  replace B5 := B5.grow g8
  have zg8 := g8.size
  refine S_stM (pre := []) (old := [_, _]) (post := []) (vs := [_, _]) sz32 rfl rfl rfl (by first | rfl | assumption) B8 rfl rfl ?_
  intro w9 m9 X9
  replace B8 := Blk.eq (ys := [_, _]) X9 rfl
  clear X9
  replace G := G.abv m9
  replace hA := hA0.grow G
  replace hDA := hDA.md m9
  replace hDB := hDB.md m9
  replace hXA := hXA.md m9
  replace hXB := hXB.md m9
  replace hYA := hYA.md m9
  replace hYB := hYB.md m9
  replace B2 := B2.md m9
  replace B5 := B5.md m9
  have zm9 := m9.size
  refine S_val (Y_assign rfl) ?_
  refine S_nl rfl rfl ?_
  refine th_n (hK7 _ _ ?_)
  clear hK7 K7
  refine wp_seq_k fun K8 hK8 => ?_
  refine wp_seq_k fun K9 hK9 => ?_
  refine Sb 69 rfl ?_  -- 6
  refine S_val (Y_loadS Try.underlying32 rfl sz32 rfl (B5.row (by rfl))) ?_  -- l3
  refine S_val (Y_loadS Try.underlying32 rfl sz32 rfl (B8.row (by rfl))) ?_  -- l4
  refine S_call rfl en27 (laws_sameHeap_c _ _ _ _ _ _ hX hX _ _ _ _ _ hXA hXB hYA hYB (by omega)) ?_  -- k4 laws.sameHeap
  rintro v10 w10 ⟨rfl, g10⟩
  replace hA := hA.grow g10
  replace hDA := hDA.grow g10
  replace hDB := hDB.grow g10
  replace hXA := hXA.grow g10
  replace hXB := hXB.grow g10
  replace hYA := hYA.grow g10
  replace hYB := hYB.grow g10
  replace G := G.grow g10
  replace B2 := B2.grow g10
  replace B5 := B5.grow g10
  replace B8 := B8.grow g10
  have zg10 := g10.size
  refine S_val (Y_not rfl) ?_
  refine S_val (Y_move rfl) ?_
  refine S_g 31 rfl (fun hb2 => ?_) (fun hb2 => ?_)  -- g1
  · -- g1T
   first | with_reducible (replace hb2 := nb_nt hb2) | with_reducible (replace hb2 := nb_tt hb2) | with_reducible (replace hb2 := nb_bt hb2) | skip
   exact absurd rfl hb2
  · -- g1F
   first | with_reducible (replace hb2 := nb_nf hb2) | with_reducible (replace hb2 := nb_tf hb2) | with_reducible (replace hb2 := nb_bf hb2) | skip
   refine S_on rfl rfl ?_
   refine S_val (Y_move rfl) ?_
   refine S_on rfl rfl ?_
   refine S_val (Y_move rfl) ?_
   refine S_on rfl rfl ?_
   refine S_val (Y_neq rfl rfl) ?_
   refine S_val (Y_pickF rfl rfl) ?_
   refine S_nl rfl rfl ?_
   refine th_n (hK9 _ _ ?_)
   clear hK9 K9
   refine S_if rfl (fun hb3 => ?_) (fun hb3 => ?_)  -- c2
   · -- c2T
    first | with_reducible (replace hb3 := nb_nt hb3) | with_reducible (replace hb3 := nb_tt hb3) | with_reducible (replace hb3 := nb_bt hb3) | skip
    exact absurd rfl hb3
   · -- c2F
    first | with_reducible (replace hb3 := nb_nf hb3) | with_reducible (replace hb3 := nb_tf hb3) | with_reducible (replace hb3 := nb_bf hb3) | skip
    refine wp_skip ?_
    refine th_n (hK8 _ _ ?_)
    clear hK8 K8
    refine wp_seq_k fun K10 hK10 => ?_
    refine wp_seq_k fun K11 hK11 => ?_
    refine Sb 69 rfl ?_  -- 8
    refine S_val (Y_move rfl) ?_
    refine S_val (Y_lss rfl rfl) ?_
    refine S_nl rfl rfl ?_
    refine th_n (hK11 _ _ ?_)
    clear hK11 K11
    refine S_if rfl (fun hb4 => ?_) (fun hb4 => ?_)  -- c3
    · -- c3T
     replace hb4 := nb_tt hb4
     refine wp_seq_k fun K12 hK12 => ?_
     refine Sb 69 rfl ?_  -- 9
     refine S_call rfl en22 (laws_alive_c _) ?_  -- k5 laws.alive
     rintro v11 w11 ⟨rfl, g11⟩
     replace hA := hA.grow g11
     replace hDA := hDA.grow g11
     replace hDB := hDB.grow g11
     replace hXA := hXA.grow g11
     replace hXB := hXB.grow g11
     replace hYA := hYA.grow g11
     replace hYB := hYB.grow g11
     replace G := G.grow g11
     replace B2 := B2.grow g11
     replace B5 := B5.grow g11
     replace B8 := B8.grow g11
     have zg11 := g11.size
     refine S_val (Y_assign rfl) ?_
     refine S_nl rfl rfl ?_
     refine th_n (hK12 _ _ ?_)
     clear hK12 K12
     refine wp_ret ?_
     refine th_r ?_
     clear hK10 K10
     refine ret_r1 rfl rfl ?_  -- r2
     first | exact ⟨rfl, G⟩ | exact ⟨vT rfl, G⟩
    · -- c3F
     replace hb4 := nb_tf hb4
     obtain ⟨va, _, _, _⟩ := sweep_ok hb4
     have hv9 := valid_iff.2 va
     have hse := swept_eq va
     have hXs : hX = sweptH h := by rw [hXe, hse]
     have hvX : Valid hX := by rw [hXs]; exact swept_valid va
     have hnX : ∀ i, ¬ Lost hX i := fun i => by rw [hXs]; exact swept_none va i
     have hvX9 := valid_iff.2 hvX
     have hus := used_live hvX hnX
     have hview : viewV hX = viewV h := by rw [hXs]; exact swept_view va
     have hreach : reachV hX = reachV h := by rw [hXs]; exact swept_reach va
     have hag : sweepV hX (reachV hX) = (hX, 0) := by rw [hXs]; exact swept_again va
     have hle := leakV_eq va
     have h2n : (sweepV h (reachV h)).2 = (((leakV h).length : Nat) : Int) := by rw [hse, hle]
     have hcl := countsV_len hX
     have hid := cyc_idle hvX hnX hX.cells.length
     have hcv : cvalB hX (countsV hX) = true := by rw [cvalB_t hvX9]; exact decide_eq_true rfl
     have hcy := cycleV_t hcv
     have hcy1 : (cycleV hX (countsV hX)).1.1 = hX := by rw [hcy]; exact hid.1
     have hcy2 : (cycleV hX (countsV hX)).2 = 0 := by rw [hcy]; show ((cycN hX hX.cells.length : Nat) : Int) = 0; rw [hid.2]; rfl
     refine wp_skip ?_
     refine th_n (hK10 _ _ ?_)
     clear hK10 K10
     refine wp_seq_k fun K13 hK13 => ?_
     refine Sb 69 rfl ?_  -- 10
     refine S_val (Y_loadS Try.underlying32 rfl sz32 rfl (B5.row (by rfl))) ?_  -- l5
     refine S_call rfl en43 (impl_CollectSweep_c _ _ _ hX _ _ _ hXA hXB (by omega)) ?_  -- k6 impl.CollectSweep
     rintro v12 w12 ⟨A12, B12, n112, c112, n212, c212, rs12, rfl, hn112, hn212, O12, g12⟩
     replace hA := hA.grow g12
     replace hDA := hDA.grow g12
     replace hDB := hDB.grow g12
     replace hXA := hXA.grow g12
     replace hXB := hXB.grow g12
     replace hYA := hYA.grow g12
     replace hYB := hYB.grow g12
     replace G := G.grow g12
     replace B2 := B2.grow g12
     replace B5 := B5.grow g12
     replace B8 := B8.grow g12
     have zg12 := g12.size
     rw [hag] at hn112 hn212 O12
     rw [hag]
     try dsimp only at hn112 hn212 O12
     subst hn112
     subst hn212
     have hZA := O12.lt.rc
     have hZB := O12.lt.r1
     refine S_val (Y_move rfl) ?_
     refine S_val (Y_extract rfl rfl) ?_
     refine S_val (Y_extract rfl rfl) ?_
     refine S_alloc (cs := [_, _]) zr32 rfl ?_
     intro b13 w13 fb13 g13 B13
     have lb13 := B13.lt
     replace hA := hA.grow g13
     replace hDA := hDA.grow g13
     replace hDB := hDB.grow g13
     replace hXA := hXA.grow g13
     replace hXB := hXB.grow g13
     replace hYA := hYA.grow g13
     replace hYB := hYB.grow g13
     replace hZA := hZA.grow g13
     replace hZB := hZB.grow g13
     replace G := G.grow g13
     replace B2 := B2.grow g13
     replace B5 := B5.grow g13
     replace B8 := B8.grow g13
     have zg13 := g13.size
     refine S_stM (pre := []) (old := [_, _]) (post := []) (vs := [_, _]) sz32 rfl rfl rfl (by first | rfl | assumption) B13 rfl rfl ?_
     intro w14 m14 X14
     replace B13 := Blk.eq (ys := [_, _]) X14 rfl
     clear X14
     replace G := G.abv m14
     replace hA := hA0.grow G
     replace hDA := hDA.md m14
     replace hDB := hDB.md m14
     replace hXA := hXA.md m14
     replace hXB := hXB.md m14
     replace hYA := hYA.md m14
     replace hYB := hYB.md m14
     replace hZA := hZA.md m14
     replace hZB := hZB.md m14
     replace B2 := B2.md m14
     replace B5 := B5.md m14
     replace B8 := B8.md m14
     have zm14 := m14.size
     refine S_val (Y_assign rfl) ?_
     refine S_nl rfl rfl ?_
     refine th_n (hK13 _ _ ?_)
     clear hK13 K13
     refine wp_seq_k fun K14 hK14 => ?_
     refine D_start 11 69 (fun w => Mod (No) w) follows rfl rfl ?_  -- d1 r11
     intro w15 g15
     replace hA := hA.grow g15
     replace hDA := hDA.grow g15
     replace hDB := hDB.grow g15
     replace hXA := hXA.grow g15
     replace hXB := hXB.grow g15
     replace hYA := hYA.grow g15
     replace hYB := hYB.grow g15
     replace hZA := hZA.grow g15
     replace hZB := hZB.grow g15
     replace G := G.grow g15
     replace B2 := B2.grow g15
     replace B5 := B5.grow g15
     replace B8 := B8.grow g15
     replace B13 := B13.grow g15
     have zg15 := g15.size
     have GS15 := Mod.refl (No) w15
     have B5d15 := B5
     refine Dq (i := 0) rfl GS15 (fun _ hs => Y_loadS Try.underlying32 rfl sz32 rfl (by first | exact hs.cells0 (B5.row (by rfl)))) ?_
     refine Dq (i := 1) rfl GS15 (fun _ hs => Y_loadS Try.underlying32 rfl sz32 rfl (by first | exact hs.cells0 (B5.row (by rfl)))) ?_
     refine D_2 (i := 2) (j := 8) (by kernel_rfl) ?_ ?_
     · -- operation 2 comes up
      refine E_call rfl rfl en45 (impl_RefCounts_c _ _ _ hX _ _ _ hXA hXB (by omega)) ?_  -- k7 impl.RefCounts
      rintro v16 w16 ⟨A16, q16, cap16, rfl, hq16, O16, g16⟩
      replace hA := hA.grow g16
      replace hDA := hDA.grow g16
      replace hDB := hDB.grow g16
      replace hXA := hXA.grow g16
      replace hXB := hXB.grow g16
      replace hYA := hYA.grow g16
      replace hYB := hYB.grow g16
      replace hZA := hZA.grow g16
      replace hZB := hZB.grow g16
      replace G := G.grow g16
      replace GS15 := GS15.grow g16
      replace B2 := B2.grow g16
      replace B5 := B5.grow g16
      replace B8 := B8.grow g16
      replace B13 := B13.grow g16
      have zg16 := g16.size
      subst hq16
      have hRc := O16.lt.r1
      refine ⟨GS15, ?_⟩
      refine Dq (i := 3) rfl GS15 (fun _ _ => Y_build (cs := [_, _, _]) zr53 pc53 rfl rfl) ?_
      refine D_2 (i := 4) (j := 8) (by kernel_rfl) ?_ ?_
      · -- operation 4 comes up
       refine E_call rfl rfl en32 (impl_CollectCycles_c (fun _ => True) _ _ _ hX (countsV hX) _ _ _ _ (hXA.weak (fun _ _ => trivial)) (hXB.weak (fun _ _ => trivial)) (hRc.weak (fun _ _ => trivial)) (by omega) (by omega)) ?_  -- k8 impl.CollectCycles
       rintro v17 w17 ⟨A17, B17, C17, n117, c117, n217, c217, n317, c317, rs17, P17, Q17, rfl, hn117, hn217, hn317, hPQ17, hQ17, O17, OM17, g17⟩
       replace hA := hA.grow g17
       replace hDA := hDA.grow g17
       replace hDB := hDB.grow g17
       replace hXA := hXA.grow g17
       replace hXB := hXB.grow g17
       replace hYA := hYA.grow g17
       replace hYB := hYB.grow g17
       replace hZA := hZA.grow g17
       replace hZB := hZB.grow g17
       replace hRc := hRc.grow g17
       replace G := G.grow g17
       replace GS15 := GS15.grow g17
       replace B2 := B2.grow g17
       replace B5 := B5.grow g17
       replace B8 := B8.grow g17
       replace B13 := B13.grow g17
       have zg17 := g17.size
       rw [hcy1] at hn117 hn217 O17
       rw [hcy2]
       subst hn117
       subst hn217
       obtain ⟨loW, hloW⟩ : ∃ x, x = w16.heap.size := ⟨_, rfl⟩
       obtain ⟨hiW, hhiW⟩ : ∃ x, x = w17.heap.size := ⟨_, rfl⟩
       have OW9 := (O17.lt).weak (Pr' := fun k => loW ≤ k ∧ k < hiW) (fun k hk => ⟨by have h8 := (hPQ17 k hk.1).1; omega, by have h8 := hk.2; omega⟩)
       have hWA := OW9.rc
       have hWB := OW9.r1
       refine ⟨GS15, ?_⟩
       refine Dq (i := 5) rfl GS15 (fun _ _ => Y_move rfl) ?_
       refine Dq (i := 6) rfl GS15 (fun _ _ => Y_extract rfl rfl) ?_
       refine Dq (i := 7) rfl GS15 (fun _ _ => Y_extract rfl rfl) ?_
       refine D_1 (i := 8) (by kernel_rfl) ?_
       refine E_alloc (cs := [_, _, _]) rfl zr53 rfl (fun b18 w18 fb18 g18 B18 => ⟨GS15.grow g18, ?_⟩)
       have lb18 := B18.lt
       replace hA := hA.grow g18
       replace hDA := hDA.grow g18
       replace hDB := hDB.grow g18
       replace hXA := hXA.grow g18
       replace hXB := hXB.grow g18
       replace hYA := hYA.grow g18
       replace hYB := hYB.grow g18
       replace hZA := hZA.grow g18
       replace hZB := hZB.grow g18
       replace hRc := hRc.grow g18
       replace hWA := hWA.grow g18
       replace hWB := hWB.grow g18
       replace G := G.grow g18
       replace GS15 := GS15.grow g18
       replace B2 := B2.grow g18
       replace B5 := B5.grow g18
       replace B8 := B8.grow g18
       replace B13 := B13.grow g18
       have zg18 := g18.size
       refine D_1 (i := 9) (by kernel_rfl) ?_
       refine E_stM (pre := []) (old := [_, _, _]) (post := []) (vs := [_, _, _]) (i := 9) rfl sz53 rfl rfl rfl (by first | rfl | assumption) B18 rfl rfl ?_
       intro w19 m19 X19
       replace B18 := Blk.eq (ys := [_, _, _]) X19 rfl
       clear X19
       replace G := G.abv m19
       replace GS15 := GS15.abv m19
       replace hA := hA0.grow G
       replace hDA := hDA.md m19
       replace hDB := hDB.md m19
       replace hXA := hXA.md m19
       replace hXB := hXB.md m19
       replace hYA := hYA.md m19
       replace hYB := hYB.md m19
       replace hZA := hZA.md m19
       replace hZB := hZB.md m19
       replace hRc := hRc.md m19
       replace hWA := hWA.md m19
       replace hWB := hWB.md m19
       replace B2 := B2.md m19
       replace B5 := B5.md m19
       replace B8 := B8.md m19
       replace B13 := B13.md m19
       have zm19 := m19.size
       refine ⟨GS15, ?_⟩
       refine Dq (i := 10) rfl GS15 (fun _ _ => Y_assign rfl) ?_
       refine D_en (by kernel_rfl) rfl rfl ?_
       refine th_n (hK14 _ _ ?_)
       clear hK14 K14
       refine wp_seq_k fun K15 hK15 => ?_
       refine Sb 69 rfl ?_  -- 12
       refine S_val (Y_move rfl) ?_
       refine S_val (Y_eql rfl rfl) ?_
       refine S_val (Y_move rfl) ?_
       refine S_g 54 rfl (fun hb5 => ?_) (fun hb5 => ?_)  -- g2
       · -- g2T
        replace hb5 := nb_tt hb5
        refine S_on rfl rfl ?_
        refine S_val (Y_loadS Try.underlying32 rfl sz32 rfl (B13.row (by rfl))) ?_  -- l8
        refine S_on rfl rfl ?_
        refine S_val (Y_loadS Try.underlying32 rfl sz32 rfl (B5.row (by rfl))) ?_  -- l9
        refine S_on rfl rfl ?_
        refine S_call rfl en27 (laws_sameHeap_c _ _ _ _ _ _ hX hX _ _ _ _ _ hZA hZB hXA hXB (by omega)) ?_  -- k9 laws.sameHeap
        rintro v20 w20 ⟨rfl, g20⟩
        replace hA := hA.grow g20
        replace hDA := hDA.grow g20
        replace hDB := hDB.grow g20
        replace hXA := hXA.grow g20
        replace hXB := hXB.grow g20
        replace hYA := hYA.grow g20
        replace hYB := hYB.grow g20
        replace hZA := hZA.grow g20
        replace hZB := hZB.grow g20
        replace hRc := hRc.grow g20
        replace hWA := hWA.grow g20
        replace hWB := hWB.grow g20
        replace G := G.grow g20
        replace B2 := B2.grow g20
        replace B5 := B5.grow g20
        replace B8 := B8.grow g20
        replace B13 := B13.grow g20
        replace B18 := B18.grow g20
        have zg20 := g20.size
        refine S_val (Y_pickT rfl rfl) ?_
        refine S_val (Y_move rfl) ?_
        refine S_g 59 rfl (fun hb6 => ?_) (fun hb6 => ?_)  -- g3
        · -- g3T
         first | with_reducible (replace hb6 := nb_nt hb6) | with_reducible (replace hb6 := nb_tt hb6) | with_reducible (replace hb6 := nb_bt hb6) | skip
         refine S_on rfl rfl ?_
         refine S_val (Y_move rfl) ?_
         refine S_on rfl rfl ?_
         refine S_val (Y_eql rfl rfl) ?_
         refine S_val (Y_pickT rfl rfl) ?_
         refine S_val (Y_move rfl) ?_
         refine S_g 63 rfl (fun hb7 => ?_) (fun hb7 => ?_)  -- g4
         · -- g4T
          first | with_reducible (replace hb7 := nb_nt hb7) | with_reducible (replace hb7 := nb_tt hb7) | with_reducible (replace hb7 := nb_bt hb7) | skip
          refine S_on rfl rfl ?_
          refine S_val (Y_field Try.underlying53 rfl fz53_0 (by decide) rfl) ?_
          refine S_on rfl rfl ?_
          refine S_val (Y_loadS Try.underlying32 rfl sz32 rfl (CellsAt.of_blk (pre := []) (us := [_, _]) (post := [_]) B18 rfl)) ?_  -- l10
          refine S_on rfl rfl ?_
          refine S_val (Y_loadS Try.underlying32 rfl sz32 rfl (B5.row (by rfl))) ?_  -- l11
          refine S_on rfl rfl ?_
          refine S_call rfl en27 (laws_sameHeap_c _ _ _ _ _ _ hX hX _ _ _ _ _ hWA hWB hXA hXB (by omega)) ?_  -- k10 laws.sameHeap
          rintro v21 w21 ⟨rfl, g21⟩
          replace hA := hA.grow g21
          replace hDA := hDA.grow g21
          replace hDB := hDB.grow g21
          replace hXA := hXA.grow g21
          replace hXB := hXB.grow g21
          replace hYA := hYA.grow g21
          replace hYB := hYB.grow g21
          replace hZA := hZA.grow g21
          replace hZB := hZB.grow g21
          replace hRc := hRc.grow g21
          replace hWA := hWA.grow g21
          replace hWB := hWB.grow g21
          replace G := G.grow g21
          replace B2 := B2.grow g21
          replace B5 := B5.grow g21
          replace B8 := B8.grow g21
          replace B13 := B13.grow g21
          replace B18 := B18.grow g21
          have zg21 := g21.size
          refine S_val (Y_pickT rfl rfl) ?_
          refine S_val (Y_assign rfl) ?_
          refine S_nl rfl rfl ?_
          refine th_n (hK15 _ _ ?_)
          clear hK15 K15
          refine wp_ret ?_
          refine ret_r1 rfl rfl ?_  -- r3
          first | exact ⟨rfl, G⟩ | exact ⟨vT rfl, G⟩
         · -- g4F
          first | with_reducible (replace hb7 := nb_nf hb7) | with_reducible (replace hb7 := nb_tf hb7) | with_reducible (replace hb7 := nb_bf hb7) | skip
          exact absurd rfl hb7
        · -- g3F
         first | with_reducible (replace hb6 := nb_nf hb6) | with_reducible (replace hb6 := nb_tf hb6) | with_reducible (replace hb6 := nb_bf hb6) | skip
         exact absurd rfl hb6
       · -- g2F
        replace hb5 := nb_tf hb5
        exact absurd rfl hb5
      · -- operation 8 comes up
       refine E_alloc (cs := [_, _, _]) rfl zr53 rfl (fun b22 w22 fb22 g22 B22 => ⟨GS15.grow g22, ?_⟩)
       have lb22 := B22.lt
       replace hA := hA.grow g22
       replace hDA := hDA.grow g22
       replace hDB := hDB.grow g22
       replace hXA := hXA.grow g22
       replace hXB := hXB.grow g22
       replace hYA := hYA.grow g22
       replace hYB := hYB.grow g22
       replace hZA := hZA.grow g22
       replace hZB := hZB.grow g22
       replace hRc := hRc.grow g22
       replace G := G.grow g22
       replace GS15 := GS15.grow g22
       replace B2 := B2.grow g22
       replace B5 := B5.grow g22
       replace B8 := B8.grow g22
       replace B13 := B13.grow g22
       have zg22 := g22.size
       refine D_1 (i := 4) (by kernel_rfl) ?_
       refine E_call rfl rfl en32 (impl_CollectCycles_c (fun _ => True) _ _ _ hX (countsV hX) _ _ _ _ (hXA.weak (fun _ _ => trivial)) (hXB.weak (fun _ _ => trivial)) (hRc.weak (fun _ _ => trivial)) (by omega) (by omega)) ?_  -- k11 impl.CollectCycles
       rintro v23 w23 ⟨A23, B23, C23, n123, c123, n223, c223, n323, c323, rs23, P23, Q23, rfl, hn123, hn223, hn323, hPQ23, hQ23, O23, OM23, g23⟩
       replace hA := hA.grow g23
       replace hDA := hDA.grow g23
       replace hDB := hDB.grow g23
       replace hXA := hXA.grow g23
       replace hXB := hXB.grow g23
       replace hYA := hYA.grow g23
       replace hYB := hYB.grow g23
       replace hZA := hZA.grow g23
       replace hZB := hZB.grow g23
       replace hRc := hRc.grow g23
       replace G := G.grow g23
       replace GS15 := GS15.grow g23
       replace B2 := B2.grow g23
       replace B5 := B5.grow g23
       replace B8 := B8.grow g23
       replace B13 := B13.grow g23
       replace B22 := B22.grow g23
       have zg23 := g23.size
       rw [hcy1] at hn123 hn223 O23
       rw [hcy2]
       subst hn123
       subst hn223
       obtain ⟨loW, hloW⟩ : ∃ x, x = w22.heap.size := ⟨_, rfl⟩
       obtain ⟨hiW, hhiW⟩ : ∃ x, x = w23.heap.size := ⟨_, rfl⟩
       have OW9 := (O23.lt).weak (Pr' := fun k => loW ≤ k ∧ k < hiW) (fun k hk => ⟨by have h8 := (hPQ23 k hk.1).1; omega, by have h8 := hk.2; omega⟩)
       have hWA := OW9.rc
       have hWB := OW9.r1
       refine ⟨GS15, ?_⟩
       refine Dq (i := 5) rfl GS15 (fun _ _ => Y_move rfl) ?_
       refine Dq (i := 6) rfl GS15 (fun _ _ => Y_extract rfl rfl) ?_
       refine Dq (i := 7) rfl GS15 (fun _ _ => Y_extract rfl rfl) ?_
       refine D_1 (i := 9) (by kernel_rfl) ?_
       refine E_stM (pre := []) (old := [_, _, _]) (post := []) (vs := [_, _, _]) (i := 9) rfl sz53 rfl rfl rfl (by first | rfl | assumption) B22 rfl rfl ?_
       intro w24 m24 X24
       replace B22 := Blk.eq (ys := [_, _, _]) X24 rfl
       clear X24
       replace G := G.abv m24
       replace GS15 := GS15.abv m24
       replace hA := hA0.grow G
       replace hDA := hDA.md m24
       replace hDB := hDB.md m24
       replace hXA := hXA.md m24
       replace hXB := hXB.md m24
       replace hYA := hYA.md m24
       replace hYB := hYB.md m24
       replace hZA := hZA.md m24
       replace hZB := hZB.md m24
       replace hRc := hRc.md m24
       replace hWA := hWA.md m24
       replace hWB := hWB.md m24
       replace B2 := B2.md m24
       replace B5 := B5.md m24
       replace B8 := B8.md m24
       replace B13 := B13.md m24
       have zm24 := m24.size
       refine ⟨GS15, ?_⟩
       refine Dq (i := 10) rfl GS15 (fun _ _ => Y_assign rfl) ?_
       refine D_en (by kernel_rfl) rfl rfl ?_
       refine th_n (hK14 _ _ ?_)
       clear hK14 K14
       refine wp_seq_k fun K16 hK16 => ?_
       refine Sb 69 rfl ?_  -- 12
       refine S_val (Y_move rfl) ?_
       refine S_val (Y_eql rfl rfl) ?_
       refine S_val (Y_move rfl) ?_
       refine S_g 54 rfl (fun hb5 => ?_) (fun hb5 => ?_)  -- g5
       · -- g5T
        replace hb5 := nb_tt hb5
        refine S_on rfl rfl ?_
        refine S_val (Y_loadS Try.underlying32 rfl sz32 rfl (B13.row (by rfl))) ?_  -- l12
        refine S_on rfl rfl ?_
        refine S_val (Y_loadS Try.underlying32 rfl sz32 rfl (B5.row (by rfl))) ?_  -- l13
        refine S_on rfl rfl ?_
        refine S_call rfl en27 (laws_sameHeap_c _ _ _ _ _ _ hX hX _ _ _ _ _ hZA hZB hXA hXB (by omega)) ?_  -- k12 laws.sameHeap
        rintro v25 w25 ⟨rfl, g25⟩
        replace hA := hA.grow g25
        replace hDA := hDA.grow g25
        replace hDB := hDB.grow g25
        replace hXA := hXA.grow g25
        replace hXB := hXB.grow g25
        replace hYA := hYA.grow g25
        replace hYB := hYB.grow g25
        replace hZA := hZA.grow g25
        replace hZB := hZB.grow g25
        replace hRc := hRc.grow g25
        replace hWA := hWA.grow g25
        replace hWB := hWB.grow g25
        replace G := G.grow g25
        replace B2 := B2.grow g25
        replace B5 := B5.grow g25
        replace B8 := B8.grow g25
        replace B13 := B13.grow g25
        replace B22 := B22.grow g25
        have zg25 := g25.size
        refine S_val (Y_pickT rfl rfl) ?_
        refine S_val (Y_move rfl) ?_
        refine S_g 59 rfl (fun hb6 => ?_) (fun hb6 => ?_)  -- g6
        · -- g6T
         first | with_reducible (replace hb6 := nb_nt hb6) | with_reducible (replace hb6 := nb_tt hb6) | with_reducible (replace hb6 := nb_bt hb6) | skip
         refine S_on rfl rfl ?_
         refine S_val (Y_move rfl) ?_
         refine S_on rfl rfl ?_
         refine S_val (Y_eql rfl rfl) ?_
         refine S_val (Y_pickT rfl rfl) ?_
         refine S_val (Y_move rfl) ?_
         refine S_g 63 rfl (fun hb7 => ?_) (fun hb7 => ?_)  -- g7
         · -- g7T
          first | with_reducible (replace hb7 := nb_nt hb7) | with_reducible (replace hb7 := nb_tt hb7) | with_reducible (replace hb7 := nb_bt hb7) | skip
          refine S_on rfl rfl ?_
          refine S_val (Y_field Try.underlying53 rfl fz53_0 (by decide) rfl) ?_
          refine S_on rfl rfl ?_
          refine S_val (Y_loadS Try.underlying32 rfl sz32 rfl (CellsAt.of_blk (pre := []) (us := [_, _]) (post := [_]) B22 rfl)) ?_  -- l14
          refine S_on rfl rfl ?_
          refine S_val (Y_loadS Try.underlying32 rfl sz32 rfl (B5.row (by rfl))) ?_  -- l15
          refine S_on rfl rfl ?_
          refine S_call rfl en27 (laws_sameHeap_c _ _ _ _ _ _ hX hX _ _ _ _ _ hWA hWB hXA hXB (by omega)) ?_  -- k13 laws.sameHeap
          rintro v26 w26 ⟨rfl, g26⟩
          replace hA := hA.grow g26
          replace hDA := hDA.grow g26
          replace hDB := hDB.grow g26
          replace hXA := hXA.grow g26
          replace hXB := hXB.grow g26
          replace hYA := hYA.grow g26
          replace hYB := hYB.grow g26
          replace hZA := hZA.grow g26
          replace hZB := hZB.grow g26
          replace hRc := hRc.grow g26
          replace hWA := hWA.grow g26
          replace hWB := hWB.grow g26
          replace G := G.grow g26
          replace B2 := B2.grow g26
          replace B5 := B5.grow g26
          replace B8 := B8.grow g26
          replace B13 := B13.grow g26
          replace B22 := B22.grow g26
          have zg26 := g26.size
          refine S_val (Y_pickT rfl rfl) ?_
          refine S_val (Y_assign rfl) ?_
          refine S_nl rfl rfl ?_
          refine th_n (hK16 _ _ ?_)
          clear hK16 K16
          refine wp_ret ?_
          refine ret_r1 rfl rfl ?_  -- r4
          first | exact ⟨rfl, G⟩ | exact ⟨vT rfl, G⟩
         · -- g7F
          first | with_reducible (replace hb7 := nb_nf hb7) | with_reducible (replace hb7 := nb_tf hb7) | with_reducible (replace hb7 := nb_bf hb7) | skip
          exact absurd rfl hb7
        · -- g6F
         first | with_reducible (replace hb6 := nb_nf hb6) | with_reducible (replace hb6 := nb_tf hb6) | with_reducible (replace hb6 := nb_bf hb6) | skip
         exact absurd rfl hb6
       · -- g5F
        replace hb5 := nb_tf hb5
        exact absurd rfl hb5
     · -- operation 8 comes up
      refine E_alloc (cs := [_, _, _]) rfl zr53 rfl (fun b27 w27 fb27 g27 B27 => ⟨GS15.grow g27, ?_⟩)
      have lb27 := B27.lt
      replace hA := hA.grow g27
      replace hDA := hDA.grow g27
      replace hDB := hDB.grow g27
      replace hXA := hXA.grow g27
      replace hXB := hXB.grow g27
      replace hYA := hYA.grow g27
      replace hYB := hYB.grow g27
      replace hZA := hZA.grow g27
      replace hZB := hZB.grow g27
      replace G := G.grow g27
      replace GS15 := GS15.grow g27
      replace B2 := B2.grow g27
      replace B5 := B5.grow g27
      replace B8 := B8.grow g27
      replace B13 := B13.grow g27
      have zg27 := g27.size
      refine D_1 (i := 2) (by kernel_rfl) ?_
      refine E_call rfl rfl en45 (impl_RefCounts_c _ _ _ hX _ _ _ hXA hXB (by omega)) ?_  -- k14 impl.RefCounts
      rintro v28 w28 ⟨A28, q28, cap28, rfl, hq28, O28, g28⟩
      replace hA := hA.grow g28
      replace hDA := hDA.grow g28
      replace hDB := hDB.grow g28
      replace hXA := hXA.grow g28
      replace hXB := hXB.grow g28
      replace hYA := hYA.grow g28
      replace hYB := hYB.grow g28
      replace hZA := hZA.grow g28
      replace hZB := hZB.grow g28
      replace G := G.grow g28
      replace GS15 := GS15.grow g28
      replace B2 := B2.grow g28
      replace B5 := B5.grow g28
      replace B8 := B8.grow g28
      replace B13 := B13.grow g28
      replace B27 := B27.grow g28
      have zg28 := g28.size
      subst hq28
      have hRc := O28.lt.r1
      refine ⟨GS15, ?_⟩
      refine Dq (i := 3) rfl GS15 (fun _ _ => Y_build (cs := [_, _, _]) zr53 pc53 rfl rfl) ?_
      refine D_1 (i := 4) (by kernel_rfl) ?_
      refine E_call rfl rfl en32 (impl_CollectCycles_c (fun _ => True) _ _ _ hX (countsV hX) _ _ _ _ (hXA.weak (fun _ _ => trivial)) (hXB.weak (fun _ _ => trivial)) (hRc.weak (fun _ _ => trivial)) (by omega) (by omega)) ?_  -- k15 impl.CollectCycles
      rintro v29 w29 ⟨A29, B29, C29, n129, c129, n229, c229, n329, c329, rs29, P29, Q29, rfl, hn129, hn229, hn329, hPQ29, hQ29, O29, OM29, g29⟩
      replace hA := hA.grow g29
      replace hDA := hDA.grow g29
      replace hDB := hDB.grow g29
      replace hXA := hXA.grow g29
      replace hXB := hXB.grow g29
      replace hYA := hYA.grow g29
      replace hYB := hYB.grow g29
      replace hZA := hZA.grow g29
      replace hZB := hZB.grow g29
      replace hRc := hRc.grow g29
      replace G := G.grow g29
      replace GS15 := GS15.grow g29
      replace B2 := B2.grow g29
      replace B5 := B5.grow g29
      replace B8 := B8.grow g29
      replace B13 := B13.grow g29
      replace B27 := B27.grow g29
      have zg29 := g29.size
      rw [hcy1] at hn129 hn229 O29
      rw [hcy2]
      subst hn129
      subst hn229
      obtain ⟨loW, hloW⟩ : ∃ x, x = w28.heap.size := ⟨_, rfl⟩
      obtain ⟨hiW, hhiW⟩ : ∃ x, x = w29.heap.size := ⟨_, rfl⟩
      have OW9 := (O29.lt).weak (Pr' := fun k => loW ≤ k ∧ k < hiW) (fun k hk => ⟨by have h8 := (hPQ29 k hk.1).1; omega, by have h8 := hk.2; omega⟩)
      have hWA := OW9.rc
      have hWB := OW9.r1
      refine ⟨GS15, ?_⟩
      refine Dq (i := 5) rfl GS15 (fun _ _ => Y_move rfl) ?_
      refine Dq (i := 6) rfl GS15 (fun _ _ => Y_extract rfl rfl) ?_
      refine Dq (i := 7) rfl GS15 (fun _ _ => Y_extract rfl rfl) ?_
      refine D_1 (i := 9) (by kernel_rfl) ?_
      refine E_stM (pre := []) (old := [_, _, _]) (post := []) (vs := [_, _, _]) (i := 9) rfl sz53 rfl rfl rfl (by first | rfl | assumption) B27 rfl rfl ?_
      intro w30 m30 X30
      replace B27 := Blk.eq (ys := [_, _, _]) X30 rfl
      clear X30
      replace G := G.abv m30
      replace GS15 := GS15.abv m30
      replace hA := hA0.grow G
      replace hDA := hDA.md m30
      replace hDB := hDB.md m30
      replace hXA := hXA.md m30
      replace hXB := hXB.md m30
      replace hYA := hYA.md m30
      replace hYB := hYB.md m30
      replace hZA := hZA.md m30
      replace hZB := hZB.md m30
      replace hRc := hRc.md m30
      replace hWA := hWA.md m30
      replace hWB := hWB.md m30
      replace B2 := B2.md m30
      replace B5 := B5.md m30
      replace B8 := B8.md m30
      replace B13 := B13.md m30
      have zm30 := m30.size
      refine ⟨GS15, ?_⟩
      refine Dq (i := 10) rfl GS15 (fun _ _ => Y_assign rfl) ?_
      refine D_en (by kernel_rfl) rfl rfl ?_
      refine th_n (hK14 _ _ ?_)
      clear hK14 K14
      refine wp_seq_k fun K17 hK17 => ?_
      refine Sb 69 rfl ?_  -- 12
      refine S_val (Y_move rfl) ?_
      refine S_val (Y_eql rfl rfl) ?_
      refine S_val (Y_move rfl) ?_
      refine S_g 54 rfl (fun hb5 => ?_) (fun hb5 => ?_)  -- g8
      · -- g8T
       replace hb5 := nb_tt hb5
       refine S_on rfl rfl ?_
       refine S_val (Y_loadS Try.underlying32 rfl sz32 rfl (B13.row (by rfl))) ?_  -- l16
       refine S_on rfl rfl ?_
       refine S_val (Y_loadS Try.underlying32 rfl sz32 rfl (B5.row (by rfl))) ?_  -- l17
       refine S_on rfl rfl ?_
       refine S_call rfl en27 (laws_sameHeap_c _ _ _ _ _ _ hX hX _ _ _ _ _ hZA hZB hXA hXB (by omega)) ?_  -- k16 laws.sameHeap
       rintro v31 w31 ⟨rfl, g31⟩
       replace hA := hA.grow g31
       replace hDA := hDA.grow g31
       replace hDB := hDB.grow g31
       replace hXA := hXA.grow g31
       replace hXB := hXB.grow g31
       replace hYA := hYA.grow g31
       replace hYB := hYB.grow g31
       replace hZA := hZA.grow g31
       replace hZB := hZB.grow g31
       replace hRc := hRc.grow g31
       replace hWA := hWA.grow g31
       replace hWB := hWB.grow g31
       replace G := G.grow g31
       replace B2 := B2.grow g31
       replace B5 := B5.grow g31
       replace B8 := B8.grow g31
       replace B13 := B13.grow g31
       replace B27 := B27.grow g31
       have zg31 := g31.size
       refine S_val (Y_pickT rfl rfl) ?_
       refine S_val (Y_move rfl) ?_
       refine S_g 59 rfl (fun hb6 => ?_) (fun hb6 => ?_)  -- g9
       · -- g9T
        first | with_reducible (replace hb6 := nb_nt hb6) | with_reducible (replace hb6 := nb_tt hb6) | with_reducible (replace hb6 := nb_bt hb6) | skip
        refine S_on rfl rfl ?_
        refine S_val (Y_move rfl) ?_
        refine S_on rfl rfl ?_
        refine S_val (Y_eql rfl rfl) ?_
        refine S_val (Y_pickT rfl rfl) ?_
        refine S_val (Y_move rfl) ?_
        refine S_g 63 rfl (fun hb7 => ?_) (fun hb7 => ?_)  -- g10
        · -- g10T
         first | with_reducible (replace hb7 := nb_nt hb7) | with_reducible (replace hb7 := nb_tt hb7) | with_reducible (replace hb7 := nb_bt hb7) | skip
         refine S_on rfl rfl ?_
         refine S_val (Y_field Try.underlying53 rfl fz53_0 (by decide) rfl) ?_
         refine S_on rfl rfl ?_
         refine S_val (Y_loadS Try.underlying32 rfl sz32 rfl (CellsAt.of_blk (pre := []) (us := [_, _]) (post := [_]) B27 rfl)) ?_  -- l18
         refine S_on rfl rfl ?_
         refine S_val (Y_loadS Try.underlying32 rfl sz32 rfl (B5.row (by rfl))) ?_  -- l19
         refine S_on rfl rfl ?_
         refine S_call rfl en27 (laws_sameHeap_c _ _ _ _ _ _ hX hX _ _ _ _ _ hWA hWB hXA hXB (by omega)) ?_  -- k17 laws.sameHeap
         rintro v32 w32 ⟨rfl, g32⟩
         replace hA := hA.grow g32
         replace hDA := hDA.grow g32
         replace hDB := hDB.grow g32
         replace hXA := hXA.grow g32
         replace hXB := hXB.grow g32
         replace hYA := hYA.grow g32
         replace hYB := hYB.grow g32
         replace hZA := hZA.grow g32
         replace hZB := hZB.grow g32
         replace hRc := hRc.grow g32
         replace hWA := hWA.grow g32
         replace hWB := hWB.grow g32
         replace G := G.grow g32
         replace B2 := B2.grow g32
         replace B5 := B5.grow g32
         replace B8 := B8.grow g32
         replace B13 := B13.grow g32
         replace B27 := B27.grow g32
         have zg32 := g32.size
         refine S_val (Y_pickT rfl rfl) ?_
         refine S_val (Y_assign rfl) ?_
         refine S_nl rfl rfl ?_
         refine th_n (hK17 _ _ ?_)
         clear hK17 K17
         refine wp_ret ?_
         refine ret_r1 rfl rfl ?_  -- r5
         first | exact ⟨rfl, G⟩ | exact ⟨vT rfl, G⟩
        · -- g10F
         first | with_reducible (replace hb7 := nb_nf hb7) | with_reducible (replace hb7 := nb_tf hb7) | with_reducible (replace hb7 := nb_bf hb7) | skip
         exact absurd rfl hb7
       · -- g9F
        first | with_reducible (replace hb6 := nb_nf hb6) | with_reducible (replace hb6 := nb_tf hb6) | with_reducible (replace hb6 := nb_bf hb6) | skip
        exact absurd rfl hb6
      · -- g8F
       replace hb5 := nb_tf hb5
       exact absurd rfl hb5

end Go.Proofs.Ytikgflhepclfgac
