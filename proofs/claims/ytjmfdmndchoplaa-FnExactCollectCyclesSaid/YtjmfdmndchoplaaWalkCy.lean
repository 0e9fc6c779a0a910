/-
  Walks: all lost cycles are freed.
  Conditions: those that each theorem states.
-/
import Derived.Test.YtjmfdmndchoplaaTy
import Derived.Test.YtjmfdmndchoplaaWalkSw
import Derived.Test.YtjmfdmndchoplaaCyc
namespace Go.Proofs.Ytjmfdmndchoplaa
open Go Go.RowKit
attribute [local irreducible] wpList wpAnyH Code.wp dOp

set_option maxHeartbeats 400000 in
set_option maxRecDepth 20000 in
theorem impl_counted_c (Pr : Nat → Prop) (A B : Option Addr) (h : LH) (c d : Nat) (w : World) (hA : RC Pr w A h.cells) (hB : R1 Pr w B (ints h.roots)) (hz : hsize h ≤ 1048576) (hl : Leads h.cells h.roots nn) :
    Calls Try.prog 83 #[.agg #[.slice A h.cells.length c, .slice B h.roots.length d]] w (Ret fun v w' => ∃ b, v = .agg #[.slice A h.cells.length c, .slice B h.roots.length d, .slice (some ⟨b, 0, none⟩) h.cells.length h.cells.length] ∧ w.heap.size ≤ b ∧ Blk w' b 3 (ints (cntL h.cells.length (refsAll h fun _ => false))).toArray ∧ Grow w w') := by
 have hz1 := hsize_cells h
 have hz2 := hsize_roots h
 have hne : (70 : TypeId) ≠ 3 := by decide
 refine enter Try.func83 rfl Try.ntmps83 (L := [_,_,_,_,_,_,_]) rfl ?_
 have G := Mod.refl No w
 have hA0 := hA
 have hB0 := hB
 refine wp_seq_k fun K1 hK1 => ?_
 refine Sb 7 rfl ?_  -- 0
 refine S_box (cs := [_, _]) rfl rfl ?_
 intro b1 w1 fb1 g1 B1
 have lb1 := B1.lt
 replace hA := hA.grow g1
 replace hB := hB.grow g1
 replace G := G.grow g1
 have zg1 := g1.size
 refine S_alloc (cs := [_, _, _]) zr61 rfl ?_
 intro b2 w2 fb2 g2 B2
 have lb2 := B2.lt
 replace hA := hA.grow g2
 replace hB := hB.grow g2
 replace G := G.grow g2
 replace B1 := B1.grow g2
 have zg2 := g2.size
 refine S_nl rfl rfl ?_
 refine th_n (hK1 _ _ ?_)
 clear hK1 K1
 refine wp_seq_k fun K2 hK2 => ?_
 refine D_start 5 7 (fun w => Mod (fun i => i = b2) w) follows rfl rfl ?_  -- d1 r1
 intro w3 g3
 replace hA := hA.grow g3
 replace hB := hB.grow g3
 replace G := G.grow g3
 replace B1 := B1.grow g3
 replace B2 := B2.grow g3
 have zg3 := g3.size
 have GS3 := Mod.refl (fun i => i = b2) w3
 refine Dq (i := 0) rfl GS3 (fun _ hs => Y_loadS Try.underlying25 rfl sz25 rfl (by first | exact CellsAt.mod (B1.row (by rfl)) hs (by intro h; first | omega | (dsimp only at h; omega)))) ?_
 refine Dq (i := 1) rfl GS3 (fun _ hs => Y_loadS Try.underlying25 rfl sz25 rfl (by first | exact CellsAt.mod (B1.row (by rfl)) hs (by intro h; first | omega | (dsimp only at h; omega)))) ?_
 refine D_1 (i := 2) (by kernel_rfl) ?_
 refine E_call rfl rfl en97 (impl_refCounts_c _ _ _ h _ _ 0 _ hA hB (by omega) hl (by decide)) ?_  -- k1 impl.refCounts
 rintro v4 w4 ⟨b4, rfl, fb4, B4, g4⟩
 replace hA := hA.grow g4
 replace hB := hB.grow g4
 replace G := G.grow g4
 replace GS3 := GS3.grow g4
 replace B1 := B1.grow g4
 replace B2 := B2.grow g4
 have zg4 := g4.size
 have lb4 := B4.lt
 rw [show (fun i => Nat.testBit 0 i) = (fun _ => false) by funext i; simp] at B4
 have hfb := fb4
 obtain ⟨bC, rfl⟩ : ∃ x, x = b4 := ⟨_, rfl⟩
 have BC := B4
 refine ⟨GS3, ?_⟩
 refine Dq (i := 3) rfl GS3 (fun _ _ => Y_build (cs := [_, _, _]) zr61 pc61 rfl rfl) ?_
 refine D_1 (i := 4) (by kernel_rfl) ?_
 refine E_stM (pre := []) (old := [_, _, _]) (post := []) (vs := [_, _, _]) (i := 4) rfl sz61 rfl rfl rfl (by first | rfl | assumption) B2 rfl rfl ?_
 intro w5 m5 X5
 replace B2 := Blk.eq (ys := [_, _, _]) X5 rfl
 clear X5
 replace G := G.abv m5
 replace GS3 := GS3.trn m5
 replace hA := hA0.grow G
 replace hB := hB0.grow G
 replace B1 := B1.md m5
 replace BC := BC.md m5
 have zm5 := m5.size
 refine ⟨GS3, ?_⟩
 refine D_en (by kernel_rfl) rfl rfl ?_
 refine th_n (hK2 _ _ ?_)
 clear hK2 K2
 refine wp_ret ?_
 refine ret_rc (cs := [_, _, _]) Try.underlying61 rfl sz61 rfl rfl (B2.row (by rfl)) ?_  -- r1
 exact ⟨_, rfl, by omega, BC, G⟩

set_option maxHeartbeats 400000 in
set_option maxRecDepth 20000 in
theorem impl_CollectCycles_c (Pr : Nat → Prop) (A B C : Option Addr) (h : LH) (xs : List Int) (c d e : Nat) (w : World) (hA : RC Pr w A h.cells) (hB : R1 Pr w B (ints h.roots)) (hC : R1 Pr w C (ints xs)) (hz : hsize h ≤ 1048576) (hxz : xs.length ≤ 1048576) :
    Calls Try.prog 40 #[.agg #[.slice A h.cells.length c, .slice B h.roots.length d, .slice C xs.length e]] w (Ret fun v w' => ∃ A1 B1 C1 n1 c1 n2 c2 n3 c3 rs P1 P2, v = .tuple #[.agg #[.slice A1 n1 c1, .slice B1 n2 c2, .slice C1 n3 c3], .int .i64 (cycleV h xs).2] ∧ n1 = (cycleV h xs).1.1.cells.length ∧ n2 = (cycleV h xs).1.1.roots.length ∧ n3 = (cycleV h xs).1.2.length ∧ (∀ i : Nat, P1 i → w.heap.size ≤ i ∧ ¬ P2 i) ∧ (∀ i : Nat, P2 i → w.heap.size ≤ i) ∧ OH P1 w' 70 3 A1 B1 (cycleV h xs).1.1 rs ∧ OI P2 w' 3 C1 (ints (cycleV h xs).1.2) ∧ Grow w w') := by
 have hz1 := hsize_cells h
 have hz2 := hsize_roots h
 have hne : (70 : TypeId) ≠ 3 := by decide
 refine enter Try.func40 rfl Try.ntmps40 (L := [_,_,_,_,_,_,_,_,_,_,_,_,_,_,_,_,_,_,_,_,_,_,_,_,_,_,_,_,_,_,_,_,_,_,_,_]) rfl ?_
 have G := Mod.refl No w
 have hA0 := hA
 have hB0 := hB
 have hC0 := hC
 refine wp_seq_k fun K1 hK1 => ?_
 refine Sb 36 rfl ?_  -- 0
 refine S_box (cs := [_, _, _]) rfl rfl ?_
 intro b1 w1 fb1 g1 B1
 have lb1 := B1.lt
 replace hA := hA.grow g1
 replace hB := hB.grow g1
 replace hC := hC.grow g1
 replace G := G.grow g1
 have zg1 := g1.size
 refine S_alloc (cs := [_, _, _]) zr61 rfl ?_
 intro b2 w2 fb2 g2 B2
 have lb2 := B2.lt
 replace hA := hA.grow g2
 replace hB := hB.grow g2
 replace hC := hC.grow g2
 replace G := G.grow g2
 replace B1 := B1.grow g2
 have zg2 := g2.size
 refine S_val (Y_assign rfl) ?_
 refine S_nl rfl rfl ?_
 refine th_n (hK1 _ _ ?_)
 clear hK1 K1
 refine wp_seq_k fun K2 hK2 => ?_
 refine wp_seq_k fun K3 hK3 => ?_
 refine Sb 36 rfl ?_  -- 1
 refine S_val (Y_loadS Try.underlying61 rfl sz61 rfl (B1.row (by rfl))) ?_  -- l1
 refine S_call rfl en82 (impl_CountedValid_c _ _ _ _ _ _ _ _ _ _ (by assumption) (by assumption) (by assumption) (by omega) (by omega)) ?_  -- k1 impl.CountedValid
 rintro v3 w3 ⟨rfl, g3⟩
 replace hA := hA.grow g3
 replace hB := hB.grow g3
 replace hC := hC.grow g3
 replace G := G.grow g3
 replace B1 := B1.grow g3
 replace B2 := B2.grow g3
 have zg3 := g3.size
 refine S_val (Y_not rfl) ?_
 refine S_nl rfl rfl ?_
 refine th_n (hK3 _ _ ?_)
 clear hK3 K3
 refine S_if rfl (fun hb1 => ?_) (fun hb1 => ?_)  -- c1
 · -- c1T
  first | with_reducible (replace hb1 := nb_nt hb1) | with_reducible (replace hb1 := nb_tt hb1) | with_reducible (replace hb1 := nb_bt hb1) | skip
  refine wp_seq_k fun K4 hK4 => ?_
  refine Sb 36 rfl ?_  -- 2
  refine S_val (Y_build (cs := [_, _, _]) zr61 pc61 rfl rfl) ?_
  refine S_stM (pre := []) (old := [_, _, _]) (post := []) (vs := [_, _, _]) sz61 rfl rfl rfl (by first | rfl | assumption) B2 rfl rfl ?_
  intro w4 m4 X4
  replace B2 := Blk.eq (ys := [_, _, _]) X4 rfl
  clear X4
  replace G := G.abv m4
  replace hA := hA0.grow G
  replace hB := hB0.grow G
  replace hC := hC0.grow G
  replace B1 := B1.md m4
  have zm4 := m4.size
  refine S_val (Y_assign rfl) ?_
  refine S_nl rfl rfl ?_
  refine th_n (hK4 _ _ ?_)
  clear hK4 K4
  refine wp_ret ?_
  refine th_r ?_
  clear hK2 K2
  refine ret_rct (cs := [_, _, _]) Try.underlying61 rfl sz61 rfl rfl rfl (B2.row (by rfl)) ?_  -- r1
  have hsv := cycleV_f hb1
  exact ⟨_, _, _, _, _, _, _, _, _, [], No, No, by rw [hsv], by rw [hsv]; rfl, by rw [hsv]; rfl, by rw [hsv]; rfl, fun i h => h.elim, fun i h => h.elim, by rw [hsv]; exact OH.nil _ _ _ _ _ _, by rw [hsv]; exact OI.nil _ _ _ _, G⟩
 · -- c1F
  first | with_reducible (replace hb1 := nb_nf hb1) | with_reducible (replace hb1 := nb_tf hb1) | with_reducible (replace hb1 := nb_bf hb1) | skip
  have va := valid_iff.1 (cval_valid hb1)
  have h40 := va.le
  have hr4 := va.roots4
  refine wp_skip ?_
  refine th_n (hK2 _ _ ?_)
  clear hK2 K2
  refine wp_seq_k fun K5 hK5 => ?_
  refine Sb 36 rfl ?_  -- 3
  refine S_val (Y_field Try.underlying61 rfl fz61_0 (by decide) rfl) ?_
  refine S_val (Y_loadS Try.underlying25 rfl sz25 rfl (CellsAt.of_blk (pre := []) (us := [_, _]) (post := [_]) B1 rfl)) ?_  -- l2
  refine S_call rfl en69 (impl_copyHeap_c _ _ _ _ _ _ _ (by assumption) (by assumption) (by omega)) ?_  -- k2 impl.copyHeap
  rintro v5 w5 ⟨A5, B5, n15, c15, n25, c25, rs5, rfl, hn15, hn25, O5, g5⟩
  replace hA := hA.grow g5
  replace hB := hB.grow g5
  replace hC := hC.grow g5
  replace G := G.grow g5
  replace B1 := B1.grow g5
  replace B2 := B2.grow g5
  have zg5 := g5.size
  subst hn15
  subst hn25
  obtain ⟨AH, rfl⟩ : ∃ x, x = A5 := ⟨_, rfl⟩
  obtain ⟨BH, rfl⟩ : ∃ x, x = B5 := ⟨_, rfl⟩
  obtain ⟨cH, rfl⟩ : ∃ x, x = c15 := ⟨_, rfl⟩
  obtain ⟨dH, rfl⟩ : ∃ x, x = c25 := ⟨_, rfl⟩
  obtain ⟨rsH, rfl⟩ : ∃ x, x = rs5 := ⟨_, rfl⟩
  have OX := O5.lt
  refine S_alloc (cs := [_, _]) zr25 rfl ?_
  intro b6 w6 fb6 g6 B6
  have lb6 := B6.lt
  replace hA := hA.grow g6
  replace hB := hB.grow g6
  replace hC := hC.grow g6
  replace OX := OX.grow g6
  replace G := G.grow g6
  replace B1 := B1.grow g6
  replace B2 := B2.grow g6
  have zg6 := g6.size
  refine S_stM (pre := []) (old := [_, _]) (post := []) (vs := [_, _]) sz25 rfl rfl rfl (by first | rfl | assumption) B6 rfl rfl ?_
  intro w7 m7 X7
  replace B6 := Blk.eq (ys := [_, _]) X7 rfl
  clear X7
  replace G := G.abv m7
  replace hA := hA0.grow G
  replace hB := hB0.grow G
  replace hC := hC0.grow G
  replace OX := OX.md m7
  replace B1 := B1.md m7
  replace B2 := B2.md m7
  have zm7 := m7.size
  refine S_nl rfl rfl ?_
  refine th_n (hK5 _ _ ?_)
  clear hK5 K5
  refine wp_seq_k fun K6 hK6 => ?_
  refine Sb 36 rfl ?_  -- 4
  refine S_val (Y_assign rfl) ?_
  refine S_nl rfl rfl ?_
  refine th_n (hK6 _ _ ?_)
  clear hK6 K6
  refine wp_seq_k fun K7 hK7 => ?_
  refine wp_seq_k fun K8 hK8 => ?_
  refine Sb 36 rfl ?_  -- 5
  refine S_val (Y_field Try.underlying25 rfl fz25_0 (by decide) rfl) ?_
  refine S_val (Y_load Try.underlying23 rfl rfl (B6.at (by rfl))) ?_  -- l3
  refine S_val (Y_len Try.underlying23 rfl) ?_
  refine S_val (Y_move rfl) ?_
  refine S_nl rfl rfl ?_
  refine th_n (hK8 _ _ ?_)
  clear hK8 K8
  refine wp_block ?_
  have OC1 := OX.split hne
  have OR1 := OX.roots
  replace OC1 : OC (fun i => b2 < i ∧ i < b6 ∧ ¬ (BH = some ⟨i, 0, none⟩ ∧ h.roots ≠ [])) w7 70 3 AH h.cells rsH := OC1.weak (fun i h => by have h1 := h.1; have h2 := h.2; dsimp only at h1; exact ⟨by omega, by omega, h2⟩)
  replace OR1 := OR1.weak (Pr' := fun i => b2 < i ∧ i < b6) (fun i h => by omega)
  go_loopw [5, 17] (fun u5 u17 wr => (∃ (k : Nat) (rs1 : List (Option Addr × Nat)), u17 = .int .i64 k ∧ u5 = .int .i64 ((cycN h k : Nat) : Int) ∧ k ≤ h.cells.length ∧ OC (fun i => b2 < i ∧ i < b6 ∧ ¬ (BH = some ⟨i, 0, none⟩ ∧ h.roots ≠ [])) wr 70 3 AH (cycH h k).cells rs1 ∧ SubC (cycH h k).cells rs1 h.cells rsH ∧ OI (fun i => b2 < i ∧ i < b6) wr 3 BH (ints h.roots)) ∧ Mod (fun i => b2 < i ∧ i < b6) w7 wr) (fun u5 u17 wr => h.cells.length - (intOf u17).toNat)  -- L1
  case atStart =>
   refine ⟨?_, Mod.refl _ _⟩
   exact ⟨0, rsH, rfl, rfl, by omega, OC1, SubC.refl _ _, OR1⟩
  case round =>
   obtain ⟨w8, rfl⟩ : ∃ x : World, x = wr := ⟨_, rfl⟩
   obtain ⟨hrel, g8⟩ := hrel
   clear OC1
   clear OR1
   replace G := G.abv g8
   replace hA := hA0.grow G
   replace hB := hB0.grow G
   replace hC := hC0.grow G
   replace B1 := B1.md g8
   replace B2 := B2.md g8
   replace B6 := B6.md g8
   have zg8 := g8.size
   obtain ⟨k, rs1, rfl, rfl, hk, OC1, hsub, OR1⟩ := hrel
   have vk := cycH_valid va k
   have hlen := cycH_len h k
   have hrt := cycH_roots h k
   have GL8 := g8
   refine wp_seq_k fun K9 hK9 => ?_
   refine Sb 36 rfl ?_  -- 6
   refine S_val (Y_lss rfl rfl) ?_
   refine S_nl rfl rfl ?_
   refine th_n (hK9 _ _ ?_)
   clear hK9 K9
   refine wp_seq_k fun K10 hK10 => ?_
   refine S_if rfl (fun hb2 => ?_) (fun hb2 => ?_)  -- c2
   · -- c2T
    replace hb2 := nb_tt hb2
    have hk1 : k < h.cells.length := by omega
    have hRA := (OC1.weak (Pr' := fun i => b2 < i ∧ i < b6) (fun i h => ⟨h.1, h.2.1⟩)).rc
    have hRB : R1 (fun i => b2 < i ∧ i < b6) w8 BH (ints (cycH h k).roots) := by rw [hrt]; exact OR1.r1
    obtain ⟨g2, o2, E2, d2, rfl, hp2, cc2, _⟩ := hRA.cell (k := k) (by omega)
    have hcn := cycN_small va hk
    have hcn2 := cycN_small va (k := k + 1) hk1
    refine wp_skip ?_
    refine th_n (hK10 _ _ ?_)
    clear hK10 K10
    refine wp_seq_k fun K11 hK11 => ?_
    refine wp_block ?_
    refine wp_seq_k fun K12 hK12 => ?_
    refine Sb 36 rfl ?_  -- 7
    refine S_val (Y_move rfl) ?_
    refine S_val (Y_assign rfl) ?_
    refine S_nl rfl rfl ?_
    refine th_n (hK12 _ _ ?_)
    clear hK12 K12
    refine wp_seq_k fun K13 hK13 => ?_
    refine Sb 36 rfl ?_  -- 8
    refine S_val (Y_field Try.underlying25 rfl fz25_0 (by decide) rfl) ?_
    refine S_val (Y_load Try.underlying23 rfl rfl (B6.at (by rfl))) ?_  -- l4
    refine S_val (Y_move rfl) ?_
    refine S_val (Y_index Try.underlying23 sz70 rfl rfl (by first | assumption | omega)) ?_
    refine S_val (Y_field Try.underlying70 rfl fz70_0 (by decide) rfl) ?_
    refine S_val (Y_load Try.underlying4 rfl rfl (by first | assumption | exact cc2.at (by rfl) | exact B1.at (by rfl) | exact B2.at (by rfl) | exact B6.at (by rfl))) ?_  -- l5
    refine S_nl rfl rfl ?_
    refine th_n (hK13 _ _ ?_)
    clear hK13 K13
    refine S_if rfl (fun hb3 => ?_) (fun hb3 => ?_)  -- c3
    · -- c3T
     first | with_reducible (replace hb3 := nb_nt hb3) | with_reducible (replace hb3 := nb_tt hb3) | with_reducible (replace hb3 := nb_bt hb3) | skip
     have hu : usedAt (cycH h k).cells k = true := by rw [usedAt_at (by omega)]; exact hb3
     refine Sb 36 rfl ?_  -- 9
     refine S_val (Y_move rfl) ?_
     refine S_val (Y_loadS Try.underlying25 rfl sz25 rfl (B6.row (by rfl))) ?_  -- l6
     refine S_val (Y_move rfl) ?_
     refine S_call rfl en76 ((by have h0 := impl_deadCycle_c _ _ _ (cycH h k) k cH dH _ hRA hRB (by have := vk.small; omega) vk (by omega) hu; rw [hlen, hrt] at h0; exact h0)) ?_  -- k3 impl.deadCycle
     rintro v9 w9 ⟨m9, rfl, hs9, hr9, g9⟩
     replace hA := hA.grow g9
     replace hB := hB.grow g9
     replace hC := hC.grow g9
     replace OC1 := OC1.grow g9
     replace OR1 := OR1.grow g9
     replace G := G.grow g9
     replace GL8 := GL8.grow g9
     replace B1 := B1.grow g9
     replace B2 := B2.grow g9
     replace B6 := B6.grow g9
     replace cc2 := cc2.grow g9
     have zg9 := g9.size
     obtain ⟨m0, rfl⟩ : ∃ x, x = m9 := ⟨_, rfl⟩
     have hD0 := hs9
     have hD9 := hr9
     refine S_call rfl en70 (impl_freeCells_c _ b6 _ _ (cycH h k).cells rs1 cH m0 _ (by rw [hlen]; exact B6) OC1 hD0 (by omega) (fun hh => absurd hh.2.1 (by omega))) ?_  -- k4 impl.freeCells
     rintro v10 w10 ⟨rs9, hv10, OC9, sub9, mq10⟩
     rw [dead_all vk (by omega) hu hD9] at hv10 OC9 sub9
     rw [hlen] at hv10
     subst hv10
     have OR9 := OR1.keep mq10 (fun b e1 e2 e3 => e3.2.2 ⟨e1, ints_ne.1 e2⟩)
     have m10 := mq10.weak (T := fun i => b2 < i ∧ i < b6) (fun i h _ => ⟨h.1, h.2.1⟩)
     replace G := G.abv m10
     replace GL8 := GL8.trn m10
     replace hA := hA0.grow G
     replace hB := hB0.grow G
     replace hC := hC0.grow G
     replace B1 := B1.md m10
     replace B2 := B2.md m10
     replace B6 := B6.md m10
     clear cc2
     have zm10 := m10.size
     refine S_val (Y_add (c := ((cycN h (k + 1) : Nat) : Int)) rfl rfl (by rw [cycN_t hu]; omega) (by omega) (by omega)) ?_
     refine S_val (Y_assign rfl) ?_
     refine S_nl rfl rfl ?_
     refine ib_n ?_
     refine th_n (hK11 _ _ ?_)
     clear hK11 K11
     refine Sb 36 rfl ?_  -- 10
     refine S_val (Y_inc rfl rfl (by omega)) ?_
     refine S_val (Y_move rfl) ?_
     refine S_nl rfl rfl ?_
     refine th_n ?_
     go_roundw  -- e1 of L1
     case rel =>
      refine ⟨?_, GL8⟩
      first | exact ⟨k + 1, rs9, rfl, rfl, by omega, OC9.cast (by rw [cycH_t hu]; rfl), (sub9.trans hsub).cast (by rw [cycH_t hu]; rfl), OR9⟩ | exact ⟨k + 1, rs1, rfl, by rw [cycN_f hu], by omega, OC1.cast (by rw [cycH_f hu]), hsub.cast (by rw [cycH_f hu]), OR1⟩
     case measure =>
      exact dec_nat (by omega)
    · -- c3F
     first | with_reducible (replace hb3 := nb_nf hb3) | with_reducible (replace hb3 := nb_tf hb3) | with_reducible (replace hb3 := nb_bf hb3) | skip
     have hu : usedAt (cycH h k).cells k = false := by rw [usedAt_at (by omega)]; exact hb3
     refine wp_skip ?_
     refine ib_n ?_
     refine th_n (hK11 _ _ ?_)
     clear hK11 K11
     refine Sb 36 rfl ?_  -- 10
     refine S_val (Y_inc rfl rfl (by omega)) ?_
     refine S_val (Y_move rfl) ?_
     refine S_nl rfl rfl ?_
     refine th_n ?_
     go_roundw  -- e2 of L1
     case rel =>
      refine ⟨?_, GL8⟩
      first | exact ⟨k + 1, rs9, rfl, rfl, by omega, OC9.cast (by rw [cycH_t hu]; rfl), (sub9.trans hsub).cast (by rw [cycH_t hu]; rfl), OR9⟩ | exact ⟨k + 1, rs1, rfl, by rw [cycN_f hu], by omega, OC1.cast (by rw [cycH_f hu]), hsub.cast (by rw [cycH_f hu]), OR1⟩
     case measure =>
      exact dec_nat (by omega)
   · -- c2F
    replace hb2 := nb_tf hb2
    have hkN : k = h.cells.length := by omega
    have hRA := (OC1.weak (Pr' := fun i => b2 < i ∧ i < b6) (fun i h => ⟨h.1, h.2.1⟩)).rc
    have hRB : R1 (fun i => b2 < i ∧ i < b6) w8 BH (ints (cycH h k).roots) := by rw [hrt]; exact OR1.r1
    replace OC1 := OC1.weak (Pr' := fun i => b2 < i ∧ i < b6) (fun i h => ⟨h.1, h.2.1⟩)
    refine wp_exit ?_
    refine th_x ?_
    try clear GL8
    refine th_x ?_
    refine ib_e ?_
    refine th_n (hK7 _ _ ?_)
    clear hK10 K10 hK7 K7
    refine wp_seq_k fun K14 hK14 => ?_
    refine Sb 36 rfl ?_  -- 11
    refine S_val (Y_loadS Try.underlying25 rfl sz25 rfl (B6.row (by rfl))) ?_  -- l7
    refine S_call rfl en83 ((by have h0 := impl_counted_c _ _ _ (cycH h k) cH dH _ hRA hRB (by have := vk.small; omega) vk.leads; rw [hlen, hrt] at h0; exact h0)) ?_  -- k5 impl.counted
    rintro v11 w11 ⟨b11, rfl, fb11, B11, g11⟩
    replace hA := hA.grow g11
    replace hB := hB.grow g11
    replace hC := hC.grow g11
    replace OC1 := OC1.grow g11
    replace OR1 := OR1.grow g11
    replace G := G.grow g11
    replace B1 := B1.grow g11
    replace B2 := B2.grow g11
    replace B6 := B6.grow g11
    have zg11 := g11.size
    have lb11 := B11.lt
    have hfC := fb11
    obtain ⟨bC, rfl⟩ : ∃ x, x = b11 := ⟨_, rfl⟩
    have BC := B11
    refine S_val (Y_move rfl) ?_
    refine S_stM (pre := []) (old := [_, _, _]) (post := []) (vs := [_, _, _]) sz61 rfl rfl rfl (by first | rfl | assumption) B2 rfl rfl ?_
    intro w12 m12 X12
    replace B2 := Blk.eq (ys := [_, _, _]) X12 rfl
    clear X12
    replace G := G.abv m12
    replace hA := hA0.grow G
    replace hB := hB0.grow G
    replace hC := hC0.grow G
    replace OC1 := OC1.md m12
    replace OR1 := OR1.md m12
    replace B1 := B1.md m12
    replace B6 := B6.md m12
    replace BC := BC.md m12
    have zm12 := m12.size
    refine S_val (Y_assign rfl) ?_
    refine S_nl rfl rfl ?_
    refine th_n (hK14 _ _ ?_)
    clear hK14 K14
    refine wp_ret ?_
    refine ret_rct (cs := [_, _, _]) Try.underlying61 rfl sz61 rfl rfl rfl (B2.row (by rfl)) ?_  -- r2
    have hsv := cycleV_t hb1
    subst hkN
    refine ⟨_, _, _, _, _, _, _, _, _, rs1, fun i => b2 < i ∧ i < b6, fun i => i = bC, by rw [hsv], by rw [hsv]; exact hlen.symm, by rw [hsv]; exact congrArg List.length hrt.symm, by rw [hsv]; exact (cntL_len _ _).symm, fun i hi => ⟨by omega, by omega⟩, fun i hi => by omega, ?_, by rw [hsv]; exact OI.of_blk' BC rfl, G⟩
    rw [hsv]
    have OF := OH.freed (S := fun i => b2 < i ∧ i < b6) OX OC1 hsub OR1 (fun _ h => h) (fun _ h => h)
    rw [← hrt] at OF
    exact OF

set_option maxHeartbeats 400000 in
set_option maxRecDepth 20000 in
theorem spec_CollectCycles_c (Pr : Nat → Prop) (A B C : Option Addr) (h : LH) (xs : List Int) (c d e : Nat) (w : World) (hA : RC Pr w A h.cells) (hB : R1 Pr w B (ints h.roots)) (hC : R1 Pr w C (ints xs)) (hz : hsize h ≤ 1048576) (hxz : xs.length ≤ 1048576) :
    Calls Try.prog 38 #[.agg #[.slice A h.cells.length c, .slice B h.roots.length d, .slice C xs.length e]] w (Ret fun v w' => ∃ A1 B1 C1 n1 c1 n2 c2 n3 c3 rs P1 P2, v = .tuple #[.agg #[.slice A1 n1 c1, .slice B1 n2 c2, .slice C1 n3 c3], .int .i64 (cycleV h xs).2] ∧ n1 = (cycleV h xs).1.1.cells.length ∧ n2 = (cycleV h xs).1.1.roots.length ∧ n3 = (cycleV h xs).1.2.length ∧ (∀ i : Nat, P1 i → w.heap.size ≤ i ∧ ¬ P2 i) ∧ (∀ i : Nat, P2 i → w.heap.size ≤ i) ∧ OH P1 w' 70 3 A1 B1 (cycleV h xs).1.1 rs ∧ OI P2 w' 3 C1 (ints (cycleV h xs).1.2) ∧ Grow w w') := by
 have hz1 := hsize_cells h
 have hz2 := hsize_roots h
 have hne : (70 : TypeId) ≠ 3 := by decide
 refine enter Try.func38 rfl Try.ntmps38 (L := [_,_,_,_,_,_,_,_,_,_,_,_,_,_,_,_,_,_,_,_,_,_,_,_,_,_,_,_,_,_,_,_,_,_,_,_,_,_,_,_,_,_,_,_,_,_,_,_,_,_,_,_,_]) rfl ?_
 have G := Mod.refl No w
 have hA0 := hA
 have hB0 := hB
 have hC0 := hC
 refine wp_seq_k fun K1 hK1 => ?_
 refine Sb 53 rfl ?_  -- 0
 refine S_box (cs := [_, _, _]) rfl rfl ?_
 intro b1 w1 fb1 g1 B1
 have lb1 := B1.lt
 replace hA := hA.grow g1
 replace hB := hB.grow g1
 replace hC := hC.grow g1
 replace G := G.grow g1
 have zg1 := g1.size
 refine S_alloc (cs := [_, _, _]) zr61 rfl ?_
 intro b2 w2 fb2 g2 B2
 have lb2 := B2.lt
 replace hA := hA.grow g2
 replace hB := hB.grow g2
 replace hC := hC.grow g2
 replace G := G.grow g2
 replace B1 := B1.grow g2
 have zg2 := g2.size
 refine S_val (Y_assign rfl) ?_
 refine S_nl rfl rfl ?_
 refine th_n (hK1 _ _ ?_)
 clear hK1 K1
 refine wp_seq_k fun K2 hK2 => ?_
 refine wp_seq_k fun K3 hK3 => ?_
 refine Sb 53 rfl ?_  -- 1
 refine S_val (Y_loadS Try.underlying61 rfl sz61 rfl (B1.row (by rfl))) ?_  -- l1
 refine S_call rfl en80 (spec_CountedValid_c _ _ _ _ _ _ _ _ _ _ (by assumption) (by assumption) (by assumption) (by omega) (by omega)) ?_  -- k1 spec.CountedValid
 rintro v3 w3 ⟨rfl, g3⟩
 replace hA := hA.grow g3
 replace hB := hB.grow g3
 replace hC := hC.grow g3
 replace G := G.grow g3
 replace B1 := B1.grow g3
 replace B2 := B2.grow g3
 have zg3 := g3.size
 refine S_val (Y_not rfl) ?_
 refine S_nl rfl rfl ?_
 refine th_n (hK3 _ _ ?_)
 clear hK3 K3
 refine S_if rfl (fun hb1 => ?_) (fun hb1 => ?_)  -- c1
 · -- c1T
  first | with_reducible (replace hb1 := nb_nt hb1) | with_reducible (replace hb1 := nb_tt hb1) | with_reducible (replace hb1 := nb_bt hb1) | skip
  refine wp_seq_k fun K4 hK4 => ?_
  refine Sb 53 rfl ?_  -- 2
  refine S_val (Y_build (cs := [_, _, _]) zr61 pc61 rfl rfl) ?_
  refine S_stM (pre := []) (old := [_, _, _]) (post := []) (vs := [_, _, _]) sz61 rfl rfl rfl (by first | rfl | assumption) B2 rfl rfl ?_
  intro w4 m4 X4
  replace B2 := Blk.eq (ys := [_, _, _]) X4 rfl
  clear X4
  replace G := G.abv m4
  replace hA := hA0.grow G
  replace hB := hB0.grow G
  replace hC := hC0.grow G
  replace B1 := B1.md m4
  have zm4 := m4.size
  refine S_val (Y_assign rfl) ?_
  refine S_nl rfl rfl ?_
  refine th_n (hK4 _ _ ?_)
  clear hK4 K4
  refine wp_ret ?_
  refine th_r ?_
  clear hK2 K2
  refine ret_rct (cs := [_, _, _]) Try.underlying61 rfl sz61 rfl rfl rfl (B2.row (by rfl)) ?_  -- r1
  have hsv := cycleV_f hb1
  exact ⟨_, _, _, _, _, _, _, _, _, [], No, No, by rw [hsv], by rw [hsv]; rfl, by rw [hsv]; rfl, by rw [hsv]; rfl, fun i h => h.elim, fun i h => h.elim, by rw [hsv]; exact OH.nil _ _ _ _ _ _, by rw [hsv]; exact OI.nil _ _ _ _, G⟩
 · -- c1F
  first | with_reducible (replace hb1 := nb_nf hb1) | with_reducible (replace hb1 := nb_tf hb1) | with_reducible (replace hb1 := nb_bf hb1) | skip
  have va := valid_iff.1 (cval_valid hb1)
  have h40 := va.le
  have hr4 := va.roots4
  refine wp_skip ?_
  refine th_n (hK2 _ _ ?_)
  clear hK2 K2
  refine wp_seq_k fun K5 hK5 => ?_
  refine Sb 53 rfl ?_  -- 3
  refine S_val (Y_field Try.underlying61 rfl fz61_0 (by decide) rfl) ?_
  refine S_val (Y_loadS Try.underlying25 rfl sz25 rfl (CellsAt.of_blk (pre := []) (us := [_, _]) (post := [_]) B1 rfl)) ?_  -- l2
  refine S_call rfl en77 (spec_l7Copy_c _ _ _ _ _ _ _ (by assumption) (by assumption) (by omega)) ?_  -- k2 spec.l7Copy
  rintro v5 w5 ⟨A5, B5, n15, c15, n25, c25, rs5, rfl, hn15, hn25, O5, g5⟩
  replace hA := hA.grow g5
  replace hB := hB.grow g5
  replace hC := hC.grow g5
  replace G := G.grow g5
  replace B1 := B1.grow g5
  replace B2 := B2.grow g5
  have zg5 := g5.size
  subst hn15
  subst hn25
  obtain ⟨AH, rfl⟩ : ∃ x, x = A5 := ⟨_, rfl⟩
  obtain ⟨BH, rfl⟩ : ∃ x, x = B5 := ⟨_, rfl⟩
  obtain ⟨cH, rfl⟩ : ∃ x, x = c15 := ⟨_, rfl⟩
  obtain ⟨dH, rfl⟩ : ∃ x, x = c25 := ⟨_, rfl⟩
  obtain ⟨rsH, rfl⟩ : ∃ x, x = rs5 := ⟨_, rfl⟩
  have OX := O5.lt
  refine S_alloc (cs := [_, _]) zr25 rfl ?_
  intro b6 w6 fb6 g6 B6
  have lb6 := B6.lt
  replace hA := hA.grow g6
  replace hB := hB.grow g6
  replace hC := hC.grow g6
  replace OX := OX.grow g6
  replace G := G.grow g6
  replace B1 := B1.grow g6
  replace B2 := B2.grow g6
  have zg6 := g6.size
  refine S_stM (pre := []) (old := [_, _]) (post := []) (vs := [_, _]) sz25 rfl rfl rfl (by first | rfl | assumption) B6 rfl rfl ?_
  intro w7 m7 X7
  replace B6 := Blk.eq (ys := [_, _]) X7 rfl
  clear X7
  replace G := G.abv m7
  replace hA := hA0.grow G
  replace hB := hB0.grow G
  replace hC := hC0.grow G
  replace OX := OX.md m7
  replace B1 := B1.md m7
  replace B2 := B2.md m7
  have zm7 := m7.size
  refine S_nl rfl rfl ?_
  refine th_n (hK5 _ _ ?_)
  clear hK5 K5
  refine wp_seq_k fun K6 hK6 => ?_
  refine Sb 53 rfl ?_  -- 4
  refine S_val (Y_assign rfl) ?_
  refine S_nl rfl rfl ?_
  refine th_n (hK6 _ _ ?_)
  clear hK6 K6
  refine wp_seq_k fun K7 hK7 => ?_
  refine wp_seq_k fun K8 hK8 => ?_
  refine Sb 53 rfl ?_  -- 5
  refine S_val (Y_assign rfl) ?_
  refine S_nl rfl rfl ?_
  refine th_n (hK8 _ _ ?_)
  clear hK8 K8
  refine wp_block ?_
  replace OX := OX.weak (Pr' := fun i => b2 < i ∧ i ≠ b6) (fun i h => by omega)
  go_loopw [5, 6] (fun u5 u6 wr => (∃ (k c1 d1 : Nat) (A1 B1 : Option Addr) (rs1 : List (Option Addr × Nat)), u6 = .int .i64 k ∧ u5 = .int .i64 ((cycN h k : Nat) : Int) ∧ k ≤ h.cells.length ∧ Blk wr b6 25 [.slice A1 (cycH h k).cells.length c1, .slice B1 (cycH h k).roots.length d1].toArray ∧ OH (fun i => b2 < i ∧ i ≠ b6) wr 70 3 A1 B1 (cycH h k) rs1) ∧ Mod (fun i => i = b6) w7 wr) (fun u5 u6 wr => h.cells.length - (intOf u6).toNat)  -- L1
  case atStart =>
   refine ⟨?_, Mod.refl _ _⟩
   exact ⟨0, _, _, _, _, rsH, rfl, rfl, by omega, B6, OX⟩
  case round =>
   obtain ⟨w8, rfl⟩ : ∃ x : World, x = wr := ⟨_, rfl⟩
   obtain ⟨hrel, g8⟩ := hrel
   clear B6
   clear OX
   replace G := G.abv g8
   replace hA := hA0.grow G
   replace hB := hB0.grow G
   replace hC := hC0.grow G
   replace B1 := B1.md g8
   replace B2 := B2.md g8
   have zg8 := g8.size
   obtain ⟨k, cK, dK, AK, BK, rs1, rfl, rfl, hk, B6, OX⟩ := hrel
   have vk := cycH_valid va k
   have hlen := cycH_len h k
   have hrt := cycH_roots h k
   have hRA := OX.rc
   have hRB := OX.r1
   have GL8 := g8
   refine wp_seq_k fun K9 hK9 => ?_
   refine wp_seq_k fun K10 hK10 => ?_
   refine Sb 53 rfl ?_  -- 6
   refine S_val (Y_move rfl) ?_
   refine S_val (Y_field Try.underlying25 rfl fz25_0 (by decide) rfl) ?_
   refine S_val (Y_load Try.underlying23 rfl rfl (B6.at (by rfl))) ?_  -- l3
   refine S_val (Y_len Try.underlying23 rfl) ?_
   refine S_val (Y_lss rfl rfl) ?_
   refine S_nl rfl rfl ?_
   refine th_n (hK10 _ _ ?_)
   clear hK10 K10
   refine S_if rfl (fun hb2 => ?_) (fun hb2 => ?_)  -- c2
   · -- c2T
    replace hb2 := nb_tt hb2
    have hk1 : k < h.cells.length := by omega
    have hk2 : k < (cycH h k).cells.length := by omega
    obtain ⟨g2, o2, E2, d2, rfl, hp2, cc2, _⟩ := hRA.cell hk2
    have hcn := cycN_small va hk
    have hcn2 := cycN_small va (k := k + 1) hk1
    refine wp_skip ?_
    refine th_n (hK9 _ _ ?_)
    clear hK9 K9
    refine wp_seq_k fun K11 hK11 => ?_
    refine wp_block ?_
    refine wp_seq_k fun K12 hK12 => ?_
    refine wp_seq_k fun K13 hK13 => ?_
    refine Sb 53 rfl ?_  -- 8
    refine S_val (Y_field Try.underlying25 rfl fz25_0 (by decide) rfl) ?_
    refine S_val (Y_load Try.underlying23 rfl rfl (B6.at (by rfl))) ?_  -- l4
    refine S_val (Y_move rfl) ?_
    refine S_val (Y_index Try.underlying23 sz70 rfl rfl (by first | assumption | omega)) ?_
    refine S_val (Y_field Try.underlying70 rfl fz70_0 (by decide) rfl) ?_
    refine S_val (Y_load Try.underlying4 rfl rfl (by first | assumption | exact cc2.at (by rfl) | exact B1.at (by rfl) | exact B2.at (by rfl) | exact B6.at (by rfl))) ?_  -- l5
    refine S_val (Y_not rfl) ?_
    refine S_nl rfl rfl ?_
    refine th_n (hK13 _ _ ?_)
    clear hK13 K13
    refine S_if rfl (fun hb3 => ?_) (fun hb3 => ?_)  -- c3
    · -- c3T
     first | with_reducible (replace hb3 := nb_nt hb3) | with_reducible (replace hb3 := nb_tt hb3) | with_reducible (replace hb3 := nb_bt hb3) | skip
     have hu : usedAt (cycH h k).cells k = false := by rw [usedAt_at hk2]; exact hb3
     refine wp_exit ?_
     refine th_x ?_
     refine ib_e ?_
     refine th_n (hK11 _ _ ?_)
     clear hK12 K12 hK11 K11
     refine Sb 53 rfl ?_  -- 7
     refine S_val (Y_move rfl) ?_
     refine S_val (Y_inc rfl rfl (by omega)) ?_
     refine S_val (Y_assign rfl) ?_
     refine S_nl rfl rfl ?_
     refine th_n ?_
     go_roundw  -- e1 of L1
     case rel =>
      refine ⟨?_, GL8⟩
      first | exact ⟨k + 1, _, _, _, _, _, rfl, by rw [cycN_t hu, hjN], by omega, by rw [cycH_t hu]; exact B6, by rw [cycH_t hu]; exact OY⟩ | exact ⟨k + 1, _, _, _, _, _, rfl, by rw [cycN_f hu], by omega, by rw [cycH_f hu]; exact B6, by rw [cycH_f hu]; exact OX⟩
     case measure =>
      exact dec_nat (by omega)
    · -- c3F
     first | with_reducible (replace hb3 := nb_nf hb3) | with_reducible (replace hb3 := nb_tf hb3) | with_reducible (replace hb3 := nb_bf hb3) | skip
     have hu : usedAt (cycH h k).cells k = true := by rw [usedAt_at hk2]; exact hb3
     refine wp_skip ?_
     refine th_n (hK12 _ _ ?_)
     clear hK12 K12
     refine wp_seq_k fun K14 hK14 => ?_
     refine Sb 53 rfl ?_  -- 9
     refine S_val (Y_loadS Try.underlying25 rfl sz25 rfl (B6.row (by rfl))) ?_  -- l6
     refine S_val (Y_move rfl) ?_
     refine S_call rfl en28 (spec_DeadCycle_c _ _ _ (cycH h k) _ _ (k : Int) _ hRA hRB (by have := vk.small; omega) ⟨by omega, by omega⟩) ?_  -- k3 spec.DeadCycle
     rintro v9 w9 ⟨A9, q9, cap9, rfl, hq9, O9, g9⟩
     replace hA := hA.grow g9
     replace hB := hB.grow g9
     replace hC := hC.grow g9
     replace OX := OX.grow g9
     replace hRA := hRA.grow g9
     replace hRB := hRB.grow g9
     replace G := G.grow g9
     replace GL8 := GL8.grow g9
     replace B1 := B1.grow g9
     replace B2 := B2.grow g9
     replace B6 := B6.grow g9
     replace cc2 := cc2.grow g9
     have zg9 := g9.size
     have hut : usedR (cycH h k) (k : Int) = true := by rw [usedR_at (valid_iff.2 vk) hk2, ← usedAt_at hk2]; exact hu
     rw [deadV_t hut] at hq9 O9
     subst hq9
     have OD := O9.lt
     have hD := OD.r1
     have hdl := deadL_len (cycH h k) k
     refine S_val (Y_assign rfl) ?_
     refine S_nl rfl rfl ?_
     refine th_n (hK14 _ _ ?_)
     clear hK14 K14
     refine wp_seq_k fun K15 hK15 => ?_
     refine wp_seq_k fun K16 hK16 => ?_
     refine Sb 53 rfl ?_  -- 10
     refine S_val (Y_assign rfl) ?_
     refine S_nl rfl rfl ?_
     refine th_n (hK16 _ _ ?_)
     clear hK16 K16
     refine wp_block ?_
     go_loopw [5, 8] (fun u5 u8 wr => (∃ j : Nat, u8 = .int .i64 j ∧ u5 = .int .i64 ((cycN h k + cntP (deadP (cycH h k) k) j : Nat) : Int) ∧ j ≤ (deadL (cycH h k) k).length) ∧ Mod No w9 wr) (fun u5 u8 wr => (deadL (cycH h k) k).length - (intOf u8).toNat)  -- L2
     case atStart =>
      refine ⟨?_, Mod.refl _ _⟩
      exact ⟨0, rfl, rfl, by omega⟩
     case round =>
      obtain ⟨w10, rfl⟩ : ∃ x : World, x = wr := ⟨_, rfl⟩
      obtain ⟨hrel, g10⟩ := hrel
      replace hA := hA.grow g10
      replace hB := hB.grow g10
      replace hC := hC.grow g10
      replace OX := OX.grow g10
      replace hRA := hRA.grow g10
      replace hRB := hRB.grow g10
      replace hD := hD.grow g10
      replace G := G.grow g10
      replace GL8 := GL8.grow g10
      replace B1 := B1.grow g10
      replace B2 := B2.grow g10
      replace B6 := B6.grow g10
      replace cc2 := cc2.grow g10
      have zg10 := g10.size
      obtain ⟨j, rfl, rfl, hj⟩ := hrel
      have hcp := cntP_le (deadP (cycH h k) k) j
      have GL10 := g10
      refine wp_seq_k fun K17 hK17 => ?_
      refine wp_seq_k fun K18 hK18 => ?_
      refine Sb 53 rfl ?_  -- 11
      refine S_val (Y_move rfl) ?_
      refine S_val (Y_move rfl) ?_
      refine S_val (Y_len Try.underlying38 rfl) ?_
      refine S_val (Y_lss rfl rfl) ?_
      refine S_nl rfl rfl ?_
      refine th_n (hK18 _ _ ?_)
      clear hK18 K18
      refine S_if rfl (fun hb4 => ?_) (fun hb4 => ?_)  -- c4
      · -- c4T
       replace hb4 := nb_tt hb4
       have hj1 : j < (deadL (cycH h k) k).length := by omega
       obtain ⟨g3, o3, e3, hp3, hc3⟩ := hD.bool hj1
       subst e3
       rw [deadL_at hj1] at hc3
       refine wp_skip ?_
       refine th_n (hK17 _ _ ?_)
       clear hK17 K17
       refine wp_seq_k fun K19 hK19 => ?_
       refine wp_block ?_
       refine wp_seq_k fun K20 hK20 => ?_
       refine Sb 53 rfl ?_  -- 13
       refine S_val (Y_move rfl) ?_
       refine S_val (Y_move rfl) ?_
       refine S_val (Y_index Try.underlying38 sz4 rfl rfl (by first | assumption | omega)) ?_
       refine S_val (Y_load Try.underlying4 rfl rfl (by first | assumption | exact cc2.at (by rfl) | exact B1.at (by rfl) | exact B2.at (by rfl) | exact B6.at (by rfl))) ?_  -- l7
       refine S_nl rfl rfl ?_
       refine th_n (hK20 _ _ ?_)
       clear hK20 K20
       refine S_if rfl (fun hb5 => ?_) (fun hb5 => ?_)  -- c5
       · -- c5T
        first | with_reducible (replace hb5 := nb_nt hb5) | with_reducible (replace hb5 := nb_tt hb5) | with_reducible (replace hb5 := nb_bt hb5) | skip
        refine Sb 53 rfl ?_  -- 14
        refine S_val (Y_move rfl) ?_
        refine S_val (Y_inc rfl rfl (by omega)) ?_
        refine S_val (Y_assign rfl) ?_
        refine S_nl rfl rfl ?_
        refine ib_n ?_
        refine th_n (hK19 _ _ ?_)
        clear hK19 K19
        refine Sb 53 rfl ?_  -- 12
        refine S_val (Y_move rfl) ?_
        refine S_val (Y_inc rfl rfl (by omega)) ?_
        refine S_val (Y_assign rfl) ?_
        refine S_nl rfl rfl ?_
        refine th_n ?_
        go_roundw  -- e2 of L2
        case rel =>
         refine ⟨?_, GL10⟩
         first | exact ⟨j + 1, rfl, by rw [cntP_yes (by assumption)]; rfl, by omega⟩ | exact ⟨j + 1, rfl, by rw [cntP_no (by assumption)], by omega⟩
        case measure =>
         exact dec_nat (by omega)
       · -- c5F
        first | with_reducible (replace hb5 := nb_nf hb5) | with_reducible (replace hb5 := nb_tf hb5) | with_reducible (replace hb5 := nb_bf hb5) | skip
        refine wp_skip ?_
        refine ib_n ?_
        refine th_n (hK19 _ _ ?_)
        clear hK19 K19
        refine Sb 53 rfl ?_  -- 12
        refine S_val (Y_move rfl) ?_
        refine S_val (Y_inc rfl rfl (by omega)) ?_
        refine S_val (Y_assign rfl) ?_
        refine S_nl rfl rfl ?_
        refine th_n ?_
        go_roundw  -- e3 of L2
        case rel =>
         refine ⟨?_, GL10⟩
         first | exact ⟨j + 1, rfl, by rw [cntP_yes (by assumption)]; rfl, by omega⟩ | exact ⟨j + 1, rfl, by rw [cntP_no (by assumption)], by omega⟩
        case measure =>
         exact dec_nat (by omega)
      · -- c4F
       replace hb4 := nb_tf hb4
       have hjN : j = h.cells.length := by omega
       refine wp_exit ?_
       refine th_x ?_
       try clear GL10
       refine th_x ?_
       refine ib_e ?_
       refine th_n (hK15 _ _ ?_)
       clear hK17 K17 hK15 K15
       refine Sb 53 rfl ?_  -- 15
       refine S_val (Y_loadS Try.underlying25 rfl sz25 rfl (B6.row (by rfl))) ?_  -- l8
       refine S_val (Y_move rfl) ?_
       refine S_call rfl en66 (spec_l11Drop_c _ _ _ _ _ (cycH h k) (deadL (cycH h k) k) _ _ _ _ hRA hRB hD (by have := vk.small; omega) (by omega)) ?_  -- k4 spec.l11Drop
       rintro v11 w11 ⟨A11, B11, n111, c111, n211, c211, rs11, rfl, hn111, hn211, O11, g11⟩
       replace hA := hA.grow g11
       replace hB := hB.grow g11
       replace hC := hC.grow g11
       replace OX := OX.grow g11
       replace hRA := hRA.grow g11
       replace hRB := hRB.grow g11
       replace hD := hD.grow g11
       replace G := G.grow g11
       replace GL8 := GL8.grow g11
       replace B1 := B1.grow g11
       replace B2 := B2.grow g11
       replace B6 := B6.grow g11
       replace cc2 := cc2.grow g11
       have zg11 := g11.size
       rw [deadL_drop] at hn111 hn211 O11
       subst hn111
       subst hn211
       have OY := O11.weak (Pr' := fun i => b2 < i ∧ i ≠ b6) (fun i h => by omega)
       refine S_stM (pre := []) (old := [_, _]) (post := []) (vs := [_, _]) sz25 rfl rfl rfl (by first | rfl | assumption) B6 rfl rfl ?_
       intro w12 m12 X12
       replace B6 := Blk.eq (ys := [_, _]) X12 rfl
       clear X12
       replace G := G.abv m12
       replace GL8 := GL8.trn m12
       replace hA := hA0.grow G
       replace hB := hB0.grow G
       replace hC := hC0.grow G
       replace OY := OY.md m12
       replace B1 := B1.md m12
       replace B2 := B2.md m12
       clear cc2
       have zm12 := m12.size
       refine S_nl rfl rfl ?_
       refine ib_n ?_
       refine th_n (hK11 _ _ ?_)
       clear hK11 K11
       refine Sb 53 rfl ?_  -- 7
       refine S_val (Y_move rfl) ?_
       refine S_val (Y_inc rfl rfl (by omega)) ?_
       refine S_val (Y_assign rfl) ?_
       refine S_nl rfl rfl ?_
       refine th_n ?_
       go_roundw  -- e4 of L1
       case rel =>
        refine ⟨?_, GL8⟩
        first | exact ⟨k + 1, _, _, _, _, _, rfl, by rw [cycN_t hu, hjN], by omega, by rw [cycH_t hu]; exact B6, by rw [cycH_t hu]; exact OY⟩ | exact ⟨k + 1, _, _, _, _, _, rfl, by rw [cycN_f hu], by omega, by rw [cycH_f hu]; exact B6, by rw [cycH_f hu]; exact OX⟩
       case measure =>
        exact dec_nat (by omega)
   · -- c2F
    replace hb2 := nb_tf hb2
    have hkN : k = h.cells.length := by omega
    replace OX := OX.lt
    refine wp_exit ?_
    refine th_x ?_
    try clear GL8
    refine th_x ?_
    refine ib_e ?_
    refine th_n (hK7 _ _ ?_)
    clear hK9 K9 hK7 K7
    refine wp_seq_k fun K21 hK21 => ?_
    refine D_start 7 53 (fun w => Mod (fun i => i = b2) w) follows rfl rfl ?_  -- d1 r16
    intro w13 g13
    replace hA := hA.grow g13
    replace hB := hB.grow g13
    replace hC := hC.grow g13
    replace OX := OX.grow g13
    replace hRA := hRA.grow g13
    replace hRB := hRB.grow g13
    replace G := G.grow g13
    replace B1 := B1.grow g13
    replace B2 := B2.grow g13
    replace B6 := B6.grow g13
    have zg13 := g13.size
    have GS13 := Mod.refl (fun i => i = b2) w13
    refine Dq (i := 0) rfl GS13 (fun _ hs => Y_loadS Try.underlying25 rfl sz25 rfl (by first | exact CellsAt.mod (B6.row (by rfl)) hs (by intro h; first | omega | (dsimp only at h; omega)))) ?_
    refine Dq (i := 1) rfl GS13 (fun _ hs => Y_loadS Try.underlying25 rfl sz25 rfl (by first | exact CellsAt.mod (B6.row (by rfl)) hs (by intro h; first | omega | (dsimp only at h; omega)))) ?_
    refine Dq (i := 4) rfl GS13 (fun _ _ => Y_move rfl) ?_
    refine D_1 (i := 2) (by kernel_rfl) ?_
    refine E_call rfl rfl en81 (spec_l7Counts_c _ _ _ (cycH h k) _ _ _ hRA hRB (by have := vk.small; omega) vk.leads) ?_  -- k5 spec.l7Counts
    rintro v14 w14 ⟨b14, rfl, fb14, B14, g14⟩
    replace hA := hA.grow g14
    replace hB := hB.grow g14
    replace hC := hC.grow g14
    replace OX := OX.grow g14
    replace hRA := hRA.grow g14
    replace hRB := hRB.grow g14
    replace G := G.grow g14
    replace GS13 := GS13.grow g14
    replace B1 := B1.grow g14
    replace B2 := B2.grow g14
    replace B6 := B6.grow g14
    have zg14 := g14.size
    have lb14 := B14.lt
    have hfC := fb14
    obtain ⟨bC, rfl⟩ : ∃ x, x = b14 := ⟨_, rfl⟩
    have BC := B14
    refine ⟨GS13, ?_⟩
    refine Dq (i := 3) rfl GS13 (fun _ _ => Y_build (cs := [_, _, _]) zr61 pc61 rfl rfl) ?_
    refine D_1 (i := 5) (by kernel_rfl) ?_
    refine E_stM (pre := []) (old := [_, _, _]) (post := []) (vs := [_, _, _]) (i := 5) rfl sz61 rfl rfl rfl (by first | rfl | assumption) B2 rfl rfl ?_
    intro w15 m15 X15
    replace B2 := Blk.eq (ys := [_, _, _]) X15 rfl
    clear X15
    replace G := G.abv m15
    replace GS13 := GS13.trn m15
    replace hA := hA0.grow G
    replace hB := hB0.grow G
    replace hC := hC0.grow G
    replace OX := OX.md m15
    replace hRA := hRA.md m15
    replace hRB := hRB.md m15
    replace B1 := B1.md m15
    replace B6 := B6.md m15
    replace BC := BC.md m15
    have zm15 := m15.size
    refine ⟨GS13, ?_⟩
    refine Dq (i := 6) rfl GS13 (fun _ _ => Y_assign rfl) ?_
    refine D_en (by kernel_rfl) rfl rfl ?_
    refine th_n (hK21 _ _ ?_)
    clear hK21 K21
    refine wp_ret ?_
    refine ret_rct (cs := [_, _, _]) Try.underlying61 rfl sz61 rfl rfl rfl (B2.row (by rfl)) ?_  -- r2
    have hsv := cycleV_t hb1
    subst hkN
    rw [hlen] at BC
    refine ⟨_, _, _, _, _, _, _, _, _, rs1, fun i => b2 < i ∧ i ≠ bC, fun i => i = bC, by rw [hsv], by rw [hsv], by rw [hsv], by rw [hsv, hlen]; exact (cntL_len _ _).symm, fun i hi => ⟨by omega, by omega⟩, fun i hi => by omega, ?_, by rw [hsv]; exact OI.of_blk' BC rfl, G⟩
    rw [hsv]
    exact OX.weak (fun i hi => by omega)

set_option maxHeartbeats 400000 in
set_option maxRecDepth 20000 in
theorem laws_markCounted_c (P Q : Nat → Prop) (A B C : Option Addr) (h : LH) (xs : List Int) (rs : List (Option Addr × Nat)) (c d e : Nat) (k : Int) (w : World) (O : OH P w 70 3 A B h rs) (OM : OI Q w 3 C (ints xs)) (hpq : ∀ i, P i → ¬ Q i) (hz : hsize h ≤ 1048576) (hxz : xs.length ≤ 1048576) (hk : 0 ≤ k ∧ k ≤ 137438953472) :
    Calls Try.prog 42 #[.agg #[.slice A h.cells.length c, .slice B h.roots.length d, .slice C xs.length e], .int .i64 k] w (Ret fun v w' => v = .int .i64 (kEnd k h + (xs.length : Int)) ∧ OH P w' 70 3 A B (mkH k h) rs ∧ OI Q w' 3 C (ints (iota (kEnd k h) xs.length)) ∧ Mod (fun i => P i ∨ Q i) w w') := by
 replace O := O.lt
 replace OM := OM.lt
 have hk2 := kAt_le (k := k) (cs := h.cells) (j := h.cells.length) (Nat.le_refl _)
 have hk3 := kAt_ge k h.cells h.cells.length
 have hz2 := hsize_roots h
 have hz4 : 2 * h.cells.length + rsum h.cells h.cells.length ≤ 2 * hsize h := by unfold hsize; omega
 have hke : kEnd k h = kAt k h.cells h.cells.length + (h.roots.length : Int) := rfl
 refine enter Try.func42 rfl Try.ntmps42 (L := [_,_,_,_,_,_,_,_,_,_,_,_,_,_]) rfl ?_
 have G := Mod.refl (fun i => P i ∨ Q i) w
 refine wp_seq_k fun K1 hK1 => ?_
 refine Sb 14 rfl ?_  -- 0
 refine S_box (cs := [_, _, _]) rfl rfl ?_
 intro b1 w1 fb1 g1 B1
 have lb1 := B1.lt
 replace O := O.grow g1
 replace OM := OM.grow g1
 replace G := G.grow g1
 have zg1 := g1.size
 refine S_val (Y_assign rfl) ?_
 refine S_nl rfl rfl ?_
 refine th_n (hK1 _ _ ?_)
 clear hK1 K1
 refine wp_seq_k fun K2 hK2 => ?_
 refine Sb 14 rfl ?_  -- 1
 refine S_val (Y_field Try.underlying61 rfl fz61_0 (by decide) rfl) ?_
 refine S_val (Y_loadS Try.underlying25 rfl sz25 rfl (CellsAt.of_blk (pre := []) (us := [_, _]) (post := [_]) B1 rfl)) ?_  -- l1
 refine S_val (Y_move rfl) ?_
 refine S_call rfl en16 (laws_markHeap_c _ _ _ _ _ _ _ _ _ O (by omega) ⟨by omega, by omega⟩) ?_  -- k1 laws.markHeap
 rintro v2 w2 ⟨rfl, O2, m2⟩
 replace OM := OM.mod m2 (fun i hi hs => hpq i hs.1 hi.1)
 replace G := Mod.trans' G m2 (fun _ h _ => h) (fun i h _ => by first | exact .inl h.1 | exact .inr h.1)
 replace B1 := B1.md m2
 have zm2 := m2.size
 obtain ⟨OY, hOY⟩ : ∃ x : OH _ _ _ _ _ _ _ _, x = O2 := ⟨_, rfl⟩
 clear hOY
 refine S_val (Y_assign rfl) ?_
 refine S_nl rfl rfl ?_
 refine th_n (hK2 _ _ ?_)
 clear hK2 K2
 refine wp_seq_k fun K3 hK3 => ?_
 refine Sb 14 rfl ?_  -- 2
 refine S_val (Y_field Try.underlying61 rfl fz61_1 (by decide) rfl) ?_
 refine S_val (Y_load Try.underlying22 rfl rfl (B1.at (by rfl))) ?_  -- l2
 refine S_val (Y_move rfl) ?_
 refine S_call rfl en15 (markIntS_p _ _ _ _ _ _ _ OM rfl (by omega) ⟨by omega, by omega⟩) ?_  -- k2 laws.markIntS
 rintro v3 w3 ⟨rfl, O3, m3⟩
 replace OY := OY.mod m3 (fun i hi hs => hpq i hi.1 hs.1)
 replace G := Mod.trans' G m3 (fun _ h _ => h) (fun i h _ => by first | exact .inl h.1 | exact .inr h.1)
 replace B1 := B1.md m3
 have zm3 := m3.size
 have OZ := O3
 refine S_val (Y_assign rfl) ?_
 refine S_nl rfl rfl ?_
 refine th_n (hK3 _ _ ?_)
 clear hK3 K3
 refine wp_seq_k fun K4 hK4 => ?_
 refine Sb 14 rfl ?_  -- 3
 refine S_val (Y_move rfl) ?_
 refine S_val (Y_assign rfl) ?_
 refine S_nl rfl rfl ?_
 refine th_n (hK4 _ _ ?_)
 clear hK4 K4
 refine wp_ret ?_
 refine ret_r1 rfl rfl ?_  -- r1
 exact ⟨rfl, OY.weak (fun i hi => hi.1), OZ.weak (fun i hi => hi.1), G⟩

set_option maxHeartbeats 400000 in
set_option maxRecDepth 20000 in
theorem laws_heldCounted_c (P Q : Nat → Prop) (A B C : Option Addr) (h : LH) (n c d e : Nat) (k : Int) (w : World) (hA : RC P w A (mkH k h).cells) (hB : R1 P w B (ints (mkH k h).roots)) (hC : R1 Q w C (ints (iota (kEnd k h) n))) (hz : hsize h ≤ 1048576) (hxz : n ≤ 1048576) (hk : 0 ≤ k ∧ k ≤ 137438953472) :
    Calls Try.prog 43 #[.agg #[.slice A h.cells.length c, .slice B h.roots.length d, .slice C n e], .int .i64 k] w (Ret fun v w' => v = .int .i64 (kEnd k h + (n : Int)) ∧ Grow w w') := by
 have hk2 := kAt_le (k := k) (cs := h.cells) (j := h.cells.length) (Nat.le_refl _)
 have hk3 := kAt_ge k h.cells h.cells.length
 have hz2 := hsize_roots h
 have hz4 : 2 * h.cells.length + rsum h.cells h.cells.length ≤ 2 * hsize h := by unfold hsize; omega
 have hke : kEnd k h = kAt k h.cells h.cells.length + (h.roots.length : Int) := rfl
 refine enter Try.func43 rfl Try.ntmps43 (L := [_,_,_,_,_,_,_,_,_,_,_,_,_,_,_,_,_,_]) rfl ?_
 have G := Mod.refl No w
 have hA0 := hA
 have hB0 := hB
 have hC0 := hC
 refine wp_seq_k fun K1 hK1 => ?_
 refine Sb 18 rfl ?_  -- 0
 refine S_box (cs := [_, _, _]) rfl rfl ?_
 intro b1 w1 fb1 g1 B1
 have lb1 := B1.lt
 replace hA := hA.grow g1
 replace hB := hB.grow g1
 replace hC := hC.grow g1
 replace G := G.grow g1
 have zg1 := g1.size
 refine S_val (Y_assign rfl) ?_
 refine S_nl rfl rfl ?_
 refine th_n (hK1 _ _ ?_)
 clear hK1 K1
 refine wp_seq_k fun K2 hK2 => ?_
 refine Sb 18 rfl ?_  -- 1
 refine S_val (Y_field Try.underlying61 rfl fz61_0 (by decide) rfl) ?_
 refine S_val (Y_loadS Try.underlying25 rfl sz25 rfl (CellsAt.of_blk (pre := []) (us := [_, _]) (post := [_]) B1 rfl)) ?_  -- l1
 refine S_val (Y_move rfl) ?_
 refine S_call rfl en17 (laws_heldHeap_c _ _ _ _ _ _ _ _ hA hB (by omega) ⟨by omega, by omega⟩) ?_  -- k1 laws.heldHeap
 rintro v2 w2 ⟨rfl, g2⟩
 replace hA := hA.grow g2
 replace hB := hB.grow g2
 replace hC := hC.grow g2
 replace G := G.grow g2
 replace B1 := B1.grow g2
 have zg2 := g2.size
 refine S_val (Y_assign rfl) ?_
 refine S_nl rfl rfl ?_
 refine th_n (hK2 _ _ ?_)
 clear hK2 K2
 refine wp_seq_k fun K3 hK3 => ?_
 refine wp_seq_k fun K4 hK4 => ?_
 refine Sb 18 rfl ?_  -- 2
 refine S_val (Y_move rfl) ?_
 refine S_val (Y_lss rfl rfl) ?_
 refine S_nl rfl rfl ?_
 refine th_n (hK4 _ _ ?_)
 clear hK4 K4
 refine S_if rfl (fun hb1 => ?_) (fun hb1 => ?_)  -- c1
 · -- c1T
  replace hb1 := nb_tt hb1
  omega
 · -- c1F
  replace hb1 := nb_tf hb1
  refine wp_skip ?_
  refine th_n (hK3 _ _ ?_)
  clear hK3 K3
  refine wp_seq_k fun K5 hK5 => ?_
  refine Sb 18 rfl ?_  -- 4
  refine S_val (Y_field Try.underlying61 rfl fz61_1 (by decide) rfl) ?_
  refine S_val (Y_load Try.underlying22 rfl rfl (B1.at (by rfl))) ?_  -- l2
  refine S_val (Y_move rfl) ?_
  refine S_call rfl en53 (laws_heldIntS_c _ _ _ _ _ _ hC (by omega) ⟨by omega, by omega⟩) ?_  -- k2 laws.heldIntS
  rintro v3 w3 ⟨rfl, g3⟩
  replace hA := hA.grow g3
  replace hB := hB.grow g3
  replace hC := hC.grow g3
  replace G := G.grow g3
  replace B1 := B1.grow g3
  have zg3 := g3.size
  refine S_val (Y_assign rfl) ?_
  refine S_nl rfl rfl ?_
  refine th_n (hK5 _ _ ?_)
  clear hK5 K5
  refine wp_seq_k fun K6 hK6 => ?_
  refine wp_seq_k fun K7 hK7 => ?_
  refine Sb 18 rfl ?_  -- 5
  refine S_val (Y_move rfl) ?_
  refine S_val (Y_lss rfl rfl) ?_
  refine S_nl rfl rfl ?_
  refine th_n (hK7 _ _ ?_)
  clear hK7 K7
  refine S_if rfl (fun hb2 => ?_) (fun hb2 => ?_)  -- c2
  · -- c2T
   replace hb2 := nb_tt hb2
   omega
  · -- c2F
   replace hb2 := nb_tf hb2
   refine wp_skip ?_
   refine th_n (hK6 _ _ ?_)
   clear hK6 K6
   refine wp_seq_k fun K8 hK8 => ?_
   refine Sb 18 rfl ?_  -- 7
   refine S_val (Y_move rfl) ?_
   refine S_val (Y_assign rfl) ?_
   refine S_nl rfl rfl ?_
   refine th_n (hK8 _ _ ?_)
   clear hK8 K8
   refine wp_ret ?_
   refine ret_r1 rfl rfl ?_  -- r1
   exact ⟨rfl, G⟩

end Go.Proofs.Ytjmfdmndchoplaa
