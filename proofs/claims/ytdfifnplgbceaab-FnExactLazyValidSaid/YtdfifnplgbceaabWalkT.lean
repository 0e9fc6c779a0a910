/-
  Walks: lists of cells in ascending order, and their new numbers.
  Conditions: those that each theorem states.
-/
import Derived.Test.YtdfifnplgbceaabTy
import Derived.Test.YtdfifnplgbceaabWalkQ
import Derived.Test.YtdfifnplgbceaabWalkS
import Derived.Test.YtdfifnplgbceaabSlide
namespace Go.Proofs.Ytdfifnplgbceaab
open Go Go.RowKit
attribute [local irreducible] wpList wpAnyH Code.wp dOp

set_option maxHeartbeats 400000 in
set_option maxRecDepth 20000 in
theorem impl_slideOrder_c (Pr : Nat → Prop) (A B : Option Addr) (h : LH) (c d : Nat) (w : World) (hA : RC Pr w A h.cells) (hB : R1 Pr w B (ints h.roots)) (hz : hsize h ≤ 1048576) (va : Valid h) :
    Calls Try.prog 73 #[.agg #[.slice A h.cells.length c, .slice B h.roots.length d]] w (Ret fun v w' => ∃ A1 q cap, v = .slice A1 q cap ∧ q = (slideL h).length ∧ OI (fun i => w.heap.size ≤ i) w' 3 A1 (ints (slideL h)) ∧ Grow w w') := by
  have hz1 := hsize_cells h
  have hz2 := hsize_roots h
  have hl := va.leads
  have h40 := va.le
  have hr4 := va.roots4
  refine enter Try.func73 rfl Try.ntmps73 (L := (_ :: _ :: _ :: _ :: _ :: _ :: _ :: _ :: _ :: _ :: _ :: _ :: _ :: _ :: _ :: _ :: _ :: _ :: _ :: _ :: _ :: _ :: _ :: _ :: [])) rfl ?_
  have G := Mod.refl No w
  have hA0 := hA
  have hB0 := hB
  refine wp_seq_k fun K1 hK1 => ?_
  refine wp_region_lit ?_  -- region 0 l16_sliding.go:4
  refine S_beg 24 rfl ?_
  refine S_box (cs := [_, _]) rfl rfl ?_
  intro b1 w1 fb1 g1 B1
  have lb1 := B1.lt
  replace hA := hA.grow g1
  replace hB := hB.grow g1
  replace G := G.grow g1
  have zg1 := g1.size
  refine S_val (Y_assign rfl) ?_
  refine S_nil (L' := (_ :: _ :: _ :: _ :: _ :: _ :: _ :: _ :: _ :: _ :: _ :: _ :: _ :: _ :: _ :: _ :: _ :: _ :: _ :: _ :: _ :: _ :: _ :: _ :: [])) rfl rfl ?_
  refine th_n ?_
  refine hK1 _ _ ?_
  clear hK1 K1
  refine wp_seq_k fun K2 hK2 => ?_
  refine wp_region_lit ?_  -- region 1 l16_sliding.go:5
  refine S_beg 24 rfl ?_
  refine S_bs0 Try.underlying23 sz3 ?_
  intro b2 w2 fb2 g2 B2
  have lb2 := B2.lt
  replace hA := hA.grow g2
  replace hB := hB.grow g2
  replace G := G.grow g2
  replace B1 := B1.grow g2
  have zg2 := g2.size
  refine S_val (Y_assign rfl) ?_
  refine S_nil (L' := (_ :: _ :: _ :: _ :: _ :: _ :: _ :: _ :: _ :: _ :: _ :: _ :: _ :: _ :: _ :: _ :: _ :: _ :: _ :: _ :: _ :: _ :: _ :: _ :: [])) rfl rfl ?_
  refine th_n ?_
  refine hK2 _ _ ?_
  clear hK2 K2
  refine wp_seq_k fun K3 hK3 => ?_
  refine wp_region_lit ?_  -- region 2 l16_sliding.go:6
  refine S_beg 24 rfl ?_
  refine S_val (Y_loadS Try.underlying33 rfl sz33 rfl (by first | assumption | exact B1.row (by rfl) | exact B2.row (by rfl))) ?_  -- l1
  refine S_call rfl en66 (impl_reachable_c _ _ _ _ _ _ _ (by assumption) (by assumption) (by omega) (by assumption)) ?_  -- k1 impl.reachable
  rintro v3 w3 ⟨s3, rfl, hs3, hr3, g3⟩
  replace hA := hA.grow g3
  replace hB := hB.grow g3
  replace G := G.grow g3
  replace B1 := B1.grow g3
  replace B2 := B2.grow g3
  have zg3 := g3.size
  refine S_val (Y_assign rfl) ?_
  refine S_nil (L' := (_ :: _ :: _ :: _ :: _ :: _ :: _ :: _ :: _ :: _ :: _ :: _ :: _ :: _ :: _ :: _ :: _ :: _ :: _ :: _ :: _ :: _ :: _ :: _ :: [])) rfl rfl ?_
  refine th_n ?_
  refine hK3 _ _ ?_
  clear hK3 K3
  refine wp_seq_k fun K4 hK4 => ?_
  refine wp_seq_k fun K5 hK5 => ?_
  refine wp_region_lit ?_  -- region 3 l16_sliding.go:7
  refine S_beg 24 rfl ?_
  refine S_val (Y_field Try.underlying33 rfl fz33_0 (by decide) rfl) ?_
  refine S_val (Y_load Try.underlying31 rfl rfl (by first | assumption | exact B1.at (by rfl) | exact B2.at (by rfl))) ?_  -- l2
  refine S_val (Y_len Try.underlying31 rfl) ?_
  refine S_val (Y_move rfl) ?_
  refine S_nil (L' := (_ :: _ :: _ :: _ :: _ :: _ :: _ :: _ :: _ :: _ :: _ :: _ :: _ :: _ :: _ :: _ :: _ :: _ :: _ :: _ :: _ :: _ :: _ :: _ :: [])) rfl rfl ?_
  refine th_n ?_
  refine hK5 _ _ ?_
  clear hK5 K5
  refine wp_block ?_
  obtain ⟨wz, hwz⟩ : ∃ x, x = w3.heap.size := ⟨_, rfl⟩
  have O1 : OW (fun i => i = b2 ∨ wz ≤ i) w3 3 1 (some ⟨b2, 0, none⟩) 0 0 (ints []) := OW.of_blk B2 rfl (by decide) (.inl rfl)
  go_loopw [3, 12] (fun u3 u12 wr => (∃ (k q cap : Nat) (A1 : Option Addr), u12 = .int .i64 k ∧ u3 = .slice A1 q cap ∧ k ≤ h.cells.length ∧ q = (selL k (rB h)).length ∧ OW (fun i => i = b2 ∨ wz ≤ i) wr 3 1 A1 q cap (ints (selL k (rB h)))) ∧ Mod (fun i => i = b2 ∨ wz ≤ i) w3 wr) (fun u3 u12 wr => h.cells.length - (intOf u12).toNat)  -- L1
  case atStart =>
    refine ⟨?_, Mod.refl _ _⟩
    exact ⟨0, 0, 0, _, rfl, rfl, by omega, rfl, O1⟩
  case round =>
    obtain ⟨w4, rfl⟩ : ∃ x : World, x = wr := ⟨_, rfl⟩
    obtain ⟨hrel, g4⟩ := hrel
    clear O1
    replace G := G.above g4 (by intro i h; first | omega | (dsimp only at h; omega))
    replace hA := hA0.grow G
    replace hB := hB0.grow G
    replace B1 := B1.mod g4 (by intro h; first | omega | (dsimp only at h; omega))
    have zg4 := g4.size
    obtain ⟨k, q1, cap1, A1, rfl, rfl, hk, hq1, O1⟩ := hrel
    have hsl := selL_le k (rB h)
    have GL4 := g4
    refine wp_seq_k fun K6 hK6 => ?_
    refine wp_region_lit ?_  -- region 4 l16_sliding.go:7
    refine S_beg 24 rfl ?_
    refine S_val (Y_lss rfl rfl) ?_
    refine S_nil (L' := (_ :: _ :: _ :: _ :: _ :: _ :: _ :: _ :: _ :: _ :: _ :: _ :: _ :: _ :: _ :: _ :: _ :: _ :: _ :: _ :: _ :: _ :: _ :: _ :: [])) rfl rfl ?_
    refine th_n ?_
    refine hK6 _ _ ?_
    clear hK6 K6
    refine wp_seq_k fun K7 hK7 => ?_
    refine S_if rfl (fun hb1 => ?_) (fun hb1 => ?_)  -- c1
    · -- c1T
      first | with_reducible (replace hb1 := nb_nt hb1) | with_reducible (replace hb1 := nb_nf hb1) | with_reducible (replace hb1 := nb_tt hb1) | with_reducible (replace hb1 := nb_tf hb1) | with_reducible (replace hb1 := nb_bt hb1) | with_reducible (replace hb1 := nb_bf hb1) | skip
      have hk1 : k < h.cells.length := by omega
      refine wp_skip ?_
      refine th_n ?_
      refine hK7 _ _ ?_
      clear hK7 K7
      refine wp_seq_k fun K8 hK8 => ?_
      refine wp_block ?_
      refine wp_seq_k fun K9 hK9 => ?_
      refine wp_region_lit ?_  -- region 5 l16_sliding.go:7
      refine S_beg 24 rfl ?_
      refine S_val (Y_move rfl) ?_
      refine S_val (Y_assign rfl) ?_
      refine S_nil (L' := (_ :: _ :: _ :: _ :: _ :: _ :: _ :: _ :: _ :: _ :: _ :: _ :: _ :: _ :: _ :: _ :: _ :: _ :: _ :: _ :: _ :: _ :: _ :: _ :: [])) rfl rfl ?_
      refine th_n ?_
      refine hK9 _ _ ?_
      clear hK9 K9
      refine wp_seq_k fun K10 hK10 => ?_
      refine wp_region_lit ?_  -- region 6 l16_sliding.go:8
      refine S_beg 24 rfl ?_
      refine S_val (Y_move rfl) ?_
      refine S_val (Y_move rfl) ?_
      refine S_call rfl en88 (impl_cellSet_has_c _ _ _ (by assumption)) ?_  -- k2 (impl.cellSet).has
      rintro v w' ⟨rfl, rfl⟩
      refine S_nil (L' := (_ :: _ :: _ :: _ :: _ :: _ :: _ :: _ :: _ :: _ :: _ :: _ :: _ :: _ :: _ :: _ :: _ :: _ :: _ :: _ :: _ :: _ :: _ :: _ :: [])) rfl rfl ?_
      refine th_n ?_
      refine hK10 _ _ ?_
      clear hK10 K10
      refine S_if rfl (fun hb2 => ?_) (fun hb2 => ?_)  -- c2
      · -- c2T
        first | with_reducible (replace hb2 := nb_nt hb2) | with_reducible (replace hb2 := nb_nf hb2) | with_reducible (replace hb2 := nb_tt hb2) | with_reducible (replace hb2 := nb_tf hb2) | with_reducible (replace hb2 := nb_bt hb2) | with_reducible (replace hb2 := nb_bf hb2) | skip
        rw [hasB_nat, rB_list hr3 hk1] at hb2
        refine wp_region_lit ?_  -- region 7 l16_sliding.go:9
        refine S_beg 24 rfl ?_
        refine S_val (Y_move rfl) ?_
        refine S_val (Y_move rfl) ?_
        refine S_bs1 (cs := [_]) Try.underlying23 zr3 sz3 rfl rfl rfl ?_
        intro b6 w6 fb6 g6 B6
        have lb6 := B6.lt
        replace hA := hA.grow g6
        replace hB := hB.grow g6
        replace O1 := O1.grow g6
        replace G := G.grow g6
        replace GL4 := GL4.grow g6
        replace B1 := B1.grow g6
        have zg6 := g6.size
        refine S_app Try.underlying23 zr3 sz3 by3 rfl rfl O1 rfl (Src.blk B6) (by simp [Value.oneCell']) (by omega) (Pr' := fun i => i = b2 ∨ wz ≤ i) (fun i hi => hi) (by omega) ?_
        intro A7 cap7 w7 X7 m7
        replace O1 := X7
        rw [ints_app] at O1
        clear X7
        replace G := G.above m7 (by intro i h; first | omega | (dsimp only at h; omega))
        replace GL4 := Mod.trans' GL4 m7 (fun _ h _ => h) (fun i h _ => by first | exact h | omega | (dsimp only at h ⊢; omega) | (subst h; rfl) | (subst h; exact ⟨by omega, rfl⟩))
        replace hA := hA0.grow G
        replace hB := hB0.grow G
        replace B1 := B1.mod m7 (by intro h; first | omega | (dsimp only at h; omega))
        have zm7 := m7.size
        refine S_val (Y_assign rfl) ?_
        refine S_nil (L' := (_ :: _ :: _ :: _ :: _ :: _ :: _ :: _ :: _ :: _ :: _ :: _ :: _ :: _ :: _ :: _ :: _ :: _ :: _ :: _ :: _ :: _ :: _ :: _ :: [])) rfl rfl ?_
        refine ib_n ?_
        refine th_n ?_
        refine hK8 _ _ ?_
        clear hK8 K8
        refine wp_region_lit ?_  -- region 8 l16_sliding.go:7
        refine S_beg 24 rfl ?_
        refine S_val (Y_inc rfl rfl (by omega)) ?_
        refine S_val (Y_move rfl) ?_
        refine S_nil (L' := (_ :: _ :: _ :: _ :: _ :: _ :: _ :: _ :: _ :: _ :: _ :: _ :: _ :: _ :: _ :: _ :: _ :: _ :: _ :: _ :: _ :: _ :: _ :: _ :: [])) rfl rfl ?_
        refine th_n ?_
        go_roundw  -- e1 of L1
        case rel =>
          refine ⟨?_, GL4⟩
          exact ⟨k + 1, _, _, _, rfl, rfl, by omega, by rw [selL_yes hb2, List.length_append, ← hq1]; rfl, by rw [selL_yes hb2]; exact O1⟩
        case measure =>
          exact dec_nat (by omega)
      · -- c2F
        first | with_reducible (replace hb2 := nb_nt hb2) | with_reducible (replace hb2 := nb_nf hb2) | with_reducible (replace hb2 := nb_tt hb2) | with_reducible (replace hb2 := nb_tf hb2) | with_reducible (replace hb2 := nb_bt hb2) | with_reducible (replace hb2 := nb_bf hb2) | skip
        rw [hasB_nat, rB_list hr3 hk1] at hb2
        refine wp_skip ?_
        refine ib_n ?_
        refine th_n ?_
        refine hK8 _ _ ?_
        clear hK8 K8
        refine wp_region_lit ?_  -- region 8 l16_sliding.go:7
        refine S_beg 24 rfl ?_
        refine S_val (Y_inc rfl rfl (by omega)) ?_
        refine S_val (Y_move rfl) ?_
        refine S_nil (L' := (_ :: _ :: _ :: _ :: _ :: _ :: _ :: _ :: _ :: _ :: _ :: _ :: _ :: _ :: _ :: _ :: _ :: _ :: _ :: _ :: _ :: _ :: _ :: _ :: [])) rfl rfl ?_
        refine th_n ?_
        go_roundw  -- e2 of L1
        case rel =>
          refine ⟨?_, GL4⟩
          exact ⟨k + 1, _, _, _, rfl, rfl, by omega, by rw [selL_no hb2]; exact hq1, by rw [selL_no hb2]; exact O1⟩
        case measure =>
          exact dec_nat (by omega)
    · -- c1F
      first | with_reducible (replace hb1 := nb_nt hb1) | with_reducible (replace hb1 := nb_nf hb1) | with_reducible (replace hb1 := nb_tt hb1) | with_reducible (replace hb1 := nb_tf hb1) | with_reducible (replace hb1 := nb_bt hb1) | with_reducible (replace hb1 := nb_bf hb1) | skip
      refine wp_exit ?_
      refine th_x ?_
      clear GL4
      refine th_x ?_
      refine ib_e ?_
      refine th_n ?_
      refine hK4 _ _ ?_
      clear hK7 K7 hK4 K4
      refine wp_seq_k fun K11 hK11 => ?_
      refine wp_region_lit ?_  -- region 9 l16_sliding.go:12
      refine S_beg 24 rfl ?_
      refine S_val (Y_move rfl) ?_
      refine S_val (Y_assign rfl) ?_
      refine S_nil (L' := (_ :: _ :: _ :: _ :: _ :: _ :: _ :: _ :: _ :: _ :: _ :: _ :: _ :: _ :: _ :: _ :: _ :: _ :: _ :: _ :: _ :: _ :: _ :: _ :: [])) rfl rfl ?_
      refine th_n ?_
      refine hK11 _ _ ?_
      clear hK11 K11
      refine wp_ret ?_
      refine ret_r1 rfl rfl ?_  -- r1
      have hkN : k = h.cells.length := by omega
      rw [hkN] at hq1 O1
      exact ⟨_, _, _, rfl, hq1, O1.oi.weak (fun i hi => by omega), G⟩

set_option maxHeartbeats 400000 in
set_option maxRecDepth 20000 in
theorem spec_l16Order_c (Pr : Nat → Prop) (A B : Option Addr) (h : LH) (c d : Nat) (w : World) (hA : RC Pr w A h.cells) (hB : R1 Pr w B (ints h.roots)) (hz : hsize h ≤ 1048576) (va : Valid h) :
    Calls Try.prog 69 #[.agg #[.slice A h.cells.length c, .slice B h.roots.length d]] w (Ret fun v w' => ∃ A1 q cap, v = .slice A1 q cap ∧ q = (slideL h).length ∧ OI (fun i => w.heap.size ≤ i) w' 3 A1 (ints (slideL h)) ∧ Grow w w') := by
  have hz1 := hsize_cells h
  have hz2 := hsize_roots h
  have hl := va.leads
  have h40 := va.le
  have hr4 := va.roots4
  refine enter Try.func69 rfl Try.ntmps69 (L := (_ :: _ :: _ :: _ :: _ :: _ :: _ :: _ :: _ :: _ :: _ :: _ :: _ :: _ :: _ :: _ :: _ :: _ :: _ :: _ :: _ :: _ :: _ :: _ :: _ :: _ :: [])) rfl ?_
  have G := Mod.refl No w
  have hA0 := hA
  have hB0 := hB
  refine wp_seq_k fun K1 hK1 => ?_
  refine wp_region_lit ?_  -- region 0 l16_sliding.go:6
  refine S_beg 26 rfl ?_
  refine S_box (cs := [_, _]) rfl rfl ?_
  intro b1 w1 fb1 g1 B1
  have lb1 := B1.lt
  replace hA := hA.grow g1
  replace hB := hB.grow g1
  replace G := G.grow g1
  have zg1 := g1.size
  refine S_val (Y_assign rfl) ?_
  refine S_nil (L' := (_ :: _ :: _ :: _ :: _ :: _ :: _ :: _ :: _ :: _ :: _ :: _ :: _ :: _ :: _ :: _ :: _ :: _ :: _ :: _ :: _ :: _ :: _ :: _ :: _ :: _ :: [])) rfl rfl ?_
  refine th_n ?_
  refine hK1 _ _ ?_
  clear hK1 K1
  refine wp_seq_k fun K2 hK2 => ?_
  refine wp_region_lit ?_  -- region 1 l16_sliding.go:7
  refine S_beg 26 rfl ?_
  refine S_bs0 Try.underlying23 sz3 ?_
  intro b2 w2 fb2 g2 B2
  have lb2 := B2.lt
  replace hA := hA.grow g2
  replace hB := hB.grow g2
  replace G := G.grow g2
  replace B1 := B1.grow g2
  have zg2 := g2.size
  refine S_val (Y_assign rfl) ?_
  refine S_nil (L' := (_ :: _ :: _ :: _ :: _ :: _ :: _ :: _ :: _ :: _ :: _ :: _ :: _ :: _ :: _ :: _ :: _ :: _ :: _ :: _ :: _ :: _ :: _ :: _ :: _ :: _ :: [])) rfl rfl ?_
  refine th_n ?_
  refine hK2 _ _ ?_
  clear hK2 K2
  refine wp_seq_k fun K3 hK3 => ?_
  refine wp_region_lit ?_  -- region 2 l16_sliding.go:8
  refine S_beg 26 rfl ?_
  refine S_val (Y_loadS Try.underlying33 rfl sz33 rfl (by first | assumption | exact B1.row (by rfl) | exact B2.row (by rfl))) ?_  -- l1
  refine S_val (Y_field Try.underlying33 rfl fz33_1 (by decide) rfl) ?_
  refine S_val (Y_load Try.underlying23 rfl rfl (by first | assumption | exact B1.at (by rfl) | exact B2.at (by rfl))) ?_  -- l2
  refine S_call rfl en62 (spec_l7Reach_c _ _ _ _ _ _ _ _ _ _ _ (by assumption) (by assumption) (by omega) (by omega) (by assumption)) ?_  -- k1 spec.l7Reach
  rintro v3 w3 ⟨b3, rfl, fb3, B3, g3⟩
  replace hA := hA.grow g3
  replace hB := hB.grow g3
  replace G := G.grow g3
  replace B1 := B1.grow g3
  replace B2 := B2.grow g3
  have zg3 := g3.size
  have lb3 := B3.lt
  have hRB := R1.of_blkE B3
  refine S_val (Y_assign rfl) ?_
  refine S_nil (L' := (_ :: _ :: _ :: _ :: _ :: _ :: _ :: _ :: _ :: _ :: _ :: _ :: _ :: _ :: _ :: _ :: _ :: _ :: _ :: _ :: _ :: _ :: _ :: _ :: _ :: _ :: [])) rfl rfl ?_
  refine th_n ?_
  refine hK3 _ _ ?_
  clear hK3 K3
  refine wp_seq_k fun K4 hK4 => ?_
  refine wp_seq_k fun K5 hK5 => ?_
  refine wp_region_lit ?_  -- region 3 l16_sliding.go:9
  refine S_beg 26 rfl ?_
  refine S_val (Y_assign rfl) ?_
  refine S_nil (L' := (_ :: _ :: _ :: _ :: _ :: _ :: _ :: _ :: _ :: _ :: _ :: _ :: _ :: _ :: _ :: _ :: _ :: _ :: _ :: _ :: _ :: _ :: _ :: _ :: _ :: _ :: [])) rfl rfl ?_
  refine th_n ?_
  refine hK5 _ _ ?_
  clear hK5 K5
  refine wp_block ?_
  obtain ⟨wz, hwz⟩ : ∃ x, x = w3.heap.size := ⟨_, rfl⟩
  have O1 : OW (fun i => i = b2 ∨ wz ≤ i) w3 3 1 (some ⟨b2, 0, none⟩) 0 0 (ints []) := OW.of_blk B2 rfl (by decide) (.inl rfl)
  go_loopw [3, 5] (fun u3 u5 wr => (∃ (k q cap : Nat) (A1 : Option Addr), u5 = .int .i64 k ∧ u3 = .slice A1 q cap ∧ k ≤ h.cells.length ∧ q = (selL k (rB h)).length ∧ OW (fun i => i = b2 ∨ wz ≤ i) wr 3 1 A1 q cap (ints (selL k (rB h)))) ∧ Mod (fun i => i = b2 ∨ wz ≤ i) w3 wr) (fun u3 u5 wr => h.cells.length - (intOf u5).toNat)  -- L1
  case atStart =>
    refine ⟨?_, Mod.refl _ _⟩
    exact ⟨0, 0, 0, _, rfl, rfl, by omega, rfl, O1⟩
  case round =>
    obtain ⟨w4, rfl⟩ : ∃ x : World, x = wr := ⟨_, rfl⟩
    obtain ⟨hrel, g4⟩ := hrel
    clear O1
    replace G := G.above g4 (by intro i h; first | omega | (dsimp only at h; omega))
    replace hA := hA0.grow G
    replace hB := hB0.grow G
    replace hRB := hRB.mod g4 (by intro k hk h; first | omega | (dsimp only at hk h; omega) | (dsimp only at hk; omega))
    replace B1 := B1.mod g4 (by intro h; first | omega | (dsimp only at h; omega))
    replace B3 := B3.mod g4 (by intro h; first | omega | (dsimp only at h; omega))
    have zg4 := g4.size
    obtain ⟨k, q1, cap1, A1, rfl, rfl, hk, hq1, O1⟩ := hrel
    have hsl := selL_le k (rB h)
    have GL4 := g4
    refine wp_seq_k fun K6 hK6 => ?_
    refine wp_seq_k fun K7 hK7 => ?_
    refine wp_region_lit ?_  -- region 4 l16_sliding.go:9
    refine S_beg 26 rfl ?_
    refine S_val (Y_move rfl) ?_
    refine S_val (Y_move rfl) ?_
    refine S_val (Y_len Try.underlying26 rfl) ?_
    refine S_val (Y_lss rfl rfl) ?_
    refine S_nil (L' := (_ :: _ :: _ :: _ :: _ :: _ :: _ :: _ :: _ :: _ :: _ :: _ :: _ :: _ :: _ :: _ :: _ :: _ :: _ :: _ :: _ :: _ :: _ :: _ :: _ :: _ :: [])) rfl rfl ?_
    refine th_n ?_
    refine hK7 _ _ ?_
    clear hK7 K7
    refine S_if rfl (fun hb1 => ?_) (fun hb1 => ?_)  -- c1
    · -- c1T
      first | with_reducible (replace hb1 := nb_nt hb1) | with_reducible (replace hb1 := nb_nf hb1) | with_reducible (replace hb1 := nb_tt hb1) | with_reducible (replace hb1 := nb_tf hb1) | with_reducible (replace hb1 := nb_bt hb1) | with_reducible (replace hb1 := nb_bf hb1) | skip
      have hk1 : k < h.cells.length := by omega
      have hk3 : k < (mB h.cells.length (orderL h.cells h.roots nn)).length := by rw [mB_len]; exact hk1
      obtain ⟨g4, o4, e4, hp4, hc4⟩ := hRB.bool hk3
      cases e4
      have hme : (mB h.cells.length (orderL h.cells h.roots nn))[k] = rB h k := by simp [mB, rB]
      rw [hme] at hc4
      refine wp_skip ?_
      refine th_n ?_
      refine hK6 _ _ ?_
      clear hK6 K6
      refine wp_seq_k fun K8 hK8 => ?_
      refine wp_block ?_
      refine wp_seq_k fun K9 hK9 => ?_
      refine wp_region_lit ?_  -- region 6 l16_sliding.go:10
      refine S_beg 26 rfl ?_
      refine S_val (Y_move rfl) ?_
      refine S_val (Y_move rfl) ?_
      refine S_val (Y_index Try.underlying26 sz4 rfl rfl (by first | assumption | omega)) ?_
      refine S_val (Y_load Try.underlying4 rfl rfl (by first | assumption | exact B1.at (by rfl) | exact B3.at (by rfl))) ?_  -- l3
      refine S_nil (L' := (_ :: _ :: _ :: _ :: _ :: _ :: _ :: _ :: _ :: _ :: _ :: _ :: _ :: _ :: _ :: _ :: _ :: _ :: _ :: _ :: _ :: _ :: _ :: _ :: _ :: _ :: [])) rfl rfl ?_
      refine th_n ?_
      refine hK9 _ _ ?_
      clear hK9 K9
      refine S_if rfl (fun hb2 => ?_) (fun hb2 => ?_)  -- c2
      · -- c2T
        first | with_reducible (replace hb2 := nb_nt hb2) | with_reducible (replace hb2 := nb_nf hb2) | with_reducible (replace hb2 := nb_tt hb2) | with_reducible (replace hb2 := nb_tf hb2) | with_reducible (replace hb2 := nb_bt hb2) | with_reducible (replace hb2 := nb_bf hb2) | skip
        refine wp_region_lit ?_  -- region 7 l16_sliding.go:11
        refine S_beg 26 rfl ?_
        refine S_val (Y_move rfl) ?_
        refine S_val (Y_move rfl) ?_
        refine S_bs1 (cs := [_]) Try.underlying23 zr3 sz3 rfl rfl rfl ?_
        intro b5 w5 fb5 g5 B5
        have lb5 := B5.lt
        replace hA := hA.grow g5
        replace hB := hB.grow g5
        replace hRB := hRB.grow g5
        replace O1 := O1.grow g5
        replace G := G.grow g5
        replace GL4 := GL4.grow g5
        replace B1 := B1.grow g5
        replace B3 := B3.grow g5
        have zg5 := g5.size
        refine S_app Try.underlying23 zr3 sz3 by3 rfl rfl O1 rfl (Src.blk B5) (by simp [Value.oneCell']) (by omega) (Pr' := fun i => i = b2 ∨ wz ≤ i) (fun i hi => hi) (by omega) ?_
        intro A6 cap6 w6 X6 m6
        replace O1 := X6
        rw [ints_app] at O1
        clear X6
        replace G := G.above m6 (by intro i h; first | omega | (dsimp only at h; omega))
        replace GL4 := Mod.trans' GL4 m6 (fun _ h _ => h) (fun i h _ => by first | exact h | omega | (dsimp only at h ⊢; omega) | (subst h; rfl) | (subst h; exact ⟨by omega, rfl⟩))
        replace hA := hA0.grow G
        replace hB := hB0.grow G
        replace hRB := hRB.mod m6 (by intro k hk h; first | omega | (dsimp only at hk h; omega) | (dsimp only at hk; omega))
        replace B1 := B1.mod m6 (by intro h; first | omega | (dsimp only at h; omega))
        replace B3 := B3.mod m6 (by intro h; first | omega | (dsimp only at h; omega))
        have zm6 := m6.size
        refine S_val (Y_assign rfl) ?_
        refine S_nil (L' := (_ :: _ :: _ :: _ :: _ :: _ :: _ :: _ :: _ :: _ :: _ :: _ :: _ :: _ :: _ :: _ :: _ :: _ :: _ :: _ :: _ :: _ :: _ :: _ :: _ :: _ :: [])) rfl rfl ?_
        refine ib_n ?_
        refine th_n ?_
        refine hK8 _ _ ?_
        clear hK8 K8
        refine wp_region_lit ?_  -- region 5 l16_sliding.go:9
        refine S_beg 26 rfl ?_
        refine S_val (Y_move rfl) ?_
        refine S_val (Y_inc rfl rfl (by omega)) ?_
        refine S_val (Y_assign rfl) ?_
        refine S_nil (L' := (_ :: _ :: _ :: _ :: _ :: _ :: _ :: _ :: _ :: _ :: _ :: _ :: _ :: _ :: _ :: _ :: _ :: _ :: _ :: _ :: _ :: _ :: _ :: _ :: _ :: _ :: [])) rfl rfl ?_
        refine th_n ?_
        go_roundw  -- e1 of L1
        case rel =>
          refine ⟨?_, GL4⟩
          exact ⟨k + 1, _, _, _, rfl, rfl, by omega, by rw [selL_yes hb2, List.length_append, ← hq1]; rfl, by rw [selL_yes hb2]; exact O1⟩
        case measure =>
          exact dec_nat (by omega)
      · -- c2F
        first | with_reducible (replace hb2 := nb_nt hb2) | with_reducible (replace hb2 := nb_nf hb2) | with_reducible (replace hb2 := nb_tt hb2) | with_reducible (replace hb2 := nb_tf hb2) | with_reducible (replace hb2 := nb_bt hb2) | with_reducible (replace hb2 := nb_bf hb2) | skip
        refine wp_skip ?_
        refine ib_n ?_
        refine th_n ?_
        refine hK8 _ _ ?_
        clear hK8 K8
        refine wp_region_lit ?_  -- region 5 l16_sliding.go:9
        refine S_beg 26 rfl ?_
        refine S_val (Y_move rfl) ?_
        refine S_val (Y_inc rfl rfl (by omega)) ?_
        refine S_val (Y_assign rfl) ?_
        refine S_nil (L' := (_ :: _ :: _ :: _ :: _ :: _ :: _ :: _ :: _ :: _ :: _ :: _ :: _ :: _ :: _ :: _ :: _ :: _ :: _ :: _ :: _ :: _ :: _ :: _ :: _ :: _ :: [])) rfl rfl ?_
        refine th_n ?_
        go_roundw  -- e2 of L1
        case rel =>
          refine ⟨?_, GL4⟩
          exact ⟨k + 1, _, _, _, rfl, rfl, by omega, by rw [selL_no hb2]; exact hq1, by rw [selL_no hb2]; exact O1⟩
        case measure =>
          exact dec_nat (by omega)
    · -- c1F
      first | with_reducible (replace hb1 := nb_nt hb1) | with_reducible (replace hb1 := nb_nf hb1) | with_reducible (replace hb1 := nb_tt hb1) | with_reducible (replace hb1 := nb_tf hb1) | with_reducible (replace hb1 := nb_bt hb1) | with_reducible (replace hb1 := nb_bf hb1) | skip
      refine wp_exit ?_
      refine th_x ?_
      clear GL4
      refine th_x ?_
      refine ib_e ?_
      refine th_n ?_
      refine hK4 _ _ ?_
      clear hK6 K6 hK4 K4
      refine wp_seq_k fun K10 hK10 => ?_
      refine wp_region_lit ?_  -- region 8 l16_sliding.go:14
      refine S_beg 26 rfl ?_
      refine S_val (Y_move rfl) ?_
      refine S_val (Y_assign rfl) ?_
      refine S_nil (L' := (_ :: _ :: _ :: _ :: _ :: _ :: _ :: _ :: _ :: _ :: _ :: _ :: _ :: _ :: _ :: _ :: _ :: _ :: _ :: _ :: _ :: _ :: _ :: _ :: _ :: _ :: [])) rfl rfl ?_
      refine th_n ?_
      refine hK10 _ _ ?_
      clear hK10 K10
      refine wp_ret ?_
      refine ret_r1 rfl rfl ?_  -- r1
      have hkN : k = h.cells.length := by omega
      rw [hkN] at hq1 O1
      exact ⟨_, _, _, rfl, hq1, O1.oi.weak (fun i hi => by omega), G⟩

set_option maxHeartbeats 400000 in
set_option maxRecDepth 20000 in
theorem impl_SlideForward_c (Pr : Nat → Prop) (A B : Option Addr) (h : LH) (c d : Nat) (w : World) (hA : RC Pr w A h.cells) (hB : R1 Pr w B (ints h.roots)) (hz : hsize h ≤ 1048576) :
    Calls Try.prog 22 #[.agg #[.slice A h.cells.length c, .slice B h.roots.length d]] w (Ret fun v w' => ∃ A1 q cap, v = .slice A1 q cap ∧ q = (sfwdV h).length ∧ OI (fun i => w.heap.size ≤ i) w' 3 A1 (ints (sfwdV h)) ∧ Grow w w') := by
  have hz1 := hsize_cells h
  have hz2 := hsize_roots h
  refine enter Try.func22 rfl Try.ntmps22 (L := (_ :: _ :: _ :: _ :: _ :: _ :: _ :: _ :: _ :: _ :: _ :: _ :: [])) rfl ?_
  have G := Mod.refl No w
  have hA0 := hA
  have hB0 := hB
  refine wp_seq_k fun K1 hK1 => ?_
  refine wp_region_lit ?_  -- region 0 l16_sliding.go:24
  refine S_beg 12 rfl ?_
  refine S_box (cs := [_, _]) rfl rfl ?_
  intro b1 w1 fb1 g1 B1
  have lb1 := B1.lt
  replace hA := hA.grow g1
  replace hB := hB.grow g1
  replace G := G.grow g1
  have zg1 := g1.size
  refine S_val (Y_assign rfl) ?_
  refine S_nil (L' := (_ :: _ :: _ :: _ :: _ :: _ :: _ :: _ :: _ :: _ :: _ :: _ :: [])) rfl rfl ?_
  refine th_n ?_
  refine hK1 _ _ ?_
  clear hK1 K1
  refine wp_seq_k fun K2 hK2 => ?_
  refine wp_seq_k fun K3 hK3 => ?_
  refine wp_region_lit ?_  -- region 1 l16_sliding.go:25
  refine S_beg 12 rfl ?_
  refine S_val (Y_loadS Try.underlying33 rfl sz33 rfl (by first | assumption | exact B1.row (by rfl))) ?_  -- l1
  refine S_call rfl en63 (impl_HeapValid_c _ _ _ _ _ _ _ (by assumption) (by assumption) (by omega)) ?_  -- k1 impl.HeapValid
  rintro v2 w2 ⟨rfl, g2⟩
  replace hA := hA.grow g2
  replace hB := hB.grow g2
  replace G := G.grow g2
  replace B1 := B1.grow g2
  have zg2 := g2.size
  refine S_val (Y_not rfl) ?_
  refine S_nil (L' := (_ :: _ :: _ :: _ :: _ :: _ :: _ :: _ :: _ :: _ :: _ :: _ :: [])) rfl rfl ?_
  refine th_n ?_
  refine hK3 _ _ ?_
  clear hK3 K3
  refine S_if rfl (fun hb1 => ?_) (fun hb1 => ?_)  -- c1
  · -- c1T
    first | with_reducible (replace hb1 := nb_nt hb1) | with_reducible (replace hb1 := nb_nf hb1) | with_reducible (replace hb1 := nb_tt hb1) | with_reducible (replace hb1 := nb_tf hb1) | with_reducible (replace hb1 := nb_bt hb1) | with_reducible (replace hb1 := nb_bf hb1) | skip
    refine wp_seq_k fun K4 hK4 => ?_
    refine wp_region_lit ?_  -- region 2 l16_sliding.go:26
    refine S_beg 12 rfl ?_
    refine S_val (Y_assign rfl) ?_
    refine S_nil (L' := (_ :: _ :: _ :: _ :: _ :: _ :: _ :: _ :: _ :: _ :: _ :: _ :: [])) rfl rfl ?_
    refine th_n ?_
    refine hK4 _ _ ?_
    clear hK4 K4
    refine wp_ret ?_
    refine th_r ?_
    clear hK2 K2
    refine ret_r1 rfl rfl ?_  -- r1
    exact ⟨_, _, _, rfl, by rw [sfwdV_f hb1]; rfl, by rw [sfwdV_f hb1]; exact OI.nil _ _ _ _, G⟩
  · -- c1F
    first | with_reducible (replace hb1 := nb_nt hb1) | with_reducible (replace hb1 := nb_nf hb1) | with_reducible (replace hb1 := nb_tt hb1) | with_reducible (replace hb1 := nb_tf hb1) | with_reducible (replace hb1 := nb_bt hb1) | with_reducible (replace hb1 := nb_bf hb1) | skip
    have va := valid_iff.1 hb1
    have hl := va.leads
    have h40 := va.le
    have hr4 := va.roots4
    refine wp_skip ?_
    refine th_n ?_
    refine hK2 _ _ ?_
    clear hK2 K2
    refine wp_seq_k fun K5 hK5 => ?_
    refine D_start 7 12 (fun w => Mod (No) w) follows rfl rfl ?_  -- d1 region 3 l16_sliding.go:28
    intro w3 g3
    replace hA := hA.grow g3
    replace hB := hB.grow g3
    replace G := G.grow g3
    replace B1 := B1.grow g3
    have zg3 := g3.size
    have GS3 := Mod.refl (No) w3
    refine D_q (i := 0) rfl (by kernel_rfl) (fun _ _ _ h => h) GS3 (fun _ hs => Y_loadS Try.underlying33 rfl sz33 rfl (by first | exact hs.cells0 (by assumption) | exact hs.cells0 (B1.row (by rfl)))) ?_
    refine D_q (i := 2) rfl (by kernel_rfl) (fun _ _ _ h => h) GS3 (fun _ _ => Y_field Try.underlying33 rfl fz33_0 (by decide) rfl) ?_
    refine D_q (i := 3) rfl (by kernel_rfl) (fun _ _ _ h => h) GS3 (fun _ hs => Y_load Try.underlying31 rfl rfl (by first | exact hs.cell0 (by assumption) | exact hs.cell0 (B1.at (by rfl)))) ?_
    refine D_q (i := 4) rfl (by kernel_rfl) (fun _ _ _ h => h) GS3 (fun _ _ => Y_len Try.underlying31 rfl) ?_
    refine D_1 (i := 1) (by kernel_rfl) ?_
    refine E_call rfl rfl en73 (impl_slideOrder_c _ _ _ _ _ _ _ (by assumption) (by assumption) (by omega) (by assumption)) ?_  -- k2 impl.slideOrder
    rintro v4 w4 ⟨A4, q4, cap4, rfl, hq4, O4, g4⟩
    replace hA := hA.grow g4
    replace hB := hB.grow g4
    replace G := G.grow g4
    replace GS3 := GS3.grow g4
    replace B1 := B1.grow g4
    have zg4 := g4.size
    subst hq4
    replace O4 := O4.lt
    have hbn := (show Bnd h.cells.length (slideL h) from selL_bnd _ _)
    have hR4 := O4.r1
    refine ⟨GS3, ?_⟩
    refine D_1 (i := 5) (by kernel_rfl) ?_
    refine E_call rfl rfl en72 (impl_numbersIn_c _ _ _ _ _ _ (by assumption) hbn (by omega)) ?_  -- k3 impl.numbersIn
    rintro v5 w5 ⟨b5, rfl, fb5, B5, g5⟩
    replace hA := hA.grow g5
    replace hB := hB.grow g5
    replace O4 := O4.grow g5
    replace hR4 := hR4.grow g5
    replace G := G.grow g5
    replace GS3 := GS3.grow g5
    replace B1 := B1.grow g5
    have zg5 := g5.size
    have lb5 := B5.lt
    refine ⟨GS3, ?_⟩
    refine D_q (i := 6) rfl (by kernel_rfl) (fun _ _ _ h => h) GS3 (fun _ _ => Y_assign rfl) ?_
    refine D_end (L' := (_ :: _ :: _ :: _ :: _ :: _ :: _ :: _ :: _ :: _ :: _ :: _ :: [])) (by kernel_rfl) rfl rfl ?_
    refine th_n ?_
    refine hK5 _ _ ?_
    clear hK5 K5
    refine wp_ret ?_
    refine ret_r1 rfl rfl ?_  -- r2
    exact ⟨_, _, _, rfl, by rw [sfwdV_t hb1, namesL_len], by rw [sfwdV_t hb1]; exact OI.of_blk' (by assumption) (by omega), G⟩

set_option maxHeartbeats 400000 in
set_option maxRecDepth 20000 in
theorem spec_SlideForward_c (Pr : Nat → Prop) (A B : Option Addr) (h : LH) (c d : Nat) (w : World) (hA : RC Pr w A h.cells) (hB : R1 Pr w B (ints h.roots)) (hz : hsize h ≤ 1048576) :
    Calls Try.prog 20 #[.agg #[.slice A h.cells.length c, .slice B h.roots.length d]] w (Ret fun v w' => ∃ A1 q cap, v = .slice A1 q cap ∧ q = (sfwdV h).length ∧ OI (fun i => w.heap.size ≤ i) w' 3 A1 (ints (sfwdV h)) ∧ Grow w w') := by
  have hz1 := hsize_cells h
  have hz2 := hsize_roots h
  refine enter Try.func20 rfl Try.ntmps20 (L := (_ :: _ :: _ :: _ :: _ :: _ :: _ :: _ :: _ :: _ :: _ :: _ :: _ :: _ :: _ :: _ :: _ :: _ :: _ :: _ :: _ :: _ :: _ :: _ :: _ :: _ :: _ :: [])) rfl ?_
  have G := Mod.refl No w
  have hA0 := hA
  have hB0 := hB
  refine wp_seq_k fun K1 hK1 => ?_
  refine wp_region_lit ?_  -- region 0 l16_sliding.go:26
  refine S_beg 27 rfl ?_
  refine S_box (cs := [_, _]) rfl rfl ?_
  intro b1 w1 fb1 g1 B1
  have lb1 := B1.lt
  replace hA := hA.grow g1
  replace hB := hB.grow g1
  replace G := G.grow g1
  have zg1 := g1.size
  refine S_val (Y_assign rfl) ?_
  refine S_nil (L' := (_ :: _ :: _ :: _ :: _ :: _ :: _ :: _ :: _ :: _ :: _ :: _ :: _ :: _ :: _ :: _ :: _ :: _ :: _ :: _ :: _ :: _ :: _ :: _ :: _ :: _ :: _ :: [])) rfl rfl ?_
  refine th_n ?_
  refine hK1 _ _ ?_
  clear hK1 K1
  refine wp_seq_k fun K2 hK2 => ?_
  refine wp_region_lit ?_  -- region 1 l16_sliding.go:27
  refine S_beg 27 rfl ?_
  refine S_bs0 Try.underlying23 sz3 ?_
  intro b2 w2 fb2 g2 B2
  have lb2 := B2.lt
  replace hA := hA.grow g2
  replace hB := hB.grow g2
  replace G := G.grow g2
  replace B1 := B1.grow g2
  have zg2 := g2.size
  refine S_val (Y_assign rfl) ?_
  refine S_nil (L' := (_ :: _ :: _ :: _ :: _ :: _ :: _ :: _ :: _ :: _ :: _ :: _ :: _ :: _ :: _ :: _ :: _ :: _ :: _ :: _ :: _ :: _ :: _ :: _ :: _ :: _ :: _ :: [])) rfl rfl ?_
  refine th_n ?_
  refine hK2 _ _ ?_
  clear hK2 K2
  refine wp_seq_k fun K3 hK3 => ?_
  refine wp_seq_k fun K4 hK4 => ?_
  refine wp_region_lit ?_  -- region 2 l16_sliding.go:28
  refine S_beg 27 rfl ?_
  refine S_val (Y_loadS Try.underlying33 rfl sz33 rfl (by first | assumption | exact B1.row (by rfl) | exact B2.row (by rfl))) ?_  -- l1
  refine S_call rfl en60 (spec_HeapValid_c _ _ _ _ _ _ _ (by assumption) (by assumption) (by omega)) ?_  -- k1 spec.HeapValid
  rintro v3 w3 ⟨rfl, g3⟩
  replace hA := hA.grow g3
  replace hB := hB.grow g3
  replace G := G.grow g3
  replace B1 := B1.grow g3
  replace B2 := B2.grow g3
  have zg3 := g3.size
  refine S_val (Y_not rfl) ?_
  refine S_nil (L' := (_ :: _ :: _ :: _ :: _ :: _ :: _ :: _ :: _ :: _ :: _ :: _ :: _ :: _ :: _ :: _ :: _ :: _ :: _ :: _ :: _ :: _ :: _ :: _ :: _ :: _ :: _ :: [])) rfl rfl ?_
  refine th_n ?_
  refine hK4 _ _ ?_
  clear hK4 K4
  refine S_if rfl (fun hb1 => ?_) (fun hb1 => ?_)  -- c1
  · -- c1T
    first | with_reducible (replace hb1 := nb_nt hb1) | with_reducible (replace hb1 := nb_nf hb1) | with_reducible (replace hb1 := nb_tt hb1) | with_reducible (replace hb1 := nb_tf hb1) | with_reducible (replace hb1 := nb_bt hb1) | with_reducible (replace hb1 := nb_bf hb1) | skip
    refine wp_seq_k fun K5 hK5 => ?_
    refine wp_region_lit ?_  -- region 3 l16_sliding.go:29
    refine S_beg 27 rfl ?_
    refine S_val (Y_move rfl) ?_
    refine S_val (Y_assign rfl) ?_
    refine S_nil (L' := (_ :: _ :: _ :: _ :: _ :: _ :: _ :: _ :: _ :: _ :: _ :: _ :: _ :: _ :: _ :: _ :: _ :: _ :: _ :: _ :: _ :: _ :: _ :: _ :: _ :: _ :: _ :: [])) rfl rfl ?_
    refine th_n ?_
    refine hK5 _ _ ?_
    clear hK5 K5
    refine wp_ret ?_
    refine th_r ?_
    clear hK3 K3
    refine ret_r1 rfl rfl ?_  -- r1
    exact ⟨_, _, _, rfl, by rw [sfwdV_f hb1]; rfl, by rw [sfwdV_f hb1]; exact OI.nil _ _ _ _, G⟩
  · -- c1F
    first | with_reducible (replace hb1 := nb_nt hb1) | with_reducible (replace hb1 := nb_nf hb1) | with_reducible (replace hb1 := nb_tt hb1) | with_reducible (replace hb1 := nb_tf hb1) | with_reducible (replace hb1 := nb_bt hb1) | with_reducible (replace hb1 := nb_bf hb1) | skip
    have va := valid_iff.1 hb1
    have hl := va.leads
    have h40 := va.le
    have hr4 := va.roots4
    refine wp_skip ?_
    refine th_n ?_
    refine hK3 _ _ ?_
    clear hK3 K3
    refine wp_seq_k fun K6 hK6 => ?_
    refine wp_region_lit ?_  -- region 4 l16_sliding.go:31
    refine S_beg 27 rfl ?_
    refine S_val (Y_loadS Try.underlying33 rfl sz33 rfl (by first | assumption | exact B1.row (by rfl) | exact B2.row (by rfl))) ?_  -- l2
    refine S_call rfl en69 (spec_l16Order_c _ _ _ _ _ _ _ (by assumption) (by assumption) (by omega) (by assumption)) ?_  -- k2 spec.l16Order
    rintro v4 w4 ⟨A4, q4, cap4, rfl, hq4, O4, g4⟩
    replace hA := hA.grow g4
    replace hB := hB.grow g4
    replace G := G.grow g4
    replace B1 := B1.grow g4
    replace B2 := B2.grow g4
    have zg4 := g4.size
    subst hq4
    replace O4 := O4.lt
    have hbn := (show Bnd h.cells.length (slideL h) from selL_bnd _ _)
    have hol := hbn.len
    have hR4 := O4.r1
    refine S_val (Y_assign rfl) ?_
    refine S_nil (L' := (_ :: _ :: _ :: _ :: _ :: _ :: _ :: _ :: _ :: _ :: _ :: _ :: _ :: _ :: _ :: _ :: _ :: _ :: _ :: _ :: _ :: _ :: _ :: _ :: _ :: _ :: _ :: [])) rfl rfl ?_
    refine th_n ?_
    refine hK6 _ _ ?_
    clear hK6 K6
    refine wp_seq_k fun K7 hK7 => ?_
    refine wp_seq_k fun K8 hK8 => ?_
    refine wp_region_lit ?_  -- region 5 l16_sliding.go:32
    refine S_beg 27 rfl ?_
    refine S_val (Y_assign rfl) ?_
    refine S_nil (L' := (_ :: _ :: _ :: _ :: _ :: _ :: _ :: _ :: _ :: _ :: _ :: _ :: _ :: _ :: _ :: _ :: _ :: _ :: _ :: _ :: _ :: _ :: _ :: _ :: _ :: _ :: _ :: [])) rfl rfl ?_
    refine th_n ?_
    refine hK8 _ _ ?_
    clear hK8 K8
    refine wp_block ?_
    obtain ⟨wz, hwz⟩ : ∃ x, x = w4.heap.size := ⟨_, rfl⟩
    have O1 : OW (fun i => i = b2 ∨ wz ≤ i) w4 3 1 (some ⟨b2, 0, none⟩) 0 0 (ints []) := OW.of_blk B2 rfl (by decide) (.inl rfl)
    go_loopw [3, 5] (fun u3 u5 wr => (∃ (k q cap : Nat) (A1 : Option Addr), u5 = .int .i64 k ∧ u3 = .slice A1 q cap ∧ k ≤ h.cells.length ∧ q = (namesL k (slideL h)).length ∧ OW (fun i => i = b2 ∨ wz ≤ i) wr 3 1 A1 q cap (ints (namesL k (slideL h)))) ∧ Mod (fun i => i = b2 ∨ wz ≤ i) w4 wr) (fun u3 u5 wr => h.cells.length - (intOf u5).toNat)  -- L1
    case atStart =>
      refine ⟨?_, Mod.refl _ _⟩
      exact ⟨0, 0, 0, _, rfl, rfl, by omega, rfl, O1⟩
    case round =>
      obtain ⟨w5, rfl⟩ : ∃ x : World, x = wr := ⟨_, rfl⟩
      obtain ⟨hrel, g5⟩ := hrel
      clear O1
      replace G := G.above g5 (by intro i h; first | omega | (dsimp only at h; omega))
      replace hA := hA0.grow G
      replace hB := hB0.grow G
      replace O4 := O4.mod g5 (by intro k hk h; first | omega | (dsimp only at hk h; omega) | (dsimp only at hk; omega))
      replace hR4 := hR4.mod g5 (by intro k hk h; first | omega | (dsimp only at hk h; omega) | (dsimp only at hk; omega))
      replace B1 := B1.mod g5 (by intro h; first | omega | (dsimp only at h; omega))
      have zg5 := g5.size
      obtain ⟨k, q1, cap1, A1, rfl, rfl, hk, hq1, O1⟩ := hrel
      have hnl := namesL_len k (slideL h)
      have GL5 := g5
      refine wp_seq_k fun K9 hK9 => ?_
      refine wp_seq_k fun K10 hK10 => ?_
      refine wp_region_lit ?_  -- region 6 l16_sliding.go:32
      refine S_beg 27 rfl ?_
      refine S_val (Y_move rfl) ?_
      refine S_val (Y_field Try.underlying33 rfl fz33_0 (by decide) rfl) ?_
      refine S_val (Y_load Try.underlying31 rfl rfl (by first | assumption | exact B1.at (by rfl))) ?_  -- l3
      refine S_val (Y_len Try.underlying31 rfl) ?_
      refine S_val (Y_lss rfl rfl) ?_
      refine S_nil (L' := (_ :: _ :: _ :: _ :: _ :: _ :: _ :: _ :: _ :: _ :: _ :: _ :: _ :: _ :: _ :: _ :: _ :: _ :: _ :: _ :: _ :: _ :: _ :: _ :: _ :: _ :: _ :: [])) rfl rfl ?_
      refine th_n ?_
      refine hK10 _ _ ?_
      clear hK10 K10
      refine S_if rfl (fun hb2 => ?_) (fun hb2 => ?_)  -- c2
      · -- c2T
        first | with_reducible (replace hb2 := nb_nt hb2) | with_reducible (replace hb2 := nb_nf hb2) | with_reducible (replace hb2 := nb_tt hb2) | with_reducible (replace hb2 := nb_tf hb2) | with_reducible (replace hb2 := nb_bt hb2) | with_reducible (replace hb2 := nb_bf hb2) | skip
        have hk1 : k < h.cells.length := by omega
        refine wp_skip ?_
        refine th_n ?_
        refine hK9 _ _ ?_
        clear hK9 K9
        refine wp_seq_k fun K11 hK11 => ?_
        refine wp_block ?_
        refine wp_region_lit ?_  -- region 8 l16_sliding.go:33
        refine S_beg 27 rfl ?_
        refine S_val (Y_move rfl) ?_
        refine S_val (Y_move rfl) ?_
        refine S_val (Y_move rfl) ?_
        refine S_call rfl en70 (spec_l9Name_c _ _ _ _ _ _ (by assumption) (by omega)) ?_  -- k3 spec.l9Name
        rintro v6 w6 ⟨rfl, g6⟩
        replace hA := hA.grow g6
        replace hB := hB.grow g6
        replace O4 := O4.grow g6
        replace hR4 := hR4.grow g6
        replace O1 := O1.grow g6
        replace G := G.grow g6
        replace GL5 := GL5.grow g6
        replace B1 := B1.grow g6
        have zg6 := g6.size
        refine S_bs1 (cs := [_]) Try.underlying23 zr3 sz3 rfl rfl rfl ?_
        intro b7 w7 fb7 g7 B7
        have lb7 := B7.lt
        replace hA := hA.grow g7
        replace hB := hB.grow g7
        replace O4 := O4.grow g7
        replace hR4 := hR4.grow g7
        replace O1 := O1.grow g7
        replace G := G.grow g7
        replace GL5 := GL5.grow g7
        replace B1 := B1.grow g7
        have zg7 := g7.size
        refine S_app Try.underlying23 zr3 sz3 by3 rfl rfl O1 rfl (Src.blk B7) (by simp [Value.oneCell']) (by omega) (Pr' := fun i => i = b2 ∨ wz ≤ i) (fun i hi => hi) (by omega) ?_
        intro A8 cap8 w8 X8 m8
        replace O1 := X8
        rw [ints_app] at O1
        clear X8
        replace G := G.above m8 (by intro i h; first | omega | (dsimp only at h; omega))
        replace GL5 := Mod.trans' GL5 m8 (fun _ h _ => h) (fun i h _ => by first | exact h | omega | (dsimp only at h ⊢; omega) | (subst h; rfl) | (subst h; exact ⟨by omega, rfl⟩))
        replace hA := hA0.grow G
        replace hB := hB0.grow G
        replace O4 := O4.mod m8 (by intro k hk h; first | omega | (dsimp only at hk h; omega) | (dsimp only at hk; omega))
        replace hR4 := hR4.mod m8 (by intro k hk h; first | omega | (dsimp only at hk h; omega) | (dsimp only at hk; omega))
        replace B1 := B1.mod m8 (by intro h; first | omega | (dsimp only at h; omega))
        have zm8 := m8.size
        refine S_val (Y_assign rfl) ?_
        refine S_nil (L' := (_ :: _ :: _ :: _ :: _ :: _ :: _ :: _ :: _ :: _ :: _ :: _ :: _ :: _ :: _ :: _ :: _ :: _ :: _ :: _ :: _ :: _ :: _ :: _ :: _ :: _ :: _ :: [])) rfl rfl ?_
        refine ib_n ?_
        refine th_n ?_
        refine hK11 _ _ ?_
        clear hK11 K11
        refine wp_region_lit ?_  -- region 7 l16_sliding.go:32
        refine S_beg 27 rfl ?_
        refine S_val (Y_move rfl) ?_
        refine S_val (Y_inc rfl rfl (by omega)) ?_
        refine S_val (Y_assign rfl) ?_
        refine S_nil (L' := (_ :: _ :: _ :: _ :: _ :: _ :: _ :: _ :: _ :: _ :: _ :: _ :: _ :: _ :: _ :: _ :: _ :: _ :: _ :: _ :: _ :: _ :: _ :: _ :: _ :: _ :: _ :: [])) rfl rfl ?_
        refine th_n ?_
        go_roundw  -- e1 of L1
        case rel =>
          refine ⟨?_, GL5⟩
          exact ⟨k + 1, _, _, _, rfl, rfl, by omega, by rw [namesL_len]; omega, by rw [namesL_succ]; exact O1⟩
        case measure =>
          exact dec_nat (by omega)
      · -- c2F
        first | with_reducible (replace hb2 := nb_nt hb2) | with_reducible (replace hb2 := nb_nf hb2) | with_reducible (replace hb2 := nb_tt hb2) | with_reducible (replace hb2 := nb_tf hb2) | with_reducible (replace hb2 := nb_bt hb2) | with_reducible (replace hb2 := nb_bf hb2) | skip
        refine wp_exit ?_
        refine th_x ?_
        clear GL5
        refine th_x ?_
        refine ib_e ?_
        refine th_n ?_
        refine hK7 _ _ ?_
        clear hK9 K9 hK7 K7
        refine wp_seq_k fun K12 hK12 => ?_
        refine wp_region_lit ?_  -- region 9 l16_sliding.go:35
        refine S_beg 27 rfl ?_
        refine S_val (Y_move rfl) ?_
        refine S_val (Y_assign rfl) ?_
        refine S_nil (L' := (_ :: _ :: _ :: _ :: _ :: _ :: _ :: _ :: _ :: _ :: _ :: _ :: _ :: _ :: _ :: _ :: _ :: _ :: _ :: _ :: _ :: _ :: _ :: _ :: _ :: _ :: _ :: [])) rfl rfl ?_
        refine th_n ?_
        refine hK12 _ _ ?_
        clear hK12 K12
        refine wp_ret ?_
        refine ret_r1 rfl rfl ?_  -- r2
        have hkN : k = h.cells.length := by omega
        rw [hkN] at hq1 O1
        exact ⟨_, _, _, rfl, by rw [sfwdV_t hb1]; exact hq1, by rw [sfwdV_t hb1]; exact O1.oi.weak (fun i hi => by omega), G⟩

end Go.Proofs.Ytdfifnplgbceaab
