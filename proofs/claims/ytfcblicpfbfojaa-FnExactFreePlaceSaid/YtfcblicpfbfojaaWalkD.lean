/-
  Walks: the first free place.
  Conditions: those that each theorem states.
-/
import Derived.Test.YtfcblicpfbfojaaTy
import Derived.Test.YtfcblicpfbfojaaWalkC
import Derived.Test.YtfcblicpfbfojaaPla
namespace Go.Proofs.Ytfcblicpfbfojaa
open Go Go.RowKit
attribute [local irreducible] wpList wpAnyH Code.wp dOp

set_option maxHeartbeats 400000 in
set_option maxRecDepth 20000 in
theorem spec_l10Place_c (Pr : Nat → Prop) (A B : Option Addr) (h : LH) (c d : Nat) (w : World) (hA : RC Pr w A h.cells) (hn : h.cells.length ≤ 1048576) :
    Calls Try.prog 84 #[.agg #[.slice A h.cells.length c, .slice B h.roots.length d]] w (Ret fun v w' => v = .int .i64 ((placeN h.cells : Nat) : Int) ∧ Grow w w') := by
  refine enter Try.func84 rfl Try.ntmps84 (L := (_ :: _ :: _ :: _ :: _ :: _ :: _ :: _ :: _ :: _ :: _ :: _ :: _ :: _ :: _ :: _ :: _ :: _ :: _ :: _ :: _ :: _ :: [])) rfl ?_
  have G := Mod.refl No w
  have hA0 := hA
  refine wp_seq_k fun K1 hK1 => ?_
  refine wp_region_lit ?_  -- region 0 l10_counting.go:38
  refine S_beg 22 rfl ?_
  refine S_box (cs := [_, _]) rfl rfl ?_
  intro b1 w1 fb1 g1 B1
  have lb1 := B1.lt
  replace hA := hA.grow g1
  replace G := G.grow g1
  have zg1 := g1.size
  refine S_val (Y_assign rfl) ?_
  refine S_nil (L' := (_ :: _ :: _ :: _ :: _ :: _ :: _ :: _ :: _ :: _ :: _ :: _ :: _ :: _ :: _ :: _ :: _ :: _ :: _ :: _ :: _ :: _ :: [])) rfl rfl ?_
  refine th_n ?_
  refine hK1 _ _ ?_
  clear hK1 K1
  refine wp_seq_k fun K2 hK2 => ?_
  refine wp_seq_k fun K3 hK3 => ?_
  refine wp_region_lit ?_  -- region 1 l10_counting.go:39
  refine S_beg 22 rfl ?_
  refine S_val (Y_assign rfl) ?_
  refine S_nil (L' := (_ :: _ :: _ :: _ :: _ :: _ :: _ :: _ :: _ :: _ :: _ :: _ :: _ :: _ :: _ :: _ :: _ :: _ :: _ :: _ :: _ :: _ :: [])) rfl rfl ?_
  refine th_n ?_
  refine hK3 _ _ ?_
  clear hK3 K3
  refine wp_block ?_
  go_loopw [3] (fun u3 wr => (∃ k : Nat, u3 = .int .i64 k ∧ k ≤ h.cells.length ∧ (h.cells.take k).all (·.used) = true) ∧ Mod No w1 wr) (fun u3 _ => h.cells.length - (intOf u3).toNat)  -- L1
  case atStart =>
    refine ⟨?_, Mod.refl _ _⟩
    exact ⟨0, rfl, by omega, by simp⟩
  case round =>
    obtain ⟨w2, rfl⟩ : ∃ x : World, x = wr := ⟨_, rfl⟩
    obtain ⟨hrel, g2⟩ := hrel
    replace hA := hA.grow g2
    replace G := G.grow g2
    replace B1 := B1.grow g2
    have zg2 := g2.size
    obtain ⟨k, rfl, hk, hs⟩ := hrel
    have GL2 := g2
    refine wp_seq_k fun K4 hK4 => ?_
    refine wp_seq_k fun K5 hK5 => ?_
    refine wp_region_lit ?_  -- region 2 l10_counting.go:39
    refine S_beg 22 rfl ?_
    refine S_val (Y_move rfl) ?_
    refine S_val (Y_field Try.underlying31 rfl fz31_0 (by decide) rfl) ?_
    refine S_val (Y_load Try.underlying28 rfl rfl (by first | assumption | exact B1.at (by rfl))) ?_
    refine S_val (Y_len Try.underlying28 rfl) ?_
    refine S_val (Y_lss rfl rfl) ?_
    refine S_nil (L' := (_ :: _ :: _ :: _ :: _ :: _ :: _ :: _ :: _ :: _ :: _ :: _ :: _ :: _ :: _ :: _ :: _ :: _ :: _ :: _ :: _ :: _ :: [])) rfl rfl ?_
    refine th_n ?_
    refine hK5 _ _ ?_
    clear hK5 K5
    refine S_if rfl (fun hb1 => ?_) (fun hb1 => ?_)  -- c1
    · -- c1T
      first | with_reducible (replace hb1 := nb_nt hb1) | with_reducible (replace hb1 := nb_nf hb1) | with_reducible (replace hb1 := nb_tt hb1) | with_reducible (replace hb1 := nb_tf hb1) | with_reducible (replace hb1 := nb_bt hb1) | with_reducible (replace hb1 := nb_bf hb1) | skip
      have hk2 : k < h.cells.length := by omega
      obtain ⟨g2, o2, E2, d2, rfl, hp2, cc20, _⟩ := hA0.cell hk2
      have cc2 := cc20.grow G
      refine wp_skip ?_
      refine th_n ?_
      refine hK4 _ _ ?_
      clear hK4 K4
      refine wp_seq_k fun K6 hK6 => ?_
      refine wp_block ?_
      refine wp_seq_k fun K7 hK7 => ?_
      refine wp_region_lit ?_  -- region 4 l10_counting.go:40
      refine S_beg 22 rfl ?_
      refine S_val (Y_field Try.underlying31 rfl fz31_0 (by decide) rfl) ?_
      refine S_val (Y_load Try.underlying28 rfl rfl (by first | assumption | exact B1.at (by rfl) | exact cc2.at (by rfl))) ?_
      refine S_val (Y_move rfl) ?_
      refine S_val (Y_index Try.underlying28 sz90 rfl rfl (by first | assumption | omega)) ?_
      refine S_val (Y_field Try.underlying90 rfl fz90_0 (by decide) rfl) ?_
      refine S_val (Y_load Try.underlying4 rfl rfl (by first | assumption | exact B1.at (by rfl) | exact cc2.at (by rfl))) ?_
      refine S_val (Y_not rfl) ?_
      refine S_nil (L' := (_ :: _ :: _ :: _ :: _ :: _ :: _ :: _ :: _ :: _ :: _ :: _ :: _ :: _ :: _ :: _ :: _ :: _ :: _ :: _ :: _ :: _ :: [])) rfl rfl ?_
      refine th_n ?_
      refine hK7 _ _ ?_
      clear hK7 K7
      refine S_if rfl (fun hb2 => ?_) (fun hb2 => ?_)  -- c2
      · -- c2T
        first | with_reducible (replace hb2 := nb_nt hb2) | with_reducible (replace hb2 := nb_nf hb2) | with_reducible (replace hb2 := nb_tt hb2) | with_reducible (replace hb2 := nb_tf hb2) | with_reducible (replace hb2 := nb_bt hb2) | with_reducible (replace hb2 := nb_bf hb2) | skip
        refine wp_seq_k fun K8 hK8 => ?_
        refine wp_region_lit ?_  -- region 5 l10_counting.go:41
        refine S_beg 22 rfl ?_
        refine S_val (Y_move rfl) ?_
        refine S_val (Y_assign rfl) ?_
        refine S_nil (L' := (_ :: _ :: _ :: _ :: _ :: _ :: _ :: _ :: _ :: _ :: _ :: _ :: _ :: _ :: _ :: _ :: _ :: _ :: _ :: _ :: _ :: _ :: [])) rfl rfl ?_
        refine th_n ?_
        refine hK8 _ _ ?_
        clear hK8 K8
        refine wp_ret ?_
        refine ib_r ?_
        refine th_r ?_
        refine th_r ?_
        refine ib_r ?_
        refine th_r ?_
        clear hK6 K6 hK2 K2
        refine ret_r1 rfl rfl ?_  -- r1
        exact ⟨by rw [place_at hk2 hs hb2], G⟩
      · -- c2F
        first | with_reducible (replace hb2 := nb_nt hb2) | with_reducible (replace hb2 := nb_nf hb2) | with_reducible (replace hb2 := nb_tt hb2) | with_reducible (replace hb2 := nb_tf hb2) | with_reducible (replace hb2 := nb_bt hb2) | with_reducible (replace hb2 := nb_bf hb2) | skip
        refine wp_skip ?_
        refine ib_n ?_
        refine th_n ?_
        refine hK6 _ _ ?_
        clear hK6 K6
        refine wp_region_lit ?_  -- region 3 l10_counting.go:39
        refine S_beg 22 rfl ?_
        refine S_val (Y_move rfl) ?_
        refine S_val (Y_inc rfl rfl (by omega)) ?_
        refine S_val (Y_assign rfl) ?_
        refine S_nil (L' := (_ :: _ :: _ :: _ :: _ :: _ :: _ :: _ :: _ :: _ :: _ :: _ :: _ :: _ :: _ :: _ :: _ :: _ :: _ :: _ :: _ :: _ :: [])) rfl rfl ?_
        refine th_n ?_
        go_roundw  -- e1 of L1
        case rel =>
          refine ⟨?_, GL2⟩
          exact ⟨k + 1, rfl, by omega, all_take_succ (by omega) hs hb2⟩
        case measure =>
          exact dec_nat (by omega)
    · -- c1F
      first | with_reducible (replace hb1 := nb_nt hb1) | with_reducible (replace hb1 := nb_nf hb1) | with_reducible (replace hb1 := nb_tt hb1) | with_reducible (replace hb1 := nb_tf hb1) | with_reducible (replace hb1 := nb_bt hb1) | with_reducible (replace hb1 := nb_bf hb1) | skip
      refine wp_exit ?_
      refine th_x ?_
      refine th_x ?_
      refine ib_e ?_
      refine th_n ?_
      refine hK2 _ _ ?_
      clear hK4 K4 hK2 K2
      refine wp_seq_k fun K9 hK9 => ?_
      refine wp_region_lit ?_  -- region 6 l10_counting.go:44
      refine S_beg 22 rfl ?_
      refine S_val (Y_field Try.underlying31 rfl fz31_0 (by decide) rfl) ?_
      refine S_val (Y_load Try.underlying28 rfl rfl (by first | assumption | exact B1.at (by rfl))) ?_
      refine S_val (Y_len Try.underlying28 rfl) ?_
      refine S_val (Y_assign rfl) ?_
      refine S_nil (L' := (_ :: _ :: _ :: _ :: _ :: _ :: _ :: _ :: _ :: _ :: _ :: _ :: _ :: _ :: _ :: _ :: _ :: _ :: _ :: _ :: _ :: _ :: [])) rfl rfl ?_
      refine th_n ?_
      refine hK9 _ _ ?_
      clear hK9 K9
      refine wp_ret ?_
      refine ret_r1 rfl rfl ?_  -- r2
      exact ⟨by rw [place_end (all_of_take (by omega) hs)], G⟩

set_option maxHeartbeats 400000 in
set_option maxRecDepth 20000 in
theorem impl_freePlace_c (Pr : Nat → Prop) (A B : Option Addr) (h : LH) (c d : Nat) (w : World) (hA : RC Pr w A h.cells) (hn : h.cells.length ≤ 1048576) :
    Calls Try.prog 85 #[.agg #[.slice A h.cells.length c, .slice B h.roots.length d]] w (Ret fun v w' => v = .int .i64 ((placeN h.cells : Nat) : Int) ∧ Grow w w') := by
  refine enter Try.func85 rfl Try.ntmps85 (L := (_ :: _ :: _ :: _ :: _ :: _ :: _ :: _ :: _ :: _ :: _ :: _ :: _ :: _ :: _ :: _ :: _ :: _ :: _ :: _ :: _ :: [])) rfl ?_
  have G := Mod.refl No w
  have hA0 := hA
  refine wp_seq_k fun K1 hK1 => ?_
  refine wp_region_lit ?_  -- region 0 l10_counting.go:47
  refine S_beg 21 rfl ?_
  refine S_box (cs := [_, _]) rfl rfl ?_
  intro b1 w1 fb1 g1 B1
  have lb1 := B1.lt
  replace hA := hA.grow g1
  replace G := G.grow g1
  have zg1 := g1.size
  refine S_val (Y_assign rfl) ?_
  refine S_nil (L' := (_ :: _ :: _ :: _ :: _ :: _ :: _ :: _ :: _ :: _ :: _ :: _ :: _ :: _ :: _ :: _ :: _ :: _ :: _ :: _ :: _ :: [])) rfl rfl ?_
  refine th_n ?_
  refine hK1 _ _ ?_
  clear hK1 K1
  refine wp_seq_k fun K2 hK2 => ?_
  refine wp_seq_k fun K3 hK3 => ?_
  refine wp_region_lit ?_  -- region 1 l10_counting.go:48
  refine S_beg 21 rfl ?_
  refine S_val (Y_field Try.underlying31 rfl fz31_0 (by decide) rfl) ?_
  refine S_val (Y_load Try.underlying28 rfl rfl (by first | assumption | exact B1.at (by rfl))) ?_
  refine S_val (Y_len Try.underlying28 rfl) ?_
  refine S_val (Y_move rfl) ?_
  refine S_nil (L' := (_ :: _ :: _ :: _ :: _ :: _ :: _ :: _ :: _ :: _ :: _ :: _ :: _ :: _ :: _ :: _ :: _ :: _ :: _ :: _ :: _ :: [])) rfl rfl ?_
  refine th_n ?_
  refine hK3 _ _ ?_
  clear hK3 K3
  refine wp_block ?_
  go_loopw [8] (fun u8 wr => (∃ k : Nat, u8 = .int .i64 k ∧ k ≤ h.cells.length ∧ (h.cells.take k).all (·.used) = true) ∧ Mod No w1 wr) (fun u8 _ => h.cells.length - (intOf u8).toNat)  -- L1
  case atStart =>
    refine ⟨?_, Mod.refl _ _⟩
    exact ⟨0, rfl, by omega, by simp⟩
  case round =>
    obtain ⟨w2, rfl⟩ : ∃ x : World, x = wr := ⟨_, rfl⟩
    obtain ⟨hrel, g2⟩ := hrel
    replace hA := hA.grow g2
    replace G := G.grow g2
    replace B1 := B1.grow g2
    have zg2 := g2.size
    obtain ⟨k, rfl, hk, hs⟩ := hrel
    have GL2 := g2
    refine wp_seq_k fun K4 hK4 => ?_
    refine wp_region_lit ?_  -- region 2 l10_counting.go:48
    refine S_beg 21 rfl ?_
    refine S_val (Y_lss rfl rfl) ?_
    refine S_nil (L' := (_ :: _ :: _ :: _ :: _ :: _ :: _ :: _ :: _ :: _ :: _ :: _ :: _ :: _ :: _ :: _ :: _ :: _ :: _ :: _ :: _ :: [])) rfl rfl ?_
    refine th_n ?_
    refine hK4 _ _ ?_
    clear hK4 K4
    refine wp_seq_k fun K5 hK5 => ?_
    refine S_if rfl (fun hb1 => ?_) (fun hb1 => ?_)  -- c1
    · -- c1T
      first | with_reducible (replace hb1 := nb_nt hb1) | with_reducible (replace hb1 := nb_nf hb1) | with_reducible (replace hb1 := nb_tt hb1) | with_reducible (replace hb1 := nb_tf hb1) | with_reducible (replace hb1 := nb_bt hb1) | with_reducible (replace hb1 := nb_bf hb1) | skip
      have hk2 : k < h.cells.length := by omega
      obtain ⟨g2, o2, E2, d2, rfl, hp2, cc20, _⟩ := hA0.cell hk2
      have cc2 := cc20.grow G
      refine wp_skip ?_
      refine th_n ?_
      refine hK5 _ _ ?_
      clear hK5 K5
      refine wp_seq_k fun K6 hK6 => ?_
      refine wp_block ?_
      refine wp_seq_k fun K7 hK7 => ?_
      refine wp_region_lit ?_  -- region 3 l10_counting.go:48
      refine S_beg 21 rfl ?_
      refine S_val (Y_move rfl) ?_
      refine S_val (Y_index Try.underlying28 sz90 rfl rfl (by first | assumption | omega)) ?_
      refine S_val (Y_loadS Try.underlying90 rfl sz90 rfl (by first | assumption | exact B1.row (by rfl))) ?_
      refine S_alloc (cs := [_, _, _]) zr90 rfl ?_
      intro b3 w3 fb3 g3 B3
      have lb3 := B3.lt
      replace hA := hA.grow g3
      replace cc2 := cc2.grow g3
      replace G := G.grow g3
      replace GL2 := GL2.grow g3
      replace B1 := B1.grow g3
      have zg3 := g3.size
      refine S_val (Y_assign rfl) ?_
      refine S_stM (pre := []) (old := [_, _, _]) (post := []) (vs := [_, _, _]) sz90 rfl rfl rfl rfl B3 rfl rfl ?_
      intro w4 m4 X4
      replace B3 := Blk.eq (ys := [_, _, _]) X4 rfl
      clear X4
      replace G := G.above m4 (by intro i h; first | omega | (dsimp only at h; omega))
      replace GL2 := GL2.above m4 (by intro i h; first | omega | (dsimp only at h; omega))
      replace hA := hA0.grow G
      replace cc2 := cc20.grow G
      replace B1 := B1.mod m4 (by intro h; first | omega | (dsimp only at h; omega))
      have zm4 := m4.size
      refine S_nil (L' := (_ :: _ :: _ :: _ :: _ :: _ :: _ :: _ :: _ :: _ :: _ :: _ :: _ :: _ :: _ :: _ :: _ :: _ :: _ :: _ :: _ :: [])) rfl rfl ?_
      refine th_n ?_
      refine hK7 _ _ ?_
      clear hK7 K7
      refine wp_seq_k fun K8 hK8 => ?_
      refine wp_region_lit ?_  -- region 4 l10_counting.go:49
      refine S_beg 21 rfl ?_
      refine S_val (Y_field Try.underlying90 rfl fz90_0 (by decide) rfl) ?_
      refine S_val (Y_load Try.underlying4 rfl rfl (by first | assumption | exact B1.at (by rfl) | exact B3.at (by rfl) | exact cc2.at (by rfl))) ?_
      refine S_val (Y_not rfl) ?_
      refine S_nil (L' := (_ :: _ :: _ :: _ :: _ :: _ :: _ :: _ :: _ :: _ :: _ :: _ :: _ :: _ :: _ :: _ :: _ :: _ :: _ :: _ :: _ :: [])) rfl rfl ?_
      refine th_n ?_
      refine hK8 _ _ ?_
      clear hK8 K8
      refine S_if rfl (fun hb2 => ?_) (fun hb2 => ?_)  -- c2
      · -- c2T
        first | with_reducible (replace hb2 := nb_nt hb2) | with_reducible (replace hb2 := nb_nf hb2) | with_reducible (replace hb2 := nb_tt hb2) | with_reducible (replace hb2 := nb_tf hb2) | with_reducible (replace hb2 := nb_bt hb2) | with_reducible (replace hb2 := nb_bf hb2) | skip
        refine wp_seq_k fun K9 hK9 => ?_
        refine wp_region_lit ?_  -- region 5 l10_counting.go:50
        refine S_beg 21 rfl ?_
        refine S_val (Y_move rfl) ?_
        refine S_val (Y_assign rfl) ?_
        refine S_nil (L' := (_ :: _ :: _ :: _ :: _ :: _ :: _ :: _ :: _ :: _ :: _ :: _ :: _ :: _ :: _ :: _ :: _ :: _ :: _ :: _ :: _ :: [])) rfl rfl ?_
        refine th_n ?_
        refine hK9 _ _ ?_
        clear hK9 K9
        refine wp_ret ?_
        refine ib_r ?_
        refine th_r ?_
        refine th_r ?_
        refine ib_r ?_
        refine th_r ?_
        clear hK6 K6 hK2 K2
        refine ret_r1 rfl rfl ?_  -- r1
        exact ⟨by rw [place_at hk2 hs hb2], G⟩
      · -- c2F
        first | with_reducible (replace hb2 := nb_nt hb2) | with_reducible (replace hb2 := nb_nf hb2) | with_reducible (replace hb2 := nb_tt hb2) | with_reducible (replace hb2 := nb_tf hb2) | with_reducible (replace hb2 := nb_bt hb2) | with_reducible (replace hb2 := nb_bf hb2) | skip
        refine wp_skip ?_
        refine ib_n ?_
        refine th_n ?_
        refine hK6 _ _ ?_
        clear hK6 K6
        refine wp_region_lit ?_  -- region 6 l10_counting.go:48
        refine S_beg 21 rfl ?_
        refine S_val (Y_inc rfl rfl (by omega)) ?_
        refine S_val (Y_move rfl) ?_
        refine S_nil (L' := (_ :: _ :: _ :: _ :: _ :: _ :: _ :: _ :: _ :: _ :: _ :: _ :: _ :: _ :: _ :: _ :: _ :: _ :: _ :: _ :: _ :: [])) rfl rfl ?_
        refine th_n ?_
        go_roundw  -- e1 of L1
        case rel =>
          refine ⟨?_, GL2⟩
          exact ⟨k + 1, rfl, by omega, all_take_succ (by omega) hs hb2⟩
        case measure =>
          exact dec_nat (by omega)
    · -- c1F
      first | with_reducible (replace hb1 := nb_nt hb1) | with_reducible (replace hb1 := nb_nf hb1) | with_reducible (replace hb1 := nb_tt hb1) | with_reducible (replace hb1 := nb_tf hb1) | with_reducible (replace hb1 := nb_bt hb1) | with_reducible (replace hb1 := nb_bf hb1) | skip
      refine wp_exit ?_
      refine th_x ?_
      refine th_x ?_
      refine ib_e ?_
      refine th_n ?_
      refine hK2 _ _ ?_
      clear hK5 K5 hK2 K2
      refine wp_seq_k fun K10 hK10 => ?_
      refine wp_region_lit ?_  -- region 7 l10_counting.go:53
      refine S_beg 21 rfl ?_
      refine S_val (Y_field Try.underlying31 rfl fz31_0 (by decide) rfl) ?_
      refine S_val (Y_load Try.underlying28 rfl rfl (by first | assumption | exact B1.at (by rfl))) ?_
      refine S_val (Y_len Try.underlying28 rfl) ?_
      refine S_val (Y_assign rfl) ?_
      refine S_nil (L' := (_ :: _ :: _ :: _ :: _ :: _ :: _ :: _ :: _ :: _ :: _ :: _ :: _ :: _ :: _ :: _ :: _ :: _ :: _ :: _ :: _ :: [])) rfl rfl ?_
      refine th_n ?_
      refine hK10 _ _ ?_
      clear hK10 K10
      refine wp_ret ?_
      refine ret_r1 rfl rfl ?_  -- r2
      exact ⟨by rw [place_end (all_of_take (by omega) hs)], G⟩

set_option maxHeartbeats 400000 in
set_option maxRecDepth 20000 in
theorem spec_FreePlace_c (Pr : Nat → Prop) (A B : Option Addr) (h : LH) (c d : Nat) (w : World) (hA : RC Pr w A h.cells) (hB : R1 Pr w B (ints h.roots)) (hz : hsize h ≤ 1048576) :
    Calls Try.prog 43 #[.agg #[.slice A h.cells.length c, .slice B h.roots.length d]] w (Ret fun v w' => v = .int .i64 (freeV h) ∧ Grow w w') := by
  have hz1 := hsize_cells h
  refine enter Try.func43 rfl Try.ntmps43 (L := (_ :: _ :: _ :: _ :: _ :: _ :: _ :: _ :: [])) rfl ?_
  have G := Mod.refl No w
  have hA0 := hA
  have hB0 := hB
  refine wp_seq_k fun K1 hK1 => ?_
  refine wp_region_lit ?_  -- region 0 l13_sweeping.go:31
  refine S_beg 8 rfl ?_
  refine S_box (cs := [_, _]) rfl rfl ?_
  intro b1 w1 fb1 g1 B1
  have lb1 := B1.lt
  replace hA := hA.grow g1
  replace hB := hB.grow g1
  replace G := G.grow g1
  have zg1 := g1.size
  refine S_val (Y_assign rfl) ?_
  refine S_nil (L' := (_ :: _ :: _ :: _ :: _ :: _ :: _ :: _ :: [])) rfl rfl ?_
  refine th_n ?_
  refine hK1 _ _ ?_
  clear hK1 K1
  refine wp_seq_k fun K2 hK2 => ?_
  refine wp_seq_k fun K3 hK3 => ?_
  refine wp_region_lit ?_  -- region 1 l13_sweeping.go:32
  refine S_beg 8 rfl ?_
  refine S_val (Y_loadS Try.underlying31 rfl sz31 rfl (by first | assumption | exact B1.row (by rfl))) ?_
  refine S_call rfl en34 (spec_HeapValid_c _ _ _ _ _ _ _ (by assumption) (by assumption) (by omega)) ?_  -- k1 spec.HeapValid
  rintro v2 w2 ⟨rfl, g2⟩
  replace hA := hA.grow g2
  replace hB := hB.grow g2
  replace G := G.grow g2
  replace B1 := B1.grow g2
  have zg2 := g2.size
  refine S_val (Y_not rfl) ?_
  refine S_nil (L' := (_ :: _ :: _ :: _ :: _ :: _ :: _ :: _ :: [])) rfl rfl ?_
  refine th_n ?_
  refine hK3 _ _ ?_
  clear hK3 K3
  refine S_if rfl (fun hb1 => ?_) (fun hb1 => ?_)  -- c1
  · -- c1T
    first | with_reducible (replace hb1 := nb_nt hb1) | with_reducible (replace hb1 := nb_nf hb1) | with_reducible (replace hb1 := nb_tt hb1) | with_reducible (replace hb1 := nb_tf hb1) | with_reducible (replace hb1 := nb_bt hb1) | with_reducible (replace hb1 := nb_bf hb1) | skip
    refine wp_seq_k fun K4 hK4 => ?_
    refine wp_region_lit ?_  -- region 2 l13_sweeping.go:33
    refine S_beg 8 rfl ?_
    refine S_val (Y_assign rfl) ?_
    refine S_nil (L' := (_ :: _ :: _ :: _ :: _ :: _ :: _ :: _ :: [])) rfl rfl ?_
    refine th_n ?_
    refine hK4 _ _ ?_
    clear hK4 K4
    refine wp_ret ?_
    refine th_r ?_
    clear hK2 K2
    refine ret_r1 rfl rfl ?_  -- r1
    exact ⟨by rw [freeV, hb1]; rfl, G⟩
  · -- c1F
    first | with_reducible (replace hb1 := nb_nt hb1) | with_reducible (replace hb1 := nb_nf hb1) | with_reducible (replace hb1 := nb_tt hb1) | with_reducible (replace hb1 := nb_tf hb1) | with_reducible (replace hb1 := nb_bt hb1) | with_reducible (replace hb1 := nb_bf hb1) | skip
    refine wp_skip ?_
    refine th_n ?_
    refine hK2 _ _ ?_
    clear hK2 K2
    refine wp_seq_k fun K5 hK5 => ?_
    refine wp_region_lit ?_  -- region 3 l13_sweeping.go:35
    refine S_beg 8 rfl ?_
    refine S_val (Y_loadS Try.underlying31 rfl sz31 rfl (by first | assumption | exact B1.row (by rfl))) ?_
    refine S_call rfl en84 (spec_l10Place_c _ _ _ _ _ _ _ (by assumption) (by omega)) ?_  -- k2 spec.l10Place
    rintro v3 w3 ⟨rfl, g3⟩
    replace hA := hA.grow g3
    replace hB := hB.grow g3
    replace G := G.grow g3
    replace B1 := B1.grow g3
    have zg3 := g3.size
    refine S_val (Y_assign rfl) ?_
    refine S_nil (L' := (_ :: _ :: _ :: _ :: _ :: _ :: _ :: _ :: [])) rfl rfl ?_
    refine th_n ?_
    refine hK5 _ _ ?_
    clear hK5 K5
    refine wp_ret ?_
    refine ret_r1 rfl rfl ?_  -- r2
    exact ⟨by rw [freeV, hb1]; rfl, G⟩

set_option maxHeartbeats 400000 in
set_option maxRecDepth 20000 in
theorem impl_FreePlace_c (Pr : Nat → Prop) (A B : Option Addr) (h : LH) (c d : Nat) (w : World) (hA : RC Pr w A h.cells) (hB : R1 Pr w B (ints h.roots)) (hz : hsize h ≤ 1048576) :
    Calls Try.prog 44 #[.agg #[.slice A h.cells.length c, .slice B h.roots.length d]] w (Ret fun v w' => v = .int .i64 (freeV h) ∧ Grow w w') := by
  have hz1 := hsize_cells h
  refine enter Try.func44 rfl Try.ntmps44 (L := (_ :: _ :: _ :: _ :: _ :: _ :: _ :: _ :: [])) rfl ?_
  have G := Mod.refl No w
  have hA0 := hA
  have hB0 := hB
  refine wp_seq_k fun K1 hK1 => ?_
  refine wp_region_lit ?_  -- region 0 l13_sweeping.go:36
  refine S_beg 8 rfl ?_
  refine S_box (cs := [_, _]) rfl rfl ?_
  intro b1 w1 fb1 g1 B1
  have lb1 := B1.lt
  replace hA := hA.grow g1
  replace hB := hB.grow g1
  replace G := G.grow g1
  have zg1 := g1.size
  refine S_val (Y_assign rfl) ?_
  refine S_nil (L' := (_ :: _ :: _ :: _ :: _ :: _ :: _ :: _ :: [])) rfl rfl ?_
  refine th_n ?_
  refine hK1 _ _ ?_
  clear hK1 K1
  refine wp_seq_k fun K2 hK2 => ?_
  refine wp_seq_k fun K3 hK3 => ?_
  refine wp_region_lit ?_  -- region 1 l13_sweeping.go:37
  refine S_beg 8 rfl ?_
  refine S_val (Y_loadS Try.underlying31 rfl sz31 rfl (by first | assumption | exact B1.row (by rfl))) ?_
  refine S_call rfl en32 (impl_HeapValid_c _ _ _ _ _ _ _ (by assumption) (by assumption) (by omega)) ?_  -- k1 impl.HeapValid
  rintro v2 w2 ⟨rfl, g2⟩
  replace hA := hA.grow g2
  replace hB := hB.grow g2
  replace G := G.grow g2
  replace B1 := B1.grow g2
  have zg2 := g2.size
  refine S_val (Y_not rfl) ?_
  refine S_nil (L' := (_ :: _ :: _ :: _ :: _ :: _ :: _ :: _ :: [])) rfl rfl ?_
  refine th_n ?_
  refine hK3 _ _ ?_
  clear hK3 K3
  refine S_if rfl (fun hb1 => ?_) (fun hb1 => ?_)  -- c1
  · -- c1T
    first | with_reducible (replace hb1 := nb_nt hb1) | with_reducible (replace hb1 := nb_nf hb1) | with_reducible (replace hb1 := nb_tt hb1) | with_reducible (replace hb1 := nb_tf hb1) | with_reducible (replace hb1 := nb_bt hb1) | with_reducible (replace hb1 := nb_bf hb1) | skip
    refine wp_seq_k fun K4 hK4 => ?_
    refine wp_region_lit ?_  -- region 2 l13_sweeping.go:38
    refine S_beg 8 rfl ?_
    refine S_val (Y_assign rfl) ?_
    refine S_nil (L' := (_ :: _ :: _ :: _ :: _ :: _ :: _ :: _ :: [])) rfl rfl ?_
    refine th_n ?_
    refine hK4 _ _ ?_
    clear hK4 K4
    refine wp_ret ?_
    refine th_r ?_
    clear hK2 K2
    refine ret_r1 rfl rfl ?_  -- r1
    exact ⟨by rw [freeV, hb1]; rfl, G⟩
  · -- c1F
    first | with_reducible (replace hb1 := nb_nt hb1) | with_reducible (replace hb1 := nb_nf hb1) | with_reducible (replace hb1 := nb_tt hb1) | with_reducible (replace hb1 := nb_tf hb1) | with_reducible (replace hb1 := nb_bt hb1) | with_reducible (replace hb1 := nb_bf hb1) | skip
    refine wp_skip ?_
    refine th_n ?_
    refine hK2 _ _ ?_
    clear hK2 K2
    refine wp_seq_k fun K5 hK5 => ?_
    refine wp_region_lit ?_  -- region 3 l13_sweeping.go:40
    refine S_beg 8 rfl ?_
    refine S_val (Y_loadS Try.underlying31 rfl sz31 rfl (by first | assumption | exact B1.row (by rfl))) ?_
    refine S_call rfl en85 (impl_freePlace_c _ _ _ _ _ _ _ (by assumption) (by omega)) ?_  -- k2 impl.freePlace
    rintro v3 w3 ⟨rfl, g3⟩
    replace hA := hA.grow g3
    replace hB := hB.grow g3
    replace G := G.grow g3
    replace B1 := B1.grow g3
    have zg3 := g3.size
    refine S_val (Y_assign rfl) ?_
    refine S_nil (L' := (_ :: _ :: _ :: _ :: _ :: _ :: _ :: _ :: [])) rfl rfl ?_
    refine th_n ?_
    refine hK5 _ _ ?_
    clear hK5 K5
    refine wp_ret ?_
    refine ret_r1 rfl rfl ?_  -- r2
    exact ⟨by rw [freeV, hb1]; rfl, G⟩

end Go.Proofs.Ytfcblicpfbfojaa
