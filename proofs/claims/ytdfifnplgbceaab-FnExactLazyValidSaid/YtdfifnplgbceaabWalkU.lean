/-
  Walks: counts that are right, cells that a cell leads to, views.
  Conditions: those that each theorem states.
-/
import Derived.Test.YtdfifnplgbceaabTy
import Derived.Test.YtdfifnplgbceaabWalkT
import Derived.Test.YtdfifnplgbceaabWalkP
import Derived.Test.YtdfifnplgbceaabView
namespace Go.Proofs.Ytdfifnplgbceaab
open Go Go.RowKit
attribute [local irreducible] wpList wpAnyH Code.wp dOp

set_option maxHeartbeats 400000 in
set_option maxRecDepth 20000 in
theorem impl_isUsed_c (Pr : Nat → Prop) (A B : Option Addr) (h : LH) (c d : Nat) (x : Int) (w : World) (hA : RC Pr w A h.cells) (hB : R1 Pr w B (ints h.roots)) (hz : hsize h ≤ 1048576) :
    Calls Try.prog 99 #[.agg #[.slice A h.cells.length c, .slice B h.roots.length d], .int .i64 x] w (Ret fun v w' => v = .bool (usedR h x) ∧ Grow w w') := by
  have hz1 := hsize_cells h
  have hz2 := hsize_roots h
  refine enter Try.func99 rfl Try.ntmps99 (L := (_ :: _ :: _ :: _ :: _ :: _ :: _ :: _ :: _ :: _ :: _ :: _ :: _ :: _ :: _ :: _ :: _ :: _ :: _ :: _ :: _ :: _ :: _ :: _ :: _ :: _ :: [])) rfl ?_
  have G := Mod.refl No w
  have hA0 := hA
  have hB0 := hB
  refine wp_seq_k fun K1 hK1 => ?_
  refine wp_region_lit ?_  -- region 0 l11_cycles.go:21
  refine S_beg 26 rfl ?_
  refine S_box (cs := [_, _]) rfl rfl ?_
  intro b1 w1 fb1 g1 B1
  have lb1 := B1.lt
  replace hA := hA.grow g1
  replace hB := hB.grow g1
  replace G := G.grow g1
  have zg1 := g1.size
  refine S_val (Y_assign rfl) ?_
  refine S_nil (L' := (_ :: _ :: _ :: _ :: _ :: _ :: _ :: _ :: _ :: _ :: _ :: _ :: _ :: _ :: _ :: _ :: _ :: _ :: _ :: _ :: _ :: _ :: _ :: _ :: _ :: _ :: [])) rfl rfl ?_
  refine th_n ?_
  refine hK1 _ _ ?_
  clear hK1 K1
  refine wp_seq_k fun K2 hK2 => ?_
  refine wp_region_lit ?_  -- region 1 l11_cycles.go:22
  refine S_beg 26 rfl ?_
  refine S_val (Y_loadS Try.underlying33 rfl sz33 rfl (by first | assumption | exact B1.row (by rfl))) ?_  -- l1
  refine S_call rfl en63 (impl_HeapValid_c _ _ _ _ _ _ _ (by assumption) (by assumption) (by omega)) ?_  -- k1 impl.HeapValid
  rintro v2 w2 ⟨rfl, g2⟩
  replace hA := hA.grow g2
  replace hB := hB.grow g2
  replace G := G.grow g2
  replace B1 := B1.grow g2
  have zg2 := g2.size
  refine S_val (Y_move rfl) ?_
  refine S_g 7 rfl (fun hb1 => ?_) (fun hb1 => ?_)  -- g1
  · -- g1T
    first | with_reducible (replace hb1 := nb_nt hb1) | with_reducible (replace hb1 := nb_nf hb1) | with_reducible (replace hb1 := nb_tt hb1) | with_reducible (replace hb1 := nb_tf hb1) | with_reducible (replace hb1 := nb_bt hb1) | with_reducible (replace hb1 := nb_bf hb1) | skip
    refine S_on rfl rfl ?_
    refine S_val (Y_move rfl) ?_
    refine S_on rfl rfl ?_
    refine S_val (Y_geq rfl rfl) ?_
    refine S_val (Y_pickT rfl rfl) ?_
    refine S_val (Y_move rfl) ?_
    refine S_g 11 rfl (fun hb2 => ?_) (fun hb2 => ?_)  -- g2
    · -- g2T
      first | with_reducible (replace hb2 := nb_nt hb2) | with_reducible (replace hb2 := nb_nf hb2) | with_reducible (replace hb2 := nb_tt hb2) | with_reducible (replace hb2 := nb_tf hb2) | with_reducible (replace hb2 := nb_bt hb2) | with_reducible (replace hb2 := nb_bf hb2) | skip
      obtain ⟨n, rfl⟩ := Int.eq_ofNat_of_zero_le (show 0 ≤ x by omega)
      refine S_on rfl rfl ?_
      refine S_val (Y_move rfl) ?_
      refine S_on rfl rfl ?_
      refine S_val (Y_field Try.underlying33 rfl fz33_0 (by decide) rfl) ?_
      refine S_on rfl rfl ?_
      refine S_val (Y_load Try.underlying31 rfl rfl (by first | assumption | exact B1.at (by rfl))) ?_  -- l2
      refine S_on rfl rfl ?_
      refine S_val (Y_len Try.underlying31 rfl) ?_
      refine S_on rfl rfl ?_
      refine S_val (Y_lss rfl rfl) ?_
      refine S_val (Y_pickT rfl rfl) ?_
      refine S_val (Y_move rfl) ?_
      refine S_g 18 rfl (fun hb3 => ?_) (fun hb3 => ?_)  -- g3
      · -- g3T
        first | with_reducible (replace hb3 := nb_nt hb3) | with_reducible (replace hb3 := nb_nf hb3) | with_reducible (replace hb3 := nb_tt hb3) | with_reducible (replace hb3 := nb_tf hb3) | with_reducible (replace hb3 := nb_bt hb3) | with_reducible (replace hb3 := nb_bf hb3) | skip
        have hnN : n < h.cells.length := by omega
        obtain ⟨g2, o2, E2, d2, rfl, hp2, cc20, _⟩ := hA0.cell hnN
        have cc2 := cc20.grow G
        refine S_on rfl rfl ?_
        refine S_val (Y_field Try.underlying33 rfl fz33_0 (by decide) rfl) ?_
        refine S_on rfl rfl ?_
        refine S_val (Y_load Try.underlying31 rfl rfl (by first | assumption | exact B1.at (by rfl) | exact cc2.at (by rfl))) ?_  -- l3
        refine S_on rfl rfl ?_
        refine S_val (Y_move rfl) ?_
        refine S_on rfl rfl ?_
        refine S_val (Y_index Try.underlying31 sz80 rfl rfl (by first | assumption | omega)) ?_
        refine S_on rfl rfl ?_
        refine S_val (Y_field Try.underlying80 rfl fz80_0 (by decide) rfl) ?_
        refine S_on rfl rfl ?_
        refine S_val (Y_load Try.underlying4 rfl rfl (by first | assumption | exact B1.at (by rfl) | exact cc2.at (by rfl))) ?_  -- l4
        refine S_val (Y_pickT rfl rfl) ?_
        refine S_val (Y_assign rfl) ?_
        refine S_nil (L' := (_ :: _ :: _ :: _ :: _ :: _ :: _ :: _ :: _ :: _ :: _ :: _ :: _ :: _ :: _ :: _ :: _ :: _ :: _ :: _ :: _ :: _ :: _ :: _ :: _ :: _ :: [])) rfl rfl ?_
        refine th_n ?_
        refine hK2 _ _ ?_
        clear hK2 K2
        refine wp_ret ?_
        refine ret_r1 rfl rfl ?_  -- r1
        exact ⟨by rw [usedR_at hb1 hnN], G⟩
      · -- g3F
        first | with_reducible (replace hb3 := nb_nt hb3) | with_reducible (replace hb3 := nb_nf hb3) | with_reducible (replace hb3 := nb_tt hb3) | with_reducible (replace hb3 := nb_tf hb3) | with_reducible (replace hb3 := nb_bt hb3) | with_reducible (replace hb3 := nb_bf hb3) | skip
        refine S_off rfl rfl ?_
        refine S_off rfl rfl ?_
        refine S_off rfl rfl ?_
        refine S_off rfl rfl ?_
        refine S_off rfl rfl ?_
        refine S_off rfl rfl ?_
        refine S_val (Y_pickF rfl rfl) ?_
        refine S_val (Y_assign rfl) ?_
        refine S_nil (L' := (_ :: _ :: _ :: _ :: _ :: _ :: _ :: _ :: _ :: _ :: _ :: _ :: _ :: _ :: _ :: _ :: _ :: _ :: _ :: _ :: _ :: _ :: _ :: _ :: _ :: _ :: [])) rfl rfl ?_
        refine th_n ?_
        refine hK2 _ _ ?_
        clear hK2 K2
        refine wp_ret ?_
        refine ret_r1 rfl rfl ?_  -- r2
        exact ⟨by rw [usedR_big (by omega)], G⟩
    · -- g2F
      first | with_reducible (replace hb2 := nb_nt hb2) | with_reducible (replace hb2 := nb_nf hb2) | with_reducible (replace hb2 := nb_tt hb2) | with_reducible (replace hb2 := nb_tf hb2) | with_reducible (replace hb2 := nb_bt hb2) | with_reducible (replace hb2 := nb_bf hb2) | skip
      refine S_off rfl rfl ?_
      refine S_off rfl rfl ?_
      refine S_off rfl rfl ?_
      refine S_off rfl rfl ?_
      refine S_off rfl rfl ?_
      refine S_val (Y_pickF rfl rfl) ?_
      refine S_val (Y_move rfl) ?_
      refine S_off rfl rfl ?_
      refine S_off rfl rfl ?_
      refine S_off rfl rfl ?_
      refine S_off rfl rfl ?_
      refine S_off rfl rfl ?_
      refine S_off rfl rfl ?_
      refine S_val (Y_pickF rfl rfl) ?_
      refine S_val (Y_assign rfl) ?_
      refine S_nil (L' := (_ :: _ :: _ :: _ :: _ :: _ :: _ :: _ :: _ :: _ :: _ :: _ :: _ :: _ :: _ :: _ :: _ :: _ :: _ :: _ :: _ :: _ :: _ :: _ :: _ :: _ :: [])) rfl rfl ?_
      refine th_n ?_
      refine hK2 _ _ ?_
      clear hK2 K2
      refine wp_ret ?_
      refine ret_r1 rfl rfl ?_  -- r3
      exact ⟨by rw [usedR_neg (by omega)], G⟩
  · -- g1F
    first | with_reducible (replace hb1 := nb_nt hb1) | with_reducible (replace hb1 := nb_nf hb1) | with_reducible (replace hb1 := nb_tt hb1) | with_reducible (replace hb1 := nb_tf hb1) | with_reducible (replace hb1 := nb_bt hb1) | with_reducible (replace hb1 := nb_bf hb1) | skip
    refine S_off rfl rfl ?_
    refine S_off rfl rfl ?_
    refine S_val (Y_pickF rfl rfl) ?_
    refine S_val (Y_move rfl) ?_
    refine S_off rfl rfl ?_
    refine S_off rfl rfl ?_
    refine S_off rfl rfl ?_
    refine S_off rfl rfl ?_
    refine S_off rfl rfl ?_
    refine S_val (Y_pickF rfl rfl) ?_
    refine S_val (Y_move rfl) ?_
    refine S_off rfl rfl ?_
    refine S_off rfl rfl ?_
    refine S_off rfl rfl ?_
    refine S_off rfl rfl ?_
    refine S_off rfl rfl ?_
    refine S_off rfl rfl ?_
    refine S_val (Y_pickF rfl rfl) ?_
    refine S_val (Y_assign rfl) ?_
    refine S_nil (L' := (_ :: _ :: _ :: _ :: _ :: _ :: _ :: _ :: _ :: _ :: _ :: _ :: _ :: _ :: _ :: _ :: _ :: _ :: _ :: _ :: _ :: _ :: _ :: _ :: _ :: _ :: [])) rfl rfl ?_
    refine th_n ?_
    refine hK2 _ _ ?_
    clear hK2 K2
    refine wp_ret ?_
    refine ret_r1 rfl rfl ?_  -- r4
    exact ⟨by rw [usedR_f hb1], G⟩

set_option maxHeartbeats 400000 in
set_option maxRecDepth 20000 in
theorem impl_cellsFrom_c (Pr : Nat → Prop) (A B : Option Addr) (h : LH) (c d : Nat) (x : Int) (w : World) (hA : RC Pr w A h.cells) (hB : R1 Pr w B (ints h.roots)) (hz : hsize h ≤ 1048576) (va : Valid h) :
    Calls Try.prog 118 #[.agg #[.slice A h.cells.length c, .slice B h.roots.length d], .int .i64 x] w (Ret fun v w' => ∃ m u : Nat, v = .int .u64 (m : Int) ∧ m < 2 ^ 64 ∧ SetOf u (usedL h.cells) ∧ (∀ n, m.testBit n = true ↔ Rch h.cells [x] (hasB u) n) ∧ Grow w w') := by
  have hz1 := hsize_cells h
  have hz2 := hsize_roots h
  have h40 := va.le
  refine enter Try.func118 rfl Try.ntmps118 (L := (_ :: _ :: _ :: _ :: _ :: _ :: _ :: _ :: _ :: _ :: _ :: [])) rfl ?_
  have G := Mod.refl No w
  have hA0 := hA
  have hB0 := hB
  refine wp_seq_k fun K1 hK1 => ?_
  refine wp_region_lit ?_  -- region 0 l11_cycles.go:18
  refine S_beg 11 rfl ?_
  refine S_box (cs := [_, _]) rfl rfl ?_
  intro b1 w1 fb1 g1 B1
  have lb1 := B1.lt
  replace hA := hA.grow g1
  replace hB := hB.grow g1
  replace G := G.grow g1
  have zg1 := g1.size
  refine S_val (Y_assign rfl) ?_
  refine S_nil (L' := (_ :: _ :: _ :: _ :: _ :: _ :: _ :: _ :: _ :: _ :: _ :: [])) rfl rfl ?_
  refine th_n ?_
  refine hK1 _ _ ?_
  clear hK1 K1
  refine wp_seq_k fun K2 hK2 => ?_
  refine D_start 7 11 (fun w => Mod (No) w) follows rfl rfl ?_  -- d1 region 1 l11_cycles.go:18
  intro w2 g2
  replace hA := hA.grow g2
  replace hB := hB.grow g2
  replace G := G.grow g2
  replace B1 := B1.grow g2
  have zg2 := g2.size
  have GS2 := Mod.refl (No) w2
  have B1d2 := B1
  refine D_q (i := 0) rfl (by kernel_rfl) (fun _ _ _ h => h) GS2 (fun _ hs => Y_loadS Try.underlying33 rfl sz33 rfl (by first | exact hs.cells0 (by assumption) | exact hs.cells0 (B1.row (by rfl)) | exact hs.cells0 (B1d2.row (by rfl)))) ?_
  refine D_q (i := 1) rfl (by kernel_rfl) (fun _ _ _ h => h) GS2 (fun _ _ => Y_move rfl) ?_
  refine D_q (i := 3) rfl (by kernel_rfl) (fun _ _ _ h => h) GS2 (fun _ hs => Y_loadS Try.underlying33 rfl sz33 rfl (by first | exact hs.cells0 (by assumption) | exact hs.cells0 (B1.row (by rfl)) | exact hs.cells0 (B1d2.row (by rfl)))) ?_
  refine D_2 (i := 2) (j := 4) (by kernel_rfl) ?_ ?_
  · -- operation 2 comes up
    refine E_bs1 (cs := [_]) (i := 2) rfl Try.underlying23 zr3 sz3 rfl rfl rfl ?_
    intro b3 w3 fb3 g3 B3
    refine ⟨GS2.grow g3, ?_⟩
    have lb3 := B3.lt
    replace hA := hA.grow g3
    replace hB := hB.grow g3
    replace G := G.grow g3
    replace GS2 := GS2.grow g3
    replace B1 := B1.grow g3
    have zg3 := g3.size
    refine D_1 (i := 4) (by kernel_rfl) ?_
    refine E_call rfl rfl en64 (impl_usedSet_c _ _ _ _ _ _ _ (by assumption) (by omega)) ?_  -- k1 impl.usedSet
    rintro v4 w4 ⟨s4, rfl, hs4, g4⟩
    replace hA := hA.grow g4
    replace hB := hB.grow g4
    replace G := G.grow g4
    replace GS2 := GS2.grow g4
    replace B1 := B1.grow g4
    replace B3 := B3.grow g4
    have zg4 := g4.size
    refine ⟨GS2, ?_⟩
    refine D_1 (i := 5) (by kernel_rfl) ?_
    refine E_call rfl rfl en111 (impl_closure_c _ _ _ _ _ h [x] _ _ _ _ _ hA (R1.of_blkE (us := ints [x]) B3) (by omega) (by simp) hs4.1 hs4.lt (by omega)) ?_  -- k2 impl.closure
    rintro v5 w5 ⟨s5, rfl, hs5, hr5, g5⟩
    replace hA := hA.grow g5
    replace hB := hB.grow g5
    replace G := G.grow g5
    replace GS2 := GS2.grow g5
    replace B1 := B1.grow g5
    replace B3 := B3.grow g5
    have zg5 := g5.size
    refine ⟨GS2, ?_⟩
    refine D_q (i := 6) rfl (by kernel_rfl) (fun _ _ _ h => h) GS2 (fun _ _ => Y_assign rfl) ?_
    refine D_end (L' := (_ :: _ :: _ :: _ :: _ :: _ :: _ :: _ :: _ :: _ :: _ :: [])) (by kernel_rfl) rfl rfl ?_
    refine th_n ?_
    refine hK2 _ _ ?_
    clear hK2 K2
    refine wp_ret ?_
    refine ret_r1 rfl rfl ?_  -- r1
    exact ⟨_, _, rfl, hs5, hs4, hr5, G⟩
  · -- operation 4 comes up
    refine E_call rfl rfl en64 (impl_usedSet_c _ _ _ _ _ _ _ (by assumption) (by omega)) ?_  -- k3 impl.usedSet
    rintro v6 w6 ⟨s6, rfl, hs6, g6⟩
    replace hA := hA.grow g6
    replace hB := hB.grow g6
    replace G := G.grow g6
    replace GS2 := GS2.grow g6
    replace B1 := B1.grow g6
    have zg6 := g6.size
    refine ⟨GS2, ?_⟩
    refine D_1 (i := 2) (by kernel_rfl) ?_
    refine E_bs1 (cs := [_]) (i := 2) rfl Try.underlying23 zr3 sz3 rfl rfl rfl ?_
    intro b7 w7 fb7 g7 B7
    refine ⟨GS2.grow g7, ?_⟩
    have lb7 := B7.lt
    replace hA := hA.grow g7
    replace hB := hB.grow g7
    replace G := G.grow g7
    replace GS2 := GS2.grow g7
    replace B1 := B1.grow g7
    have zg7 := g7.size
    refine D_1 (i := 5) (by kernel_rfl) ?_
    refine E_call rfl rfl en111 (impl_closure_c _ _ _ _ _ h [x] _ _ _ _ _ hA (R1.of_blkE (us := ints [x]) B7) (by omega) (by simp) hs6.1 hs6.lt (by omega)) ?_  -- k4 impl.closure
    rintro v8 w8 ⟨s8, rfl, hs8, hr8, g8⟩
    replace hA := hA.grow g8
    replace hB := hB.grow g8
    replace G := G.grow g8
    replace GS2 := GS2.grow g8
    replace B1 := B1.grow g8
    replace B7 := B7.grow g8
    have zg8 := g8.size
    refine ⟨GS2, ?_⟩
    refine D_q (i := 6) rfl (by kernel_rfl) (fun _ _ _ h => h) GS2 (fun _ _ => Y_assign rfl) ?_
    refine D_end (L' := (_ :: _ :: _ :: _ :: _ :: _ :: _ :: _ :: _ :: _ :: _ :: [])) (by kernel_rfl) rfl rfl ?_
    refine th_n ?_
    refine hK2 _ _ ?_
    clear hK2 K2
    refine wp_ret ?_
    refine ret_r1 rfl rfl ?_  -- r2
    exact ⟨_, _, rfl, hs8, hs6, hr8, G⟩

set_option maxHeartbeats 400000 in
set_option maxRecDepth 20000 in
theorem spec_CellsFrom_c (Pr : Nat → Prop) (A B : Option Addr) (h : LH) (c d : Nat) (x : Int) (w : World) (hA : RC Pr w A h.cells) (hB : R1 Pr w B (ints h.roots)) (hz : hsize h ≤ 1048576) (hx : -9223372036854775808 ≤ x ∧ x ≤ 9223372036854775807) :
    Calls Try.prog 97 #[.agg #[.slice A h.cells.length c, .slice B h.roots.length d], .int .i64 x] w (Ret fun v w' => ∃ A1 q cap, v = .slice A1 q cap ∧ q = (fromV h x).length ∧ OI (fun i => w.heap.size ≤ i) w' 4 A1 (bools (fromV h x)) ∧ Grow w w') := by
  have hz1 := hsize_cells h
  have hz2 := hsize_roots h
  refine enter Try.func97 rfl Try.ntmps97 (L := (_ :: _ :: _ :: _ :: _ :: _ :: _ :: _ :: _ :: _ :: _ :: _ :: _ :: _ :: _ :: _ :: _ :: _ :: _ :: _ :: _ :: _ :: _ :: _ :: _ :: _ :: _ :: _ :: _ :: _ :: _ :: [])) rfl ?_
  have G := Mod.refl No w
  have hA0 := hA
  have hB0 := hB
  refine wp_seq_k fun K1 hK1 => ?_
  refine wp_region_lit ?_  -- region 0 l11_cycles.go:37
  refine S_beg 31 rfl ?_
  refine S_box (cs := [_, _]) rfl rfl ?_
  intro b1 w1 fb1 g1 B1
  have lb1 := B1.lt
  replace hA := hA.grow g1
  replace hB := hB.grow g1
  replace G := G.grow g1
  have zg1 := g1.size
  refine S_val (Y_assign rfl) ?_
  refine S_nil (L' := (_ :: _ :: _ :: _ :: _ :: _ :: _ :: _ :: _ :: _ :: _ :: _ :: _ :: _ :: _ :: _ :: _ :: _ :: _ :: _ :: _ :: _ :: _ :: _ :: _ :: _ :: _ :: _ :: _ :: _ :: _ :: [])) rfl rfl ?_
  refine th_n ?_
  refine hK1 _ _ ?_
  clear hK1 K1
  refine wp_seq_k fun K2 hK2 => ?_
  refine wp_seq_k fun K3 hK3 => ?_
  refine wp_region_lit ?_  -- region 1 l11_cycles.go:38
  refine S_beg 31 rfl ?_
  refine S_val (Y_loadS Try.underlying33 rfl sz33 rfl (by first | assumption | exact B1.row (by rfl))) ?_  -- l1
  refine S_call rfl en60 (spec_HeapValid_c _ _ _ _ _ _ _ (by assumption) (by assumption) (by omega)) ?_  -- k1 spec.HeapValid
  rintro v2 w2 ⟨rfl, g2⟩
  replace hA := hA.grow g2
  replace hB := hB.grow g2
  replace G := G.grow g2
  replace B1 := B1.grow g2
  have zg2 := g2.size
  refine S_val (Y_not rfl) ?_
  refine S_val (Y_move rfl) ?_
  refine S_g 8 rfl (fun hb1 => ?_) (fun hb1 => ?_)  -- g1
  · -- g1T
    first | with_reducible (replace hb1 := nb_nt hb1) | with_reducible (replace hb1 := nb_nf hb1) | with_reducible (replace hb1 := nb_tt hb1) | with_reducible (replace hb1 := nb_tf hb1) | with_reducible (replace hb1 := nb_bt hb1) | with_reducible (replace hb1 := nb_bf hb1) | skip
    refine S_off rfl rfl ?_
    refine S_off rfl rfl ?_
    refine S_off rfl rfl ?_
    refine S_off rfl rfl ?_
    refine S_off rfl rfl ?_
    refine S_off rfl rfl ?_
    refine S_off rfl rfl ?_
    refine S_val (Y_pickT rfl rfl) ?_
    refine S_val (Y_move rfl) ?_
    refine S_off rfl rfl ?_
    refine S_off rfl rfl ?_
    refine S_off rfl rfl ?_
    refine S_off rfl rfl ?_
    refine S_off rfl rfl ?_
    refine S_off rfl rfl ?_
    refine S_off rfl rfl ?_
    refine S_val (Y_pickT rfl rfl) ?_
    refine S_nil (L' := (_ :: _ :: _ :: _ :: _ :: _ :: _ :: _ :: _ :: _ :: _ :: _ :: _ :: _ :: _ :: _ :: _ :: _ :: _ :: _ :: _ :: _ :: _ :: _ :: _ :: _ :: _ :: _ :: _ :: _ :: _ :: [])) rfl rfl ?_
    refine th_n ?_
    refine hK3 _ _ ?_
    clear hK3 K3
    refine S_ifT rfl ?_
    refine wp_seq_k fun K4 hK4 => ?_
    refine wp_region_lit ?_  -- region 2 l11_cycles.go:39
    refine S_beg 31 rfl ?_
    refine S_bs0 Try.underlying26 sz4 ?_
    intro b3 w3 fb3 g3 B3
    have lb3 := B3.lt
    replace hA := hA.grow g3
    replace hB := hB.grow g3
    replace G := G.grow g3
    replace B1 := B1.grow g3
    have zg3 := g3.size
    refine S_val (Y_assign rfl) ?_
    refine S_nil (L' := (_ :: _ :: _ :: _ :: _ :: _ :: _ :: _ :: _ :: _ :: _ :: _ :: _ :: _ :: _ :: _ :: _ :: _ :: _ :: _ :: _ :: _ :: _ :: _ :: _ :: _ :: _ :: _ :: _ :: _ :: _ :: [])) rfl rfl ?_
    refine th_n ?_
    refine hK4 _ _ ?_
    clear hK4 K4
    refine wp_ret ?_
    refine th_r ?_
    clear hK2 K2
    refine ret_r1 rfl rfl ?_  -- r1
    exact ⟨_, _, _, rfl, by rw [fromV_f (usedR_f hb1)]; rfl, by rw [fromV_f (usedR_f hb1)]; exact OI.nil _ _ _ _, G⟩
  · -- g1F
    first | with_reducible (replace hb1 := nb_nt hb1) | with_reducible (replace hb1 := nb_nf hb1) | with_reducible (replace hb1 := nb_tt hb1) | with_reducible (replace hb1 := nb_tf hb1) | with_reducible (replace hb1 := nb_bt hb1) | with_reducible (replace hb1 := nb_bf hb1) | skip
    have va := valid_iff.1 hb1
    have hl := va.leads
    have h40 := va.le
    have hr4 := va.roots4
    refine S_on rfl rfl ?_
    refine S_val (Y_move rfl) ?_
    refine S_on rfl rfl ?_
    refine S_val (Y_field Try.underlying33 rfl fz33_0 (by decide) rfl) ?_
    refine S_on rfl rfl ?_
    refine S_val (Y_load Try.underlying31 rfl rfl (by first | assumption | exact B1.at (by rfl))) ?_  -- l2
    refine S_on rfl rfl ?_
    refine S_val (Y_len Try.underlying31 rfl) ?_
    refine S_on rfl rfl ?_
    refine S_val (Y_sub rfl rfl rfl (by omega) (by omega)) ?_
    refine S_on rfl rfl ?_
    refine S_call rfl en61 (spec_l1In_c _ _ _ _) ?_  -- k2 spec.l1In
    rintro v w' ⟨rfl, rfl⟩
    refine S_on rfl rfl ?_
    refine S_val (Y_not rfl) ?_
    refine S_val (Y_pickF rfl rfl) ?_
    refine S_val (Y_move rfl) ?_
    refine S_g 17 rfl (fun hb2 => ?_) (fun hb2 => ?_)  -- g2
    · -- g2T
      first | with_reducible (replace hb2 := nb_nt hb2) | with_reducible (replace hb2 := nb_nf hb2) | with_reducible (replace hb2 := nb_tt hb2) | with_reducible (replace hb2 := nb_tf hb2) | with_reducible (replace hb2 := nb_bt hb2) | with_reducible (replace hb2 := nb_bf hb2) | skip
      refine S_off rfl rfl ?_
      refine S_off rfl rfl ?_
      refine S_off rfl rfl ?_
      refine S_off rfl rfl ?_
      refine S_off rfl rfl ?_
      refine S_off rfl rfl ?_
      refine S_off rfl rfl ?_
      refine S_val (Y_pickT rfl rfl) ?_
      refine S_nil (L' := (_ :: _ :: _ :: _ :: _ :: _ :: _ :: _ :: _ :: _ :: _ :: _ :: _ :: _ :: _ :: _ :: _ :: _ :: _ :: _ :: _ :: _ :: _ :: _ :: _ :: _ :: _ :: _ :: _ :: _ :: _ :: [])) rfl rfl ?_
      refine th_n ?_
      refine hK3 _ _ ?_
      clear hK3 K3
      refine S_ifT rfl ?_
      refine wp_seq_k fun K5 hK5 => ?_
      refine wp_region_lit ?_  -- region 2 l11_cycles.go:39
      refine S_beg 31 rfl ?_
      refine S_bs0 Try.underlying26 sz4 ?_
      intro b5 w5 fb5 g5 B5
      have lb5 := B5.lt
      replace hA := hA.grow g5
      replace hB := hB.grow g5
      replace G := G.grow g5
      replace B1 := B1.grow g5
      have zg5 := g5.size
      refine S_val (Y_assign rfl) ?_
      refine S_nil (L' := (_ :: _ :: _ :: _ :: _ :: _ :: _ :: _ :: _ :: _ :: _ :: _ :: _ :: _ :: _ :: _ :: _ :: _ :: _ :: _ :: _ :: _ :: _ :: _ :: _ :: _ :: _ :: _ :: _ :: _ :: _ :: [])) rfl rfl ?_
      refine th_n ?_
      refine hK5 _ _ ?_
      clear hK5 K5
      refine wp_ret ?_
      refine th_r ?_
      clear hK2 K2
      refine ret_r1 rfl rfl ?_  -- r2
      exact ⟨_, _, _, rfl, by rw [fromV_f (usedR_out hb2)]; rfl, by rw [fromV_f (usedR_out hb2)]; exact OI.nil _ _ _ _, G⟩
    · -- g2F
      first | with_reducible (replace hb2 := nb_nt hb2) | with_reducible (replace hb2 := nb_nf hb2) | with_reducible (replace hb2 := nb_tt hb2) | with_reducible (replace hb2 := nb_tf hb2) | with_reducible (replace hb2 := nb_bt hb2) | with_reducible (replace hb2 := nb_bf hb2) | skip
      obtain ⟨n, rfl⟩ := Int.eq_ofNat_of_zero_le (show 0 ≤ x by omega)
      have hnN : n < h.cells.length := by omega
      obtain ⟨g2, o2, E2, d2, rfl, hp2, cc20, _⟩ := hA0.cell hnN
      have cc2 := cc20.grow G
      refine S_on rfl rfl ?_
      refine S_val (Y_field Try.underlying33 rfl fz33_0 (by decide) rfl) ?_
      refine S_on rfl rfl ?_
      refine S_val (Y_load Try.underlying31 rfl rfl (by first | assumption | exact B1.at (by rfl) | exact cc2.at (by rfl))) ?_  -- l3
      refine S_on rfl rfl ?_
      refine S_val (Y_move rfl) ?_
      refine S_on rfl rfl ?_
      refine S_val (Y_index Try.underlying31 sz80 rfl rfl (by first | assumption | omega)) ?_
      refine S_on rfl rfl ?_
      refine S_val (Y_field Try.underlying80 rfl fz80_0 (by decide) rfl) ?_
      refine S_on rfl rfl ?_
      refine S_val (Y_load Try.underlying4 rfl rfl (by first | assumption | exact B1.at (by rfl) | exact cc2.at (by rfl))) ?_  -- l4
      refine S_on rfl rfl ?_
      refine S_val (Y_not rfl) ?_
      refine S_val (Y_pickF rfl rfl) ?_
      refine S_nil (L' := (_ :: _ :: _ :: _ :: _ :: _ :: _ :: _ :: _ :: _ :: _ :: _ :: _ :: _ :: _ :: _ :: _ :: _ :: _ :: _ :: _ :: _ :: _ :: _ :: _ :: _ :: _ :: _ :: _ :: _ :: _ :: [])) rfl rfl ?_
      refine th_n ?_
      refine hK3 _ _ ?_
      clear hK3 K3
      refine S_if rfl (fun hb3 => ?_) (fun hb3 => ?_)  -- c1
      · -- c1T
        first | with_reducible (replace hb3 := nb_nt hb3) | with_reducible (replace hb3 := nb_nf hb3) | with_reducible (replace hb3 := nb_tt hb3) | with_reducible (replace hb3 := nb_tf hb3) | with_reducible (replace hb3 := nb_bt hb3) | with_reducible (replace hb3 := nb_bf hb3) | skip
        refine wp_seq_k fun K6 hK6 => ?_
        refine wp_region_lit ?_  -- region 2 l11_cycles.go:39
        refine S_beg 31 rfl ?_
        refine S_bs0 Try.underlying26 sz4 ?_
        intro b6 w6 fb6 g6 B6
        have lb6 := B6.lt
        replace hA := hA.grow g6
        replace hB := hB.grow g6
        replace cc2 := cc2.grow g6
        replace G := G.grow g6
        replace B1 := B1.grow g6
        have zg6 := g6.size
        refine S_val (Y_assign rfl) ?_
        refine S_nil (L' := (_ :: _ :: _ :: _ :: _ :: _ :: _ :: _ :: _ :: _ :: _ :: _ :: _ :: _ :: _ :: _ :: _ :: _ :: _ :: _ :: _ :: _ :: _ :: _ :: _ :: _ :: _ :: _ :: _ :: _ :: _ :: [])) rfl rfl ?_
        refine th_n ?_
        refine hK6 _ _ ?_
        clear hK6 K6
        refine wp_ret ?_
        refine th_r ?_
        clear hK2 K2
        refine ret_r1 rfl rfl ?_  -- r3
        exact ⟨_, _, _, rfl, by rw [fromV_f (by rw [usedR_at hb1 hnN]; exact hb3)]; rfl, by rw [fromV_f (by rw [usedR_at hb1 hnN]; exact hb3)]; exact OI.nil _ _ _ _, G⟩
      · -- c1F
        first | with_reducible (replace hb3 := nb_nt hb3) | with_reducible (replace hb3 := nb_nf hb3) | with_reducible (replace hb3 := nb_tt hb3) | with_reducible (replace hb3 := nb_tf hb3) | with_reducible (replace hb3 := nb_bt hb3) | with_reducible (replace hb3 := nb_bf hb3) | skip
        have hun : usedAt h.cells n = true := by rw [usedAt_at hnN]; exact hb3
        refine wp_skip ?_
        refine th_n ?_
        refine hK2 _ _ ?_
        clear hK2 K2
        refine wp_seq_k fun K7 hK7 => ?_
        refine wp_region_lit ?_  -- region 3 l11_cycles.go:41
        refine S_beg 31 rfl ?_
        refine S_val (Y_loadS Try.underlying33 rfl sz33 rfl (by first | assumption | exact B1.row (by rfl))) ?_  -- l5
        refine S_val (Y_move rfl) ?_
        refine S_bs1 (cs := [_]) Try.underlying23 zr3 sz3 rfl rfl rfl ?_
        intro b7 w7 fb7 g7 B7
        have lb7 := B7.lt
        replace hA := hA.grow g7
        replace hB := hB.grow g7
        replace cc2 := cc2.grow g7
        replace G := G.grow g7
        replace B1 := B1.grow g7
        have zg7 := g7.size
        refine S_call rfl en62 (spec_l7Reach_c _ _ _ _ _ h [(n : Int)] _ _ _ _ hA (R1.of_blkE (us := ints [(n : Int)]) B7) (by omega) (by simp) (leads_one va hnN)) ?_  -- k3 spec.l7Reach
        rintro v8 w8 ⟨b8, rfl, fb8, B8, g8⟩
        replace hA := hA.grow g8
        replace hB := hB.grow g8
        replace cc2 := cc2.grow g8
        replace G := G.grow g8
        replace B1 := B1.grow g8
        replace B7 := B7.grow g8
        have zg8 := g8.size
        have lb8 := B8.lt
        refine S_val (Y_assign rfl) ?_
        refine S_nil (L' := (_ :: _ :: _ :: _ :: _ :: _ :: _ :: _ :: _ :: _ :: _ :: _ :: _ :: _ :: _ :: _ :: _ :: _ :: _ :: _ :: _ :: _ :: _ :: _ :: _ :: _ :: _ :: _ :: _ :: _ :: _ :: [])) rfl rfl ?_
        refine th_n ?_
        refine hK7 _ _ ?_
        clear hK7 K7
        refine wp_ret ?_
        refine ret_r1 rfl rfl ?_  -- r4
        have hut : usedR h (n : Int) = true := by rw [usedR_at hb1 hnN]; exact hb3
        exact ⟨_, _, _, rfl, by rw [fromV_t hut, mB_len], by rw [fromV_t hut]; exact OI.of_blk' (by assumption) (by omega), G⟩

set_option maxHeartbeats 400000 in
set_option maxRecDepth 20000 in
theorem impl_CountedValid_c (Pr : Nat → Prop) (A B C : Option Addr) (h : LH) (xs : List Int) (c d e : Nat) (w : World) (hA : RC Pr w A h.cells) (hB : R1 Pr w B (ints h.roots)) (hC : R1 Pr w C (ints xs)) (hz : hsize h ≤ 1048576) (hxz : xs.length ≤ 1048576) :
    Calls Try.prog 106 #[.agg #[.slice A h.cells.length c, .slice B h.roots.length d, .slice C xs.length e]] w (Ret fun v w' => v = .bool (cvalB h xs) ∧ Grow w w') := by
  have hz1 := hsize_cells h
  have hz2 := hsize_roots h
  refine enter Try.func106 rfl Try.ntmps106 (L := (_ :: _ :: _ :: _ :: _ :: _ :: _ :: _ :: _ :: _ :: _ :: _ :: _ :: _ :: [])) rfl ?_
  have G := Mod.refl No w
  have hA0 := hA
  have hB0 := hB
  have hC0 := hC
  refine wp_seq_k fun K1 hK1 => ?_
  refine wp_region_lit ?_  -- region 0 l10_counting.go:16
  refine S_beg 14 rfl ?_
  refine S_box (cs := [_, _, _]) rfl rfl ?_
  intro b1 w1 fb1 g1 B1
  have lb1 := B1.lt
  replace hA := hA.grow g1
  replace hB := hB.grow g1
  replace hC := hC.grow g1
  replace G := G.grow g1
  have zg1 := g1.size
  refine S_val (Y_assign rfl) ?_
  refine S_nil (L' := (_ :: _ :: _ :: _ :: _ :: _ :: _ :: _ :: _ :: _ :: _ :: _ :: _ :: _ :: [])) rfl rfl ?_
  refine th_n ?_
  refine hK1 _ _ ?_
  clear hK1 K1
  refine wp_seq_k fun K2 hK2 => ?_
  refine D_start 12 14 (fun w => Mod (No) w) follows rfl rfl ?_  -- d1 region 1 l10_counting.go:17
  intro w2 g2
  replace hA := hA.grow g2
  replace hB := hB.grow g2
  replace hC := hC.grow g2
  replace G := G.grow g2
  replace B1 := B1.grow g2
  have zg2 := g2.size
  have GS2 := Mod.refl (No) w2
  have B1d2 := B1
  refine D_q (i := 0) rfl (by kernel_rfl) (fun _ _ _ h => h) GS2 (fun _ _ => Y_field Try.underlying69 rfl fz69_0 (by decide) rfl) ?_
  refine D_q (i := 1) rfl (by kernel_rfl) (fun _ _ _ h => h) GS2 (fun _ hs => Y_loadS Try.underlying33 rfl sz33 rfl (by first | exact hs.cells0 ((CellsAt.of_blk (pre := []) (us := [_, _]) (post := [_]) B1 rfl)) | exact hs.cells0 ((CellsAt.of_blk (pre := []) (us := [_, _]) (post := [_]) B1d2 rfl)))) ?_
  refine D_1 (i := 2) (by kernel_rfl) ?_
  refine E_call rfl rfl en63 (impl_HeapValid_c _ _ _ _ _ _ _ (by assumption) (by assumption) (by omega)) ?_  -- k1 impl.HeapValid
  rintro v3 w3 ⟨rfl, g3⟩
  replace hA := hA.grow g3
  replace hB := hB.grow g3
  replace hC := hC.grow g3
  replace G := G.grow g3
  replace GS2 := GS2.grow g3
  replace B1 := B1.grow g3
  have zg3 := g3.size
  refine ⟨GS2, ?_⟩
  refine D_q (i := 3) rfl (by kernel_rfl) (fun _ _ _ h => h) GS2 (fun _ _ => Y_move rfl) ?_
  refine D_g 6 rfl (fun hb1 => ?_) (fun hb1 => ?_)  -- g1
  · -- g1T
    first | with_reducible (replace hb1 := nb_nt hb1) | with_reducible (replace hb1 := nb_nf hb1) | with_reducible (replace hb1 := nb_tt hb1) | with_reducible (replace hb1 := nb_tf hb1) | with_reducible (replace hb1 := nb_bt hb1) | with_reducible (replace hb1 := nb_bf hb1) | skip
    have va := valid_iff.1 hb1
    have hl := va.leads
    have h40 := va.le
    have hr4 := va.roots4
    refine D_qon (i := 4) rfl rfl rfl (by kernel_rfl) (fun _ _ _ h => h) GS2 (fun _ _ => Y_field Try.underlying69 rfl fz69_1 (by decide) rfl) ?_
    refine D_qon (i := 5) rfl rfl rfl (by kernel_rfl) (fun _ _ _ h => h) GS2 (fun _ hs => Y_load Try.underlying23 rfl rfl (by first | exact hs.cell0 (by assumption) | exact hs.cell0 (B1.at (by rfl)) | exact hs.cell0 (B1d2.at (by rfl)))) ?_
    refine D_qon (i := 6) rfl rfl rfl (by kernel_rfl) (fun _ _ _ h => h) GS2 (fun _ _ => Y_field Try.underlying69 rfl fz69_0 (by decide) rfl) ?_
    refine D_qon (i := 7) rfl rfl rfl (by kernel_rfl) (fun _ _ _ h => h) GS2 (fun _ hs => Y_loadS Try.underlying33 rfl sz33 rfl (by first | exact hs.cells0 ((CellsAt.of_blk (pre := []) (us := [_, _]) (post := [_]) B1 rfl)) | exact hs.cells0 ((CellsAt.of_blk (pre := []) (us := [_, _]) (post := [_]) B1d2 rfl)))) ?_
    refine D_1 (i := 8) (by kernel_rfl) ?_
    refine E_calln rfl rfl rfl rfl en119 (impl_refCounts_c _ _ _ h _ _ 0 _ hA hB (by omega) hl (by decide)) ?_  -- k2 impl.refCounts
    rintro v4 w4 ⟨b4, rfl, fb4, B4, g4⟩
    replace hA := hA.grow g4
    replace hB := hB.grow g4
    replace hC := hC.grow g4
    replace G := G.grow g4
    replace GS2 := GS2.grow g4
    replace B1 := B1.grow g4
    have zg4 := g4.size
    have lb4 := B4.lt
    rw [show (fun i => Nat.testBit 0 i) = (fun _ => false) by funext i; simp] at B4
    have hRc := R1.of_blkE B4
    refine ⟨GS2, ?_⟩
    refine D_1 (i := 9) (by kernel_rfl) ?_
    refine E_calln rfl rfl rfl rfl en78 (by have h0 := impl_sameInts_c _ _ _ _ xs (cntL h.cells.length (refsAll h fun _ => false)) e h.cells.length _ hC hRc (by omega); rw [cntL_len] at h0; exact h0) ?_  -- k3 impl.sameInts
    rintro v5 w5 ⟨rfl, g5⟩
    replace hA := hA.grow g5
    replace hB := hB.grow g5
    replace hC := hC.grow g5
    replace hRc := hRc.grow g5
    replace G := G.grow g5
    replace GS2 := GS2.grow g5
    replace B1 := B1.grow g5
    replace B4 := B4.grow g5
    have zg5 := g5.size
    refine ⟨GS2, ?_⟩
    refine D_q (i := 10) rfl (by kernel_rfl) (fun _ _ _ h => h) GS2 (fun _ _ => Y_pickT rfl rfl) ?_
    refine D_q (i := 11) rfl (by kernel_rfl) (fun _ _ _ h => h) GS2 (fun _ _ => Y_assign rfl) ?_
    refine D_end (L' := (_ :: _ :: _ :: _ :: _ :: _ :: _ :: _ :: _ :: _ :: _ :: _ :: _ :: _ :: [])) (by kernel_rfl) rfl rfl ?_
    refine th_n ?_
    refine hK2 _ _ ?_
    clear hK2 K2
    refine wp_ret ?_
    refine ret_r1 rfl rfl ?_  -- r1
    exact ⟨by rw [cvalB_t hb1, countsV_t hb1], G⟩
  · -- g1F
    first | with_reducible (replace hb1 := nb_nt hb1) | with_reducible (replace hb1 := nb_nf hb1) | with_reducible (replace hb1 := nb_tt hb1) | with_reducible (replace hb1 := nb_tf hb1) | with_reducible (replace hb1 := nb_bt hb1) | with_reducible (replace hb1 := nb_bf hb1) | skip
    refine D_qoff (i := 4) rfl rfl rfl (by kernel_rfl) (fun _ _ _ h => h) GS2 ?_
    refine D_qoff (i := 5) rfl rfl rfl (by kernel_rfl) (fun _ _ _ h => h) GS2 ?_
    refine D_qoff (i := 6) rfl rfl rfl (by kernel_rfl) (fun _ _ _ h => h) GS2 ?_
    refine D_qoff (i := 7) rfl rfl rfl (by kernel_rfl) (fun _ _ _ h => h) GS2 ?_
    refine D_qoff (i := 8) rfl rfl rfl (by kernel_rfl) (fun _ _ _ h => h) GS2 ?_
    refine D_qoff (i := 9) rfl rfl rfl (by kernel_rfl) (fun _ _ _ h => h) GS2 ?_
    refine D_q (i := 10) rfl (by kernel_rfl) (fun _ _ _ h => h) GS2 (fun _ _ => Y_pickF rfl rfl) ?_
    refine D_q (i := 11) rfl (by kernel_rfl) (fun _ _ _ h => h) GS2 (fun _ _ => Y_assign rfl) ?_
    refine D_end (L' := (_ :: _ :: _ :: _ :: _ :: _ :: _ :: _ :: _ :: _ :: _ :: _ :: _ :: _ :: [])) (by kernel_rfl) rfl rfl ?_
    refine th_n ?_
    refine hK2 _ _ ?_
    clear hK2 K2
    refine wp_ret ?_
    refine ret_r1 rfl rfl ?_  -- r2
    exact ⟨by rw [cvalB_f hb1], G⟩

set_option maxHeartbeats 400000 in
set_option maxRecDepth 20000 in
theorem spec_CountedValid_c (Pr : Nat → Prop) (A B C : Option Addr) (h : LH) (xs : List Int) (c d e : Nat) (w : World) (hA : RC Pr w A h.cells) (hB : R1 Pr w B (ints h.roots)) (hC : R1 Pr w C (ints xs)) (hz : hsize h ≤ 1048576) (hxz : xs.length ≤ 1048576) :
    Calls Try.prog 104 #[.agg #[.slice A h.cells.length c, .slice B h.roots.length d, .slice C xs.length e]] w (Ret fun v w' => v = .bool (cvalB h xs) ∧ Grow w w') := by
  have hz1 := hsize_cells h
  have hz2 := hsize_roots h
  refine enter Try.func104 rfl Try.ntmps104 (L := (_ :: _ :: _ :: _ :: _ :: _ :: _ :: _ :: _ :: _ :: _ :: _ :: _ :: _ :: _ :: _ :: _ :: _ :: _ :: _ :: _ :: _ :: _ :: _ :: _ :: _ :: _ :: _ :: _ :: _ :: _ :: _ :: _ :: [])) rfl ?_
  have G := Mod.refl No w
  have hA0 := hA
  have hB0 := hB
  have hC0 := hC
  refine wp_seq_k fun K1 hK1 => ?_
  refine wp_region_lit ?_  -- region 0 l10_counting.go:6
  refine S_beg 33 rfl ?_
  refine S_box (cs := [_, _, _]) rfl rfl ?_
  intro b1 w1 fb1 g1 B1
  have lb1 := B1.lt
  replace hA := hA.grow g1
  replace hB := hB.grow g1
  replace hC := hC.grow g1
  replace G := G.grow g1
  have zg1 := g1.size
  refine S_val (Y_assign rfl) ?_
  refine S_nil (L' := (_ :: _ :: _ :: _ :: _ :: _ :: _ :: _ :: _ :: _ :: _ :: _ :: _ :: _ :: _ :: _ :: _ :: _ :: _ :: _ :: _ :: _ :: _ :: _ :: _ :: _ :: _ :: _ :: _ :: _ :: _ :: _ :: _ :: [])) rfl rfl ?_
  refine th_n ?_
  refine hK1 _ _ ?_
  clear hK1 K1
  refine wp_seq_k fun K2 hK2 => ?_
  refine wp_region_lit ?_  -- region 1 l10_counting.go:7
  refine S_beg 33 rfl ?_
  refine S_val (Y_field Try.underlying69 rfl fz69_0 (by decide) rfl) ?_
  refine S_val (Y_loadS Try.underlying33 rfl sz33 rfl (CellsAt.of_blk (pre := []) (us := [_, _]) (post := [_]) B1 rfl)) ?_  -- l1
  refine S_call rfl en120 (spec_RefCounts_c _ _ _ _ _ _ _ (by assumption) (by assumption) (by omega)) ?_  -- k1 spec.RefCounts
  rintro v2 w2 ⟨A2, q2, cap2, rfl, hq2, O2, g2⟩
  replace hA := hA.grow g2
  replace hB := hB.grow g2
  replace hC := hC.grow g2
  replace G := G.grow g2
  replace B1 := B1.grow g2
  have zg2 := g2.size
  subst hq2
  replace O2 := O2.lt
  have hRw := O2.r1
  have hcl := countsV_len h
  refine S_val (Y_assign rfl) ?_
  refine S_nil (L' := (_ :: _ :: _ :: _ :: _ :: _ :: _ :: _ :: _ :: _ :: _ :: _ :: _ :: _ :: _ :: _ :: _ :: _ :: _ :: _ :: _ :: _ :: _ :: _ :: _ :: _ :: _ :: _ :: _ :: _ :: _ :: _ :: _ :: [])) rfl rfl ?_
  refine th_n ?_
  refine hK2 _ _ ?_
  clear hK2 K2
  refine wp_seq_k fun K3 hK3 => ?_
  refine wp_seq_k fun K4 hK4 => ?_
  refine wp_region_lit ?_  -- region 2 l10_counting.go:8
  refine S_beg 33 rfl ?_
  refine S_val (Y_move rfl) ?_
  refine S_val (Y_len Try.underlying23 rfl) ?_
  refine S_val (Y_field Try.underlying69 rfl fz69_1 (by decide) rfl) ?_
  refine S_val (Y_load Try.underlying23 rfl rfl (by first | assumption | exact B1.at (by rfl))) ?_  -- l2
  refine S_val (Y_len Try.underlying23 rfl) ?_
  refine S_val (Y_neq rfl rfl) ?_
  refine S_nil (L' := (_ :: _ :: _ :: _ :: _ :: _ :: _ :: _ :: _ :: _ :: _ :: _ :: _ :: _ :: _ :: _ :: _ :: _ :: _ :: _ :: _ :: _ :: _ :: _ :: _ :: _ :: _ :: _ :: _ :: _ :: _ :: _ :: _ :: [])) rfl rfl ?_
  refine th_n ?_
  refine hK4 _ _ ?_
  clear hK4 K4
  refine S_if rfl (fun hb1 => ?_) (fun hb1 => ?_)  -- c1
  · -- c1T
    first | with_reducible (replace hb1 := nb_nt hb1) | with_reducible (replace hb1 := nb_nf hb1) | with_reducible (replace hb1 := nb_tt hb1) | with_reducible (replace hb1 := nb_tf hb1) | with_reducible (replace hb1 := nb_bt hb1) | with_reducible (replace hb1 := nb_bf hb1) | skip
    refine wp_seq_k fun K5 hK5 => ?_
    refine wp_region_lit ?_  -- region 3 l10_counting.go:9
    refine S_beg 33 rfl ?_
    refine S_val (Y_assign rfl) ?_
    refine S_nil (L' := (_ :: _ :: _ :: _ :: _ :: _ :: _ :: _ :: _ :: _ :: _ :: _ :: _ :: _ :: _ :: _ :: _ :: _ :: _ :: _ :: _ :: _ :: _ :: _ :: _ :: _ :: _ :: _ :: _ :: _ :: _ :: _ :: _ :: [])) rfl rfl ?_
    refine th_n ?_
    refine hK5 _ _ ?_
    clear hK5 K5
    refine wp_ret ?_
    refine th_r ?_
    clear hK3 K3
    refine ret_r1 rfl rfl ?_  -- r1
    exact ⟨by rw [cvalB_ne (fun e => hb1 (by rw [e]))], G⟩
  · -- c1F
    first | with_reducible (replace hb1 := nb_nt hb1) | with_reducible (replace hb1 := nb_nf hb1) | with_reducible (replace hb1 := nb_tt hb1) | with_reducible (replace hb1 := nb_tf hb1) | with_reducible (replace hb1 := nb_bt hb1) | with_reducible (replace hb1 := nb_bf hb1) | skip
    refine wp_skip ?_
    refine th_n ?_
    refine hK3 _ _ ?_
    clear hK3 K3
    refine wp_seq_k fun K6 hK6 => ?_
    refine wp_seq_k fun K7 hK7 => ?_
    refine wp_region_lit ?_  -- region 4 l10_counting.go:11
    refine S_beg 33 rfl ?_
    refine S_val (Y_assign rfl) ?_
    refine S_nil (L' := (_ :: _ :: _ :: _ :: _ :: _ :: _ :: _ :: _ :: _ :: _ :: _ :: _ :: _ :: _ :: _ :: _ :: _ :: _ :: _ :: _ :: _ :: _ :: _ :: _ :: _ :: _ :: _ :: _ :: _ :: _ :: _ :: _ :: [])) rfl rfl ?_
    refine th_n ?_
    refine hK7 _ _ ?_
    clear hK7 K7
    refine wp_block ?_
    go_loopw [4] (fun u4 wr => (∃ k : Nat, u4 = .int .i64 k ∧ k ≤ (countsV h).length ∧ (countsV h).take k = xs.take k) ∧ Mod No w2 wr) (fun u4 wr => (countsV h).length - (intOf u4).toNat)  -- L1
    case atStart =>
      refine ⟨?_, Mod.refl _ _⟩
      exact ⟨0, rfl, by omega, by simp⟩
    case round =>
      obtain ⟨w3, rfl⟩ : ∃ x : World, x = wr := ⟨_, rfl⟩
      obtain ⟨hrel, g3⟩ := hrel
      replace hA := hA.grow g3
      replace hB := hB.grow g3
      replace hC := hC.grow g3
      replace O2 := O2.grow g3
      replace hRw := hRw.grow g3
      replace G := G.grow g3
      replace B1 := B1.grow g3
      have zg3 := g3.size
      obtain ⟨k, rfl, hk, hs⟩ := hrel
      have GL3 := g3
      refine wp_seq_k fun K8 hK8 => ?_
      refine wp_seq_k fun K9 hK9 => ?_
      refine wp_region_lit ?_  -- region 5 l10_counting.go:11
      refine S_beg 33 rfl ?_
      refine S_val (Y_move rfl) ?_
      refine S_val (Y_move rfl) ?_
      refine S_val (Y_len Try.underlying23 rfl) ?_
      refine S_val (Y_lss rfl rfl) ?_
      refine S_nil (L' := (_ :: _ :: _ :: _ :: _ :: _ :: _ :: _ :: _ :: _ :: _ :: _ :: _ :: _ :: _ :: _ :: _ :: _ :: _ :: _ :: _ :: _ :: _ :: _ :: _ :: _ :: _ :: _ :: _ :: _ :: _ :: _ :: _ :: [])) rfl rfl ?_
      refine th_n ?_
      refine hK9 _ _ ?_
      clear hK9 K9
      refine S_if rfl (fun hb2 => ?_) (fun hb2 => ?_)  -- c2
      · -- c2T
        first | with_reducible (replace hb2 := nb_nt hb2) | with_reducible (replace hb2 := nb_nf hb2) | with_reducible (replace hb2 := nb_tt hb2) | with_reducible (replace hb2 := nb_tf hb2) | with_reducible (replace hb2 := nb_bt hb2) | with_reducible (replace hb2 := nb_bf hb2) | skip
        refine wp_skip ?_
        refine th_n ?_
        refine hK8 _ _ ?_
        clear hK8 K8
        refine wp_seq_k fun K10 hK10 => ?_
        refine wp_block ?_
        refine wp_seq_k fun K11 hK11 => ?_
        refine D_start 10 33 (fun w => Mod (No) w) follows rfl rfl ?_  -- d1 region 7 l10_counting.go:12
        intro w4 g4
        replace hA := hA.grow g4
        replace hB := hB.grow g4
        replace hC := hC.grow g4
        replace O2 := O2.grow g4
        replace hRw := hRw.grow g4
        replace G := G.grow g4
        replace GL3 := GL3.grow g4
        replace B1 := B1.grow g4
        have zg4 := g4.size
        have GS4 := Mod.refl (No) w4
        obtain ⟨g1, o1, rfl, hp1, hc1⟩ := hRw.int (k := k) (by omega)
        obtain ⟨g2, o2, rfl, hp2, hc2⟩ := hC.int (k := k) (by omega)
        have B1d4 := B1
        refine D_q (i := 0) rfl (by kernel_rfl) (fun _ _ _ h => h) GS4 (fun _ _ => Y_move rfl) ?_
        refine D_q (i := 1) rfl (by kernel_rfl) (fun _ _ _ h => h) GS4 (fun _ _ => Y_move rfl) ?_
        refine D_q (i := 2) rfl (by kernel_rfl) (fun _ _ _ h => h) GS4 (fun _ _ => Y_index Try.underlying23 sz3 rfl rfl (by first | assumption | omega)) ?_
        refine D_q (i := 3) rfl (by kernel_rfl) (fun _ _ _ h => h) GS4 (fun _ hs => Y_load Try.underlying3 rfl rfl (by first | exact hs.cell0 (by assumption) | exact hs.cell0 (B1.at (by rfl)) | exact hs.cell0 (B1d4.at (by rfl)))) ?_
        refine D_q (i := 4) rfl (by kernel_rfl) (fun _ _ _ h => h) GS4 (fun _ _ => Y_field Try.underlying69 rfl fz69_1 (by decide) rfl) ?_
        refine D_q (i := 5) rfl (by kernel_rfl) (fun _ _ _ h => h) GS4 (fun _ hs => Y_load Try.underlying23 rfl rfl (by first | exact hs.cell0 (by assumption) | exact hs.cell0 (B1.at (by rfl)) | exact hs.cell0 (B1d4.at (by rfl)))) ?_
        refine D_q (i := 6) rfl (by kernel_rfl) (fun _ _ _ h => h) GS4 (fun _ _ => Y_move rfl) ?_
        refine D_q (i := 7) rfl (by kernel_rfl) (fun _ _ _ h => h) GS4 (fun _ _ => Y_index Try.underlying23 sz3 rfl rfl (by first | assumption | omega)) ?_
        refine D_q (i := 8) rfl (by kernel_rfl) (fun _ _ _ h => h) GS4 (fun _ hs => Y_load Try.underlying3 rfl rfl (by first | exact hs.cell0 (by assumption) | exact hs.cell0 (B1.at (by rfl)) | exact hs.cell0 (B1d4.at (by rfl)))) ?_
        refine D_q (i := 9) rfl (by kernel_rfl) (fun _ _ _ h => h) GS4 (fun _ _ => Y_neq rfl rfl) ?_
        refine D_end (L' := (_ :: _ :: _ :: _ :: _ :: _ :: _ :: _ :: _ :: _ :: _ :: _ :: _ :: _ :: _ :: _ :: _ :: _ :: _ :: _ :: _ :: _ :: _ :: _ :: _ :: _ :: _ :: _ :: _ :: _ :: _ :: _ :: _ :: [])) (by kernel_rfl) rfl rfl ?_
        refine th_n ?_
        refine hK11 _ _ ?_
        clear hK11 K11
        refine S_if rfl (fun hb3 => ?_) (fun hb3 => ?_)  -- c3
        · -- c3T
          first | with_reducible (replace hb3 := nb_nt hb3) | with_reducible (replace hb3 := nb_nf hb3) | with_reducible (replace hb3 := nb_tt hb3) | with_reducible (replace hb3 := nb_tf hb3) | with_reducible (replace hb3 := nb_bt hb3) | with_reducible (replace hb3 := nb_bf hb3) | skip
          refine wp_seq_k fun K12 hK12 => ?_
          refine wp_region_lit ?_  -- region 8 l10_counting.go:13
          refine S_beg 33 rfl ?_
          refine S_val (Y_assign rfl) ?_
          refine S_nil (L' := (_ :: _ :: _ :: _ :: _ :: _ :: _ :: _ :: _ :: _ :: _ :: _ :: _ :: _ :: _ :: _ :: _ :: _ :: _ :: _ :: _ :: _ :: _ :: _ :: _ :: _ :: _ :: _ :: _ :: _ :: _ :: _ :: _ :: [])) rfl rfl ?_
          refine th_n ?_
          refine hK12 _ _ ?_
          clear hK12 K12
          refine wp_ret ?_
          refine ib_r ?_
          refine th_r ?_
          clear GL3
          refine th_r ?_
          refine ib_r ?_
          refine th_r ?_
          clear hK10 K10 hK6 K6
          refine ret_r1 rfl rfl ?_  -- r2
          exact ⟨by rw [cvalB_ne (fun e => hb3 (by subst e; rfl))], G⟩
        · -- c3F
          first | with_reducible (replace hb3 := nb_nt hb3) | with_reducible (replace hb3 := nb_nf hb3) | with_reducible (replace hb3 := nb_tt hb3) | with_reducible (replace hb3 := nb_tf hb3) | with_reducible (replace hb3 := nb_bt hb3) | with_reducible (replace hb3 := nb_bf hb3) | skip
          refine wp_skip ?_
          refine ib_n ?_
          refine th_n ?_
          refine hK10 _ _ ?_
          clear hK10 K10
          refine wp_region_lit ?_  -- region 6 l10_counting.go:11
          refine S_beg 33 rfl ?_
          refine S_val (Y_move rfl) ?_
          refine S_val (Y_inc rfl rfl (by omega)) ?_
          refine S_val (Y_assign rfl) ?_
          refine S_nil (L' := (_ :: _ :: _ :: _ :: _ :: _ :: _ :: _ :: _ :: _ :: _ :: _ :: _ :: _ :: _ :: _ :: _ :: _ :: _ :: _ :: _ :: _ :: _ :: _ :: _ :: _ :: _ :: _ :: _ :: _ :: _ :: _ :: _ :: [])) rfl rfl ?_
          refine th_n ?_
          go_roundw  -- e1 of L1
          case rel =>
            refine ⟨?_, GL3⟩
            exact ⟨k + 1, rfl, by omega, take_eq hs (by omega) (by omega) hb3⟩
          case measure =>
            exact dec_nat (by omega)
      · -- c2F
        first | with_reducible (replace hb2 := nb_nt hb2) | with_reducible (replace hb2 := nb_nf hb2) | with_reducible (replace hb2 := nb_tt hb2) | with_reducible (replace hb2 := nb_tf hb2) | with_reducible (replace hb2 := nb_bt hb2) | with_reducible (replace hb2 := nb_bf hb2) | skip
        refine wp_exit ?_
        refine th_x ?_
        clear GL3
        refine th_x ?_
        refine ib_e ?_
        refine th_n ?_
        refine hK6 _ _ ?_
        clear hK8 K8 hK6 K6
        refine wp_seq_k fun K13 hK13 => ?_
        refine wp_region_lit ?_  -- region 9 l10_counting.go:16
        refine S_beg 33 rfl ?_
        refine S_val (Y_field Try.underlying69 rfl fz69_0 (by decide) rfl) ?_
        refine S_val (Y_loadS Try.underlying33 rfl sz33 rfl (CellsAt.of_blk (pre := []) (us := [_, _]) (post := [_]) B1 rfl)) ?_  -- l6
        refine S_call rfl en60 (spec_HeapValid_c _ _ _ _ _ _ _ (by assumption) (by assumption) (by omega)) ?_  -- k2 spec.HeapValid
        rintro v5 w5 ⟨rfl, g5⟩
        replace hA := hA.grow g5
        replace hB := hB.grow g5
        replace hC := hC.grow g5
        replace O2 := O2.grow g5
        replace hRw := hRw.grow g5
        replace G := G.grow g5
        replace B1 := B1.grow g5
        have zg5 := g5.size
        refine S_val (Y_assign rfl) ?_
        refine S_nil (L' := (_ :: _ :: _ :: _ :: _ :: _ :: _ :: _ :: _ :: _ :: _ :: _ :: _ :: _ :: _ :: _ :: _ :: _ :: _ :: _ :: _ :: _ :: _ :: _ :: _ :: _ :: _ :: _ :: _ :: _ :: _ :: _ :: _ :: [])) rfl rfl ?_
        refine th_n ?_
        refine hK13 _ _ ?_
        clear hK13 K13
        refine wp_ret ?_
        refine ret_r1 rfl rfl ?_  -- r3
        exact ⟨by rw [cvalB_eq (take_all hs (by omega) (by omega))], G⟩

set_option maxHeartbeats 400000 in
set_option maxRecDepth 20000 in
theorem laws_szBoolS_c (A : Option Addr) (n c : Nat) (left : Int) (w : World) (hn : n ≤ 9223372036854775807) (hl : -1 ≤ left) (hl2 : left ≤ 1048576) :
    Calls Try.prog 59 #[.slice A n c, .int .i64 left] w (Ret fun v w' => ∃ r : Int, v = .int .i64 r ∧ (-1 ≤ r ∧ r ≤ 1048576 ∧ (0 ≤ r → (n : Int) + r ≤ left)) ∧ Grow w w') := by
  refine enter Try.func59 rfl Try.ntmps59 (L := (_ :: _ :: _ :: _ :: _ :: _ :: _ :: _ :: _ :: _ :: _ :: _ :: [])) rfl ?_
  have G := Mod.refl No w
  refine wp_seq_k fun K1 hK1 => ?_
  refine wp_region_lit ?_  -- region 0 exact.go:494
  refine S_beg 12 rfl ?_
  refine S_val (Y_assign rfl) ?_
  refine S_nil (L' := (_ :: _ :: _ :: _ :: _ :: _ :: _ :: _ :: _ :: _ :: _ :: _ :: [])) rfl rfl ?_
  refine th_n ?_
  refine hK1 _ _ ?_
  clear hK1 K1
  refine wp_seq_k fun K2 hK2 => ?_
  refine wp_region_lit ?_  -- region 1 exact.go:495
  refine S_beg 12 rfl ?_
  refine S_val (Y_move rfl) ?_
  refine S_val (Y_move rfl) ?_
  refine S_val (Y_len Try.underlying26 rfl) ?_
  refine S_val (Y_sub rfl rfl rfl (by omega) (by omega)) ?_
  refine S_val (Y_assign rfl) ?_
  refine S_nil (L' := (_ :: _ :: _ :: _ :: _ :: _ :: _ :: _ :: _ :: _ :: _ :: _ :: [])) rfl rfl ?_
  refine th_n ?_
  refine hK2 _ _ ?_
  clear hK2 K2
  refine wp_seq_k fun K3 hK3 => ?_
  refine wp_seq_k fun K4 hK4 => ?_
  refine wp_region_lit ?_  -- region 2 exact.go:496
  refine S_beg 12 rfl ?_
  refine S_val (Y_move rfl) ?_
  refine S_val (Y_lss rfl rfl) ?_
  refine S_nil (L' := (_ :: _ :: _ :: _ :: _ :: _ :: _ :: _ :: _ :: _ :: _ :: _ :: [])) rfl rfl ?_
  refine th_n ?_
  refine hK4 _ _ ?_
  clear hK4 K4
  refine S_if rfl (fun hb1 => ?_) (fun hb1 => ?_)  -- c1
  · -- c1T
    first | with_reducible (replace hb1 := nb_nt hb1) | with_reducible (replace hb1 := nb_nf hb1) | with_reducible (replace hb1 := nb_tt hb1) | with_reducible (replace hb1 := nb_tf hb1) | with_reducible (replace hb1 := nb_bt hb1) | with_reducible (replace hb1 := nb_bf hb1) | skip
    refine wp_seq_k fun K5 hK5 => ?_
    refine wp_region_lit ?_  -- region 3 exact.go:497
    refine S_beg 12 rfl ?_
    refine S_val (Y_assign rfl) ?_
    refine S_nil (L' := (_ :: _ :: _ :: _ :: _ :: _ :: _ :: _ :: _ :: _ :: _ :: _ :: [])) rfl rfl ?_
    refine th_n ?_
    refine hK5 _ _ ?_
    clear hK5 K5
    refine wp_ret ?_
    refine th_r ?_
    clear hK3 K3
    refine ret_r1 rfl rfl ?_  -- r1
    exact ⟨_, rfl, by omega, G⟩
  · -- c1F
    first | with_reducible (replace hb1 := nb_nt hb1) | with_reducible (replace hb1 := nb_nf hb1) | with_reducible (replace hb1 := nb_tt hb1) | with_reducible (replace hb1 := nb_tf hb1) | with_reducible (replace hb1 := nb_bt hb1) | with_reducible (replace hb1 := nb_bf hb1) | skip
    refine wp_skip ?_
    refine th_n ?_
    refine hK3 _ _ ?_
    clear hK3 K3
    refine wp_seq_k fun K6 hK6 => ?_
    refine wp_region_lit ?_  -- region 4 exact.go:499
    refine S_beg 12 rfl ?_
    refine S_val (Y_move rfl) ?_
    refine S_val (Y_assign rfl) ?_
    refine S_nil (L' := (_ :: _ :: _ :: _ :: _ :: _ :: _ :: _ :: _ :: _ :: _ :: _ :: [])) rfl rfl ?_
    refine th_n ?_
    refine hK6 _ _ ?_
    clear hK6 K6
    refine wp_ret ?_
    refine ret_r1 rfl rfl ?_  -- r2
    exact ⟨_, rfl, by omega, G⟩

set_option maxHeartbeats 400000 in
set_option maxRecDepth 20000 in
theorem laws_szCounted_c (Pr : Nat → Prop) (A B C : Option Addr) (h : LH) (xs : List Int) (c d e : Nat) (left : Int) (w : World) (hA : RC Pr w A h.cells) (hn : h.cells.length ≤ 9223372036854775807) (hN : ∀ x ∈ h.cells, x.refs.length ≤ 9223372036854775807) (hm : h.roots.length ≤ 9223372036854775807) (hk : xs.length ≤ 9223372036854775807) (hl : -1 ≤ left) (hl2 : left ≤ 1048576) :
    Calls Try.prog 52 #[.agg #[.slice A h.cells.length c, .slice B h.roots.length d, .slice C xs.length e], .int .i64 left] w (Ret fun v w' => ∃ r : Int, v = .int .i64 r ∧ (-1 ≤ r ∧ r ≤ 1048576 ∧ (0 ≤ r → (hsize h : Int) + xs.length + r ≤ left)) ∧ Grow w w') := by
  refine enter Try.func52 rfl Try.ntmps52 (L := (_ :: _ :: _ :: _ :: _ :: _ :: _ :: _ :: _ :: _ :: _ :: _ :: _ :: _ :: _ :: _ :: _ :: _ :: [])) rfl ?_
  have G := Mod.refl No w
  have hA0 := hA
  refine wp_seq_k fun K1 hK1 => ?_
  refine wp_region_lit ?_  -- region 0 exact.go:176
  refine S_beg 18 rfl ?_
  refine S_box (cs := [_, _, _]) rfl rfl ?_
  intro b1 w1 fb1 g1 B1
  have lb1 := B1.lt
  replace hA := hA.grow g1
  replace G := G.grow g1
  have zg1 := g1.size
  refine S_val (Y_assign rfl) ?_
  refine S_nil (L' := (_ :: _ :: _ :: _ :: _ :: _ :: _ :: _ :: _ :: _ :: _ :: _ :: _ :: _ :: _ :: _ :: _ :: _ :: [])) rfl rfl ?_
  refine th_n ?_
  refine hK1 _ _ ?_
  clear hK1 K1
  refine wp_seq_k fun K2 hK2 => ?_
  refine wp_region_lit ?_  -- region 1 exact.go:177
  refine S_beg 18 rfl ?_
  refine S_val (Y_field Try.underlying66 rfl fz66_0 (by decide) rfl) ?_
  refine S_val (Y_loadS Try.underlying25 rfl sz25 rfl (CellsAt.of_blk (pre := []) (us := [_, _]) (post := [_]) B1 rfl)) ?_  -- l1
  refine S_val (Y_move rfl) ?_
  refine S_call rfl en19 (laws_szHeap_c _ _ _ _ _ _ _ _ (by assumption) (by omega) (by assumption) (by omega) (by omega) (by omega)) ?_  -- k1 laws.szHeap
  rintro v2 w2 ⟨r2, rfl, hr2, g2⟩
  replace hA := hA.grow g2
  replace G := G.grow g2
  replace B1 := B1.grow g2
  have zg2 := g2.size
  refine S_val (Y_assign rfl) ?_
  refine S_nil (L' := (_ :: _ :: _ :: _ :: _ :: _ :: _ :: _ :: _ :: _ :: _ :: _ :: _ :: _ :: _ :: _ :: _ :: _ :: [])) rfl rfl ?_
  refine th_n ?_
  refine hK2 _ _ ?_
  clear hK2 K2
  refine wp_seq_k fun K3 hK3 => ?_
  refine wp_seq_k fun K4 hK4 => ?_
  refine wp_region_lit ?_  -- region 2 exact.go:178
  refine S_beg 18 rfl ?_
  refine S_val (Y_move rfl) ?_
  refine S_val (Y_lss rfl rfl) ?_
  refine S_nil (L' := (_ :: _ :: _ :: _ :: _ :: _ :: _ :: _ :: _ :: _ :: _ :: _ :: _ :: _ :: _ :: _ :: _ :: _ :: [])) rfl rfl ?_
  refine th_n ?_
  refine hK4 _ _ ?_
  clear hK4 K4
  refine S_if rfl (fun hb1 => ?_) (fun hb1 => ?_)  -- c1
  · -- c1T
    first | with_reducible (replace hb1 := nb_nt hb1) | with_reducible (replace hb1 := nb_nf hb1) | with_reducible (replace hb1 := nb_tt hb1) | with_reducible (replace hb1 := nb_tf hb1) | with_reducible (replace hb1 := nb_bt hb1) | with_reducible (replace hb1 := nb_bf hb1) | skip
    refine wp_seq_k fun K5 hK5 => ?_
    refine wp_region_lit ?_  -- region 3 exact.go:179
    refine S_beg 18 rfl ?_
    refine S_val (Y_assign rfl) ?_
    refine S_nil (L' := (_ :: _ :: _ :: _ :: _ :: _ :: _ :: _ :: _ :: _ :: _ :: _ :: _ :: _ :: _ :: _ :: _ :: _ :: [])) rfl rfl ?_
    refine th_n ?_
    refine hK5 _ _ ?_
    clear hK5 K5
    refine wp_ret ?_
    refine th_r ?_
    clear hK3 K3
    refine ret_r1 rfl rfl ?_  -- r1
    exact ⟨_, rfl, by omega, G⟩
  · -- c1F
    first | with_reducible (replace hb1 := nb_nt hb1) | with_reducible (replace hb1 := nb_nf hb1) | with_reducible (replace hb1 := nb_tt hb1) | with_reducible (replace hb1 := nb_tf hb1) | with_reducible (replace hb1 := nb_bt hb1) | with_reducible (replace hb1 := nb_bf hb1) | skip
    refine wp_skip ?_
    refine th_n ?_
    refine hK3 _ _ ?_
    clear hK3 K3
    refine wp_seq_k fun K6 hK6 => ?_
    refine wp_region_lit ?_  -- region 4 exact.go:181
    refine S_beg 18 rfl ?_
    refine S_val (Y_field Try.underlying66 rfl fz66_1 (by decide) rfl) ?_
    refine S_val (Y_load Try.underlying23 rfl rfl (by first | assumption | exact B1.at (by rfl))) ?_  -- l2
    refine S_val (Y_move rfl) ?_
    refine S_call rfl en68 (laws_szIntS_c _ _ _ _ _ (by omega) (by omega) (by omega)) ?_  -- k2 laws.szIntS
    rintro v3 w3 ⟨r3, rfl, hr3, g3⟩
    replace hA := hA.grow g3
    replace G := G.grow g3
    replace B1 := B1.grow g3
    have zg3 := g3.size
    refine S_val (Y_assign rfl) ?_
    refine S_nil (L' := (_ :: _ :: _ :: _ :: _ :: _ :: _ :: _ :: _ :: _ :: _ :: _ :: _ :: _ :: _ :: _ :: _ :: _ :: [])) rfl rfl ?_
    refine th_n ?_
    refine hK6 _ _ ?_
    clear hK6 K6
    refine wp_seq_k fun K7 hK7 => ?_
    refine wp_seq_k fun K8 hK8 => ?_
    refine wp_region_lit ?_  -- region 5 exact.go:182
    refine S_beg 18 rfl ?_
    refine S_val (Y_move rfl) ?_
    refine S_val (Y_lss rfl rfl) ?_
    refine S_nil (L' := (_ :: _ :: _ :: _ :: _ :: _ :: _ :: _ :: _ :: _ :: _ :: _ :: _ :: _ :: _ :: _ :: _ :: _ :: [])) rfl rfl ?_
    refine th_n ?_
    refine hK8 _ _ ?_
    clear hK8 K8
    refine S_if rfl (fun hb2 => ?_) (fun hb2 => ?_)  -- c2
    · -- c2T
      first | with_reducible (replace hb2 := nb_nt hb2) | with_reducible (replace hb2 := nb_nf hb2) | with_reducible (replace hb2 := nb_tt hb2) | with_reducible (replace hb2 := nb_tf hb2) | with_reducible (replace hb2 := nb_bt hb2) | with_reducible (replace hb2 := nb_bf hb2) | skip
      refine wp_seq_k fun K9 hK9 => ?_
      refine wp_region_lit ?_  -- region 6 exact.go:183
      refine S_beg 18 rfl ?_
      refine S_val (Y_assign rfl) ?_
      refine S_nil (L' := (_ :: _ :: _ :: _ :: _ :: _ :: _ :: _ :: _ :: _ :: _ :: _ :: _ :: _ :: _ :: _ :: _ :: _ :: [])) rfl rfl ?_
      refine th_n ?_
      refine hK9 _ _ ?_
      clear hK9 K9
      refine wp_ret ?_
      refine th_r ?_
      clear hK7 K7
      refine ret_r1 rfl rfl ?_  -- r2
      exact ⟨_, rfl, by omega, G⟩
    · -- c2F
      first | with_reducible (replace hb2 := nb_nt hb2) | with_reducible (replace hb2 := nb_nf hb2) | with_reducible (replace hb2 := nb_tt hb2) | with_reducible (replace hb2 := nb_tf hb2) | with_reducible (replace hb2 := nb_bt hb2) | with_reducible (replace hb2 := nb_bf hb2) | skip
      refine wp_skip ?_
      refine th_n ?_
      refine hK7 _ _ ?_
      clear hK7 K7
      refine wp_seq_k fun K10 hK10 => ?_
      refine wp_region_lit ?_  -- region 7 exact.go:185
      refine S_beg 18 rfl ?_
      refine S_val (Y_move rfl) ?_
      refine S_val (Y_assign rfl) ?_
      refine S_nil (L' := (_ :: _ :: _ :: _ :: _ :: _ :: _ :: _ :: _ :: _ :: _ :: _ :: _ :: _ :: _ :: _ :: _ :: _ :: [])) rfl rfl ?_
      refine th_n ?_
      refine hK10 _ _ ?_
      clear hK10 K10
      refine wp_ret ?_
      refine ret_r1 rfl rfl ?_  -- r3
      exact ⟨_, rfl, by omega, G⟩

set_option maxHeartbeats 400000 in
set_option maxRecDepth 20000 in
theorem laws_toBoolS_c (Pr : Nat → Prop) (A : Option Addr) (xs : List Bool) (c : Nat) (w : World) (hA : R1 Pr w A (bools xs)) (hx : xs.length ≤ 1048576) :
    Calls Try.prog 40 #[.slice A xs.length c] w (Ret fun v w' => ∃ b, v = .slice (some ⟨b, 0, none⟩) xs.length xs.length ∧ w.heap.size ≤ b ∧ Blk w' b 4 (bools xs).toArray ∧ Grow w w') := by
  refine enter Try.func40 rfl Try.ntmps40 (L := (_ :: _ :: _ :: _ :: _ :: _ :: _ :: _ :: _ :: _ :: _ :: _ :: _ :: _ :: _ :: _ :: _ :: _ :: _ :: _ :: _ :: _ :: [])) rfl ?_
  have G := Mod.refl No w
  have hA0 := hA
  refine wp_seq_k fun K1 hK1 => ?_
  refine wp_region_lit ?_  -- region 0 exact.go:417
  refine S_beg 22 rfl ?_
  refine S_val (Y_assign rfl) ?_
  refine S_nil (L' := (_ :: _ :: _ :: _ :: _ :: _ :: _ :: _ :: _ :: _ :: _ :: _ :: _ :: _ :: _ :: _ :: _ :: _ :: _ :: _ :: _ :: _ :: [])) rfl rfl ?_
  refine th_n ?_
  refine hK1 _ _ ?_
  clear hK1 K1
  refine wp_seq_k fun K2 hK2 => ?_
  refine wp_region_lit ?_  -- region 1 exact.go:418
  refine S_beg 22 rfl ?_
  refine S_val (Y_move rfl) ?_
  refine S_val (Y_len Try.underlying26 rfl) ?_
  refine S_make (z := [.bool false]) Try.underlying26 zr4 sz4 by4 rfl rfl (by omega) (by omega) (by omega) ?_
  intro b1 w1 fb1 g1 B1
  have lb1 := B1.lt
  replace hA := hA.grow g1
  replace G := G.grow g1
  have zg1 := g1.size
  refine S_val (Y_assign rfl) ?_
  refine S_nil (L' := (_ :: _ :: _ :: _ :: _ :: _ :: _ :: _ :: _ :: _ :: _ :: _ :: _ :: _ :: _ :: _ :: _ :: _ :: _ :: _ :: _ :: _ :: [])) rfl rfl ?_
  refine th_n ?_
  refine hK2 _ _ ?_
  clear hK2 K2
  refine wp_seq_k fun K3 hK3 => ?_
  refine wp_seq_k fun K4 hK4 => ?_
  refine wp_region_lit ?_  -- region 2 exact.go:419
  refine S_beg 22 rfl ?_
  refine S_val (Y_assign rfl) ?_
  refine S_nil (L' := (_ :: _ :: _ :: _ :: _ :: _ :: _ :: _ :: _ :: _ :: _ :: _ :: _ :: _ :: _ :: _ :: _ :: _ :: _ :: _ :: _ :: _ :: [])) rfl rfl ?_
  refine th_n ?_
  refine hK4 _ _ ?_
  clear hK4 K4
  refine wp_block ?_
  go_loopw [4] (fun u4 wr => (∃ k : Nat, u4 = .int .i64 k ∧ k ≤ xs.length ∧ Blk wr b1 4 (bools (xs.take k) ++ zeros [.bool false] (xs.length - k)).toArray) ∧ Mod (fun i => i = b1) w1 wr) (fun u4 wr => xs.length - (intOf u4).toNat)  -- L1
  case atStart =>
    refine ⟨?_, Mod.refl _ _⟩
    exact ⟨0, rfl, by omega, by simpa [bools] using B1⟩
  case round =>
    obtain ⟨w2, rfl⟩ : ∃ x : World, x = wr := ⟨_, rfl⟩
    obtain ⟨hrel, g2⟩ := hrel
    clear B1
    replace G := G.above g2 (by intro i h; first | omega | (dsimp only at h; omega))
    replace hA := hA0.grow G
    have zg2 := g2.size
    obtain ⟨k, rfl, hk, B1⟩ := hrel
    have GL2 := g2
    refine wp_seq_k fun K5 hK5 => ?_
    refine wp_seq_k fun K6 hK6 => ?_
    refine wp_region_lit ?_  -- region 3 exact.go:419
    refine S_beg 22 rfl ?_
    refine S_val (Y_move rfl) ?_
    refine S_val (Y_move rfl) ?_
    refine S_val (Y_len Try.underlying26 rfl) ?_
    refine S_val (Y_lss rfl rfl) ?_
    refine S_nil (L' := (_ :: _ :: _ :: _ :: _ :: _ :: _ :: _ :: _ :: _ :: _ :: _ :: _ :: _ :: _ :: _ :: _ :: _ :: _ :: _ :: _ :: _ :: [])) rfl rfl ?_
    refine th_n ?_
    refine hK6 _ _ ?_
    clear hK6 K6
    refine S_if rfl (fun hb1 => ?_) (fun hb1 => ?_)  -- c1
    · -- c1T
      first | with_reducible (replace hb1 := nb_nt hb1) | with_reducible (replace hb1 := nb_nf hb1) | with_reducible (replace hb1 := nb_tt hb1) | with_reducible (replace hb1 := nb_tf hb1) | with_reducible (replace hb1 := nb_bt hb1) | with_reducible (replace hb1 := nb_bf hb1) | skip
      have hk1 : k < xs.length := by omega
      obtain ⟨g1, o1, rfl, hp1, hc1⟩ := hA.bool hk1
      rw [zeros_pos (by omega)] at B1
      refine wp_skip ?_
      refine th_n ?_
      refine hK5 _ _ ?_
      clear hK5 K5
      refine wp_seq_k fun K7 hK7 => ?_
      refine wp_block ?_
      refine wp_region_lit ?_  -- region 5 exact.go:420
      refine S_beg 22 rfl ?_
      refine S_val (Y_move rfl) ?_
      refine S_val (Y_move rfl) ?_
      refine S_val (Y_move rfl) ?_
      refine S_val (Y_move rfl) ?_
      refine S_val (Y_index Try.underlying26 sz4 rfl rfl (by first | assumption | omega)) ?_
      refine S_val (Y_load Try.underlying4 rfl rfl (by first | assumption | exact B1.at (by rfl))) ?_  -- l1
      refine S_val (Y_index Try.underlying26 sz4 rfl rfl (by first | assumption | omega)) ?_
      refine S_stM (pre := bools (xs.take k)) (old := [.bool false]) (post := zeros [.bool false] (xs.length - k - 1)) (vs := [_]) sz4 rfl rfl rfl rfl (by rw [List.append_assoc]; exact B1) (by simp [bools]; omega) rfl ?_
      intro w3 m3 X3
      replace B1 := Blk.eq X3 (show _ = bools (xs.take (k + 1)) ++ zeros [.bool false] (xs.length - (k + 1)) by unfold bools; rw [List.take_succ_eq_append_getElem hk1, List.map_append, Nat.sub_sub]; rfl)
      clear X3
      replace G := G.above m3 (by intro i h; first | omega | (dsimp only at h; omega))
      replace GL2 := Mod.trans' GL2 m3 (fun _ h _ => h) (fun i h _ => by first | exact h | omega | (dsimp only at h ⊢; omega) | (subst h; rfl) | (subst h; exact ⟨by omega, rfl⟩))
      replace hA := hA0.grow G
      have zm3 := m3.size
      refine S_nil (L' := (_ :: _ :: _ :: _ :: _ :: _ :: _ :: _ :: _ :: _ :: _ :: _ :: _ :: _ :: _ :: _ :: _ :: _ :: _ :: _ :: _ :: _ :: [])) rfl rfl ?_
      refine ib_n ?_
      refine th_n ?_
      refine hK7 _ _ ?_
      clear hK7 K7
      refine wp_region_lit ?_  -- region 4 exact.go:419
      refine S_beg 22 rfl ?_
      refine S_val (Y_move rfl) ?_
      refine S_val (Y_inc rfl rfl (by omega)) ?_
      refine S_val (Y_assign rfl) ?_
      refine S_nil (L' := (_ :: _ :: _ :: _ :: _ :: _ :: _ :: _ :: _ :: _ :: _ :: _ :: _ :: _ :: _ :: _ :: _ :: _ :: _ :: _ :: _ :: _ :: [])) rfl rfl ?_
      refine th_n ?_
      go_roundw  -- e1 of L1
      case rel =>
        refine ⟨?_, GL2⟩
        exact ⟨k + 1, rfl, by omega, B1⟩
      case measure =>
        exact dec_nat (by omega)
    · -- c1F
      first | with_reducible (replace hb1 := nb_nt hb1) | with_reducible (replace hb1 := nb_nf hb1) | with_reducible (replace hb1 := nb_tt hb1) | with_reducible (replace hb1 := nb_tf hb1) | with_reducible (replace hb1 := nb_bt hb1) | with_reducible (replace hb1 := nb_bf hb1) | skip
      refine wp_exit ?_
      refine th_x ?_
      clear GL2
      refine th_x ?_
      refine ib_e ?_
      refine th_n ?_
      refine hK3 _ _ ?_
      clear hK5 K5 hK3 K3
      refine wp_seq_k fun K8 hK8 => ?_
      refine wp_region_lit ?_  -- region 6 exact.go:422
      refine S_beg 22 rfl ?_
      refine S_val (Y_move rfl) ?_
      refine S_val (Y_assign rfl) ?_
      refine S_nil (L' := (_ :: _ :: _ :: _ :: _ :: _ :: _ :: _ :: _ :: _ :: _ :: _ :: _ :: _ :: _ :: _ :: _ :: _ :: _ :: _ :: _ :: _ :: [])) rfl rfl ?_
      refine th_n ?_
      refine hK8 _ _ ?_
      clear hK8 K8
      refine wp_ret ?_
      refine ret_r1 rfl rfl ?_  -- r1
      have : k = xs.length := by omega
      subst this
      exact ⟨b1, rfl, fb1, Blk.eq B1 (by simp [zeros]), G⟩

set_option maxHeartbeats 400000 in
set_option maxRecDepth 20000 in
theorem laws_toCounted_c (Pr : Nat → Prop) (A B C : Option Addr) (h : LH) (xs : List Int) (c d e : Nat) (w : World) (hA : RC Pr w A h.cells) (hB : R1 Pr w B (ints h.roots)) (hC : R1 Pr w C (ints xs)) (hz : hsize h ≤ 1048576) (hxz : xs.length ≤ 1048576) :
    Calls Try.prog 54 #[.agg #[.slice A h.cells.length c, .slice B h.roots.length d, .slice C xs.length e]] w (Ret fun v w' => ∃ a b f rs, v = .agg #[.slice (some ⟨a, 0, none⟩) h.cells.length h.cells.length, .slice (some ⟨b, 0, none⟩) h.roots.length h.roots.length, .slice (some ⟨f, 0, none⟩) xs.length xs.length] ∧ OH (fun k => w.heap.size ≤ k ∧ k < f) w' 80 3 (some ⟨a, 0, none⟩) (some ⟨b, 0, none⟩) h rs ∧ w.heap.size ≤ f ∧ Blk w' f 3 (ints xs).toArray ∧ Grow w w') := by
  have hz1 := hsize_cells h
  have hz2 := hsize_roots h
  refine enter Try.func54 rfl Try.ntmps54 (L := (_ :: _ :: _ :: _ :: _ :: _ :: _ :: _ :: _ :: _ :: _ :: _ :: _ :: [])) rfl ?_
  have G := Mod.refl No w
  have hA0 := hA
  have hB0 := hB
  have hC0 := hC
  refine wp_seq_k fun K1 hK1 => ?_
  refine wp_region_lit ?_  -- region 0 exact.go:127
  refine S_beg 13 rfl ?_
  refine S_box (cs := [_, _, _]) rfl rfl ?_
  intro b1 w1 fb1 g1 B1
  have lb1 := B1.lt
  replace hA := hA.grow g1
  replace hB := hB.grow g1
  replace hC := hC.grow g1
  replace G := G.grow g1
  have zg1 := g1.size
  refine S_alloc (cs := [_, _, _]) zr69 rfl ?_
  intro b2 w2 fb2 g2 B2
  have lb2 := B2.lt
  replace hA := hA.grow g2
  replace hB := hB.grow g2
  replace hC := hC.grow g2
  replace G := G.grow g2
  replace B1 := B1.grow g2
  have zg2 := g2.size
  refine S_nil (L' := (_ :: _ :: _ :: _ :: _ :: _ :: _ :: _ :: _ :: _ :: _ :: _ :: _ :: [])) rfl rfl ?_
  refine th_n ?_
  refine hK1 _ _ ?_
  clear hK1 K1
  refine wp_seq_k fun K2 hK2 => ?_
  refine wp_region_lit ?_  -- region 1 exact.go:128
  refine S_beg 13 rfl ?_
  refine S_alloc (cs := [_, _, _]) zr69 rfl ?_
  intro b3 w3 fb3 g3 B3
  have lb3 := B3.lt
  replace hA := hA.grow g3
  replace hB := hB.grow g3
  replace hC := hC.grow g3
  replace G := G.grow g3
  replace B1 := B1.grow g3
  replace B2 := B2.grow g3
  have zg3 := g3.size
  refine S_nil (L' := (_ :: _ :: _ :: _ :: _ :: _ :: _ :: _ :: _ :: _ :: _ :: _ :: _ :: [])) rfl rfl ?_
  refine th_n ?_
  refine hK2 _ _ ?_
  clear hK2 K2
  refine wp_seq_k fun K3 hK3 => ?_
  refine wp_region_lit ?_  -- region 2 exact.go:129
  refine S_beg 13 rfl ?_
  refine S_val (Y_field Try.underlying66 rfl fz66_0 (by decide) rfl) ?_
  refine S_val (Y_loadS Try.underlying25 rfl sz25 rfl (CellsAt.of_blk (pre := []) (us := [_, _]) (post := [_]) B1 rfl)) ?_  -- l1
  refine S_call rfl en21 (laws_toHeap_c _ _ _ _ _ _ _ (by assumption) (by assumption) (by omega)) ?_  -- k1 laws.toHeap
  rintro v4 w4 ⟨a4, b4, rs4, rfl, O4, g4⟩
  replace hA := hA.grow g4
  replace hB := hB.grow g4
  replace hC := hC.grow g4
  replace G := G.grow g4
  replace B1 := B1.grow g4
  replace B2 := B2.grow g4
  replace B3 := B3.grow g4
  have zg4 := g4.size
  replace O4 := O4.lt
  have OX := O4
  refine S_val (Y_field Try.underlying69 rfl fz69_0 (by decide) rfl) ?_
  refine S_stM (pre := []) (old := [_, _]) (post := [_]) (vs := [_, _]) sz33 rfl rfl rfl (by first | rfl | assumption) B3 rfl rfl ?_
  intro w5 m5 X5
  replace B3 := Blk.eq (ys := [_, _, _]) X5 rfl
  clear X5
  replace G := G.above m5 (by intro i h; first | omega | (dsimp only at h; omega))
  replace hA := hA0.grow G
  replace hB := hB0.grow G
  replace hC := hC0.grow G
  replace OX := OX.mod m5 (by intro k hk h; first | omega | (dsimp only at hk h; omega) | (dsimp only at hk; omega))
  replace B1 := B1.mod m5 (by intro h; first | omega | (dsimp only at h; omega))
  replace B2 := B2.mod m5 (by intro h; first | omega | (dsimp only at h; omega))
  have zm5 := m5.size
  refine S_nil (L' := (_ :: _ :: _ :: _ :: _ :: _ :: _ :: _ :: _ :: _ :: _ :: _ :: _ :: [])) rfl rfl ?_
  refine th_n ?_
  refine hK3 _ _ ?_
  clear hK3 K3
  refine wp_seq_k fun K4 hK4 => ?_
  refine wp_region_lit ?_  -- region 3 exact.go:130
  refine S_beg 13 rfl ?_
  refine S_val (Y_field Try.underlying66 rfl fz66_1 (by decide) rfl) ?_
  refine S_val (Y_load Try.underlying23 rfl rfl (by first | assumption | exact B1.at (by rfl) | exact B2.at (by rfl) | exact B3.at (by rfl))) ?_  -- l2
  refine S_call rfl en29 (laws_toIntS_c _ _ _ _ _ (by assumption) (by omega)) ?_  -- k2 laws.toIntS
  rintro v6 w6 ⟨b6, rfl, fb6, B6, g6⟩
  replace hA := hA.grow g6
  replace hB := hB.grow g6
  replace hC := hC.grow g6
  replace OX := OX.grow g6
  replace G := G.grow g6
  replace B1 := B1.grow g6
  replace B2 := B2.grow g6
  replace B3 := B3.grow g6
  have zg6 := g6.size
  have lb6 := B6.lt
  refine S_val (Y_field Try.underlying69 rfl fz69_1 (by decide) rfl) ?_
  refine S_stM (pre := [_, _]) (old := [_]) (post := []) (vs := [_]) sz23 rfl rfl rfl (by first | rfl | assumption) B3 rfl rfl ?_
  intro w7 m7 X7
  replace B3 := Blk.eq (ys := [_, _, _]) X7 rfl
  clear X7
  replace G := G.above m7 (by intro i h; first | omega | (dsimp only at h; omega))
  replace hA := hA0.grow G
  replace hB := hB0.grow G
  replace hC := hC0.grow G
  replace OX := OX.mod m7 (by intro k hk h; first | omega | (dsimp only at hk h; omega) | (dsimp only at hk; omega))
  replace B1 := B1.mod m7 (by intro h; first | omega | (dsimp only at h; omega))
  replace B2 := B2.mod m7 (by intro h; first | omega | (dsimp only at h; omega))
  replace B6 := B6.mod m7 (by intro h; first | omega | (dsimp only at h; omega))
  have zm7 := m7.size
  refine S_nil (L' := (_ :: _ :: _ :: _ :: _ :: _ :: _ :: _ :: _ :: _ :: _ :: _ :: _ :: [])) rfl rfl ?_
  refine th_n ?_
  refine hK4 _ _ ?_
  clear hK4 K4
  refine wp_seq_k fun K5 hK5 => ?_
  refine wp_region_lit ?_  -- region 4 exact.go:131
  refine S_beg 13 rfl ?_
  refine S_val (Y_loadS Try.underlying69 rfl sz69 rfl (by first | assumption | exact B1.row (by rfl) | exact B2.row (by rfl) | exact B3.row (by rfl) | exact B6.row (by rfl))) ?_  -- l3
  refine S_stM (pre := []) (old := [_, _, _]) (post := []) (vs := [_, _, _]) sz69 rfl rfl rfl (by first | rfl | assumption) B2 rfl rfl ?_
  intro w8 m8 X8
  replace B2 := Blk.eq (ys := [_, _, _]) X8 rfl
  clear X8
  replace G := G.above m8 (by intro i h; first | omega | (dsimp only at h; omega))
  replace hA := hA0.grow G
  replace hB := hB0.grow G
  replace hC := hC0.grow G
  replace OX := OX.mod m8 (by intro k hk h; first | omega | (dsimp only at hk h; omega) | (dsimp only at hk; omega))
  replace B1 := B1.mod m8 (by intro h; first | omega | (dsimp only at h; omega))
  replace B3 := B3.mod m8 (by intro h; first | omega | (dsimp only at h; omega))
  replace B6 := B6.mod m8 (by intro h; first | omega | (dsimp only at h; omega))
  have zm8 := m8.size
  refine S_nil (L' := (_ :: _ :: _ :: _ :: _ :: _ :: _ :: _ :: _ :: _ :: _ :: _ :: _ :: [])) rfl rfl ?_
  refine th_n ?_
  refine hK5 _ _ ?_
  clear hK5 K5
  refine wp_ret ?_
  refine ret_rc (cs := [_, _, _]) Try.underlying69 rfl sz69 rfl rfl (B2.row (by rfl)) ?_  -- r1
  exact ⟨_, _, _, _, rfl, OX.weak (fun i hi => by omega), by omega, by assumption, G⟩

set_option maxHeartbeats 400000 in
set_option maxRecDepth 20000 in
theorem laws_eqCounted_c (P1 P2 : Nat → Prop) (A B C Aq Bq Cq : Option Addr) (x y : LH) (xs ys : List Int) (c d e c2 d2 e2 : Nat) (w : World) (hA : RC P1 w A x.cells) (hB : R1 P1 w B (ints x.roots)) (hC : R1 P1 w C (ints xs)) (hA2 : RC P2 w Aq y.cells) (hB2 : R1 P2 w Bq (ints y.roots)) (hC2 : R1 P2 w Cq (ints ys)) (hz : hsize x ≤ 9223372036854775807) (hxz : xs.length ≤ 9223372036854775807) :
    Calls Try.prog 56 #[.agg #[.slice A x.cells.length c, .slice B x.roots.length d, .slice C xs.length e], .agg #[.slice Aq y.cells.length c2, .slice Bq y.roots.length d2, .slice Cq ys.length e2]] w (Ret fun v w' => v = .bool (decide (x = y) && decide (xs = ys)) ∧ Grow w w') := by
  refine enter Try.func56 rfl Try.ntmps56 (L := (_ :: _ :: _ :: _ :: _ :: _ :: _ :: _ :: _ :: _ :: _ :: _ :: _ :: _ :: _ :: _ :: _ :: [])) rfl ?_
  have G := Mod.refl No w
  have hA0 := hA
  have hB0 := hB
  have hC0 := hC
  have hA20 := hA2
  have hB20 := hB2
  have hC20 := hC2
  refine wp_seq_k fun K1 hK1 => ?_
  refine wp_region_lit ?_  -- region 0 exact.go:235
  refine S_beg 17 rfl ?_
  refine S_box (cs := [_, _, _]) rfl rfl ?_
  intro b1 w1 fb1 g1 B1
  have lb1 := B1.lt
  replace hA := hA.grow g1
  replace hB := hB.grow g1
  replace hC := hC.grow g1
  replace hA2 := hA2.grow g1
  replace hB2 := hB2.grow g1
  replace hC2 := hC2.grow g1
  replace G := G.grow g1
  have zg1 := g1.size
  refine S_box (cs := [_, _, _]) rfl rfl ?_
  intro b2 w2 fb2 g2 B2
  have lb2 := B2.lt
  replace hA := hA.grow g2
  replace hB := hB.grow g2
  replace hC := hC.grow g2
  replace hA2 := hA2.grow g2
  replace hB2 := hB2.grow g2
  replace hC2 := hC2.grow g2
  replace G := G.grow g2
  replace B1 := B1.grow g2
  have zg2 := g2.size
  refine S_val (Y_assign rfl) ?_
  refine S_nil (L' := (_ :: _ :: _ :: _ :: _ :: _ :: _ :: _ :: _ :: _ :: _ :: _ :: _ :: _ :: _ :: _ :: _ :: [])) rfl rfl ?_
  refine th_n ?_
  refine hK1 _ _ ?_
  clear hK1 K1
  refine wp_seq_k fun K2 hK2 => ?_
  refine wp_seq_k fun K3 hK3 => ?_
  refine wp_region_lit ?_  -- region 1 exact.go:236
  refine S_beg 17 rfl ?_
  refine S_val (Y_field Try.underlying69 rfl fz69_0 (by decide) rfl) ?_
  refine S_val (Y_loadS Try.underlying33 rfl sz33 rfl (CellsAt.of_blk (pre := []) (us := [_, _]) (post := [_]) B1 rfl)) ?_  -- l1
  refine S_val (Y_field Try.underlying69 rfl fz69_0 (by decide) rfl) ?_
  refine S_val (Y_loadS Try.underlying33 rfl sz33 rfl (CellsAt.of_blk (pre := []) (us := [_, _]) (post := [_]) B2 rfl)) ?_  -- l2
  refine S_call rfl en24 (laws_eqHeap_c _ _ _ _ _ _ _ _ _ _ _ _ _ (by assumption) (by assumption) (by assumption) (by assumption) (by omega)) ?_  -- k1 laws.eqHeap
  rintro v3 w3 ⟨rfl, g3⟩
  replace hA := hA.grow g3
  replace hB := hB.grow g3
  replace hC := hC.grow g3
  replace hA2 := hA2.grow g3
  replace hB2 := hB2.grow g3
  replace hC2 := hC2.grow g3
  replace G := G.grow g3
  replace B1 := B1.grow g3
  replace B2 := B2.grow g3
  have zg3 := g3.size
  refine S_val (Y_not rfl) ?_
  refine S_nil (L' := (_ :: _ :: _ :: _ :: _ :: _ :: _ :: _ :: _ :: _ :: _ :: _ :: _ :: _ :: _ :: _ :: _ :: [])) rfl rfl ?_
  refine th_n ?_
  refine hK3 _ _ ?_
  clear hK3 K3
  refine S_if rfl (fun hb1 => ?_) (fun hb1 => ?_)  -- c1
  · -- c1T
    first | with_reducible (replace hb1 := nb_nt hb1) | with_reducible (replace hb1 := nb_nf hb1) | with_reducible (replace hb1 := nb_tt hb1) | with_reducible (replace hb1 := nb_tf hb1) | with_reducible (replace hb1 := nb_bt hb1) | with_reducible (replace hb1 := nb_bf hb1) | skip
    refine wp_seq_k fun K4 hK4 => ?_
    refine wp_region_lit ?_  -- region 2 exact.go:237
    refine S_beg 17 rfl ?_
    refine S_val (Y_assign rfl) ?_
    refine S_nil (L' := (_ :: _ :: _ :: _ :: _ :: _ :: _ :: _ :: _ :: _ :: _ :: _ :: _ :: _ :: _ :: _ :: _ :: [])) rfl rfl ?_
    refine th_n ?_
    refine hK4 _ _ ?_
    clear hK4 K4
    refine wp_ret ?_
    refine th_r ?_
    clear hK2 K2
    refine ret_r1 rfl rfl ?_  -- r1
    exact ⟨by first | (simp [hb1, hb2]; done) | simp [hb1], G⟩
  · -- c1F
    first | with_reducible (replace hb1 := nb_nt hb1) | with_reducible (replace hb1 := nb_nf hb1) | with_reducible (replace hb1 := nb_tt hb1) | with_reducible (replace hb1 := nb_tf hb1) | with_reducible (replace hb1 := nb_bt hb1) | with_reducible (replace hb1 := nb_bf hb1) | skip
    refine wp_skip ?_
    refine th_n ?_
    refine hK2 _ _ ?_
    clear hK2 K2
    refine wp_seq_k fun K5 hK5 => ?_
    refine wp_seq_k fun K6 hK6 => ?_
    refine wp_region_lit ?_  -- region 3 exact.go:239
    refine S_beg 17 rfl ?_
    refine S_val (Y_field Try.underlying69 rfl fz69_1 (by decide) rfl) ?_
    refine S_val (Y_load Try.underlying23 rfl rfl (by first | assumption | exact B1.at (by rfl) | exact B2.at (by rfl))) ?_  -- l3
    refine S_val (Y_field Try.underlying69 rfl fz69_1 (by decide) rfl) ?_
    refine S_val (Y_load Try.underlying23 rfl rfl (by first | assumption | exact B1.at (by rfl) | exact B2.at (by rfl))) ?_  -- l4
    refine S_call rfl en23 (laws_eqIntS_c _ _ _ _ _ _ _ _ _ (by assumption) (by assumption) (by omega)) ?_  -- k2 laws.eqIntS
    rintro v4 w4 ⟨rfl, g4⟩
    replace hA := hA.grow g4
    replace hB := hB.grow g4
    replace hC := hC.grow g4
    replace hA2 := hA2.grow g4
    replace hB2 := hB2.grow g4
    replace hC2 := hC2.grow g4
    replace G := G.grow g4
    replace B1 := B1.grow g4
    replace B2 := B2.grow g4
    have zg4 := g4.size
    refine S_val (Y_not rfl) ?_
    refine S_nil (L' := (_ :: _ :: _ :: _ :: _ :: _ :: _ :: _ :: _ :: _ :: _ :: _ :: _ :: _ :: _ :: _ :: _ :: [])) rfl rfl ?_
    refine th_n ?_
    refine hK6 _ _ ?_
    clear hK6 K6
    refine S_if rfl (fun hb2 => ?_) (fun hb2 => ?_)  -- c2
    · -- c2T
      first | with_reducible (replace hb2 := nb_nt hb2) | with_reducible (replace hb2 := nb_nf hb2) | with_reducible (replace hb2 := nb_tt hb2) | with_reducible (replace hb2 := nb_tf hb2) | with_reducible (replace hb2 := nb_bt hb2) | with_reducible (replace hb2 := nb_bf hb2) | skip
      refine wp_seq_k fun K7 hK7 => ?_
      refine wp_region_lit ?_  -- region 4 exact.go:240
      refine S_beg 17 rfl ?_
      refine S_val (Y_assign rfl) ?_
      refine S_nil (L' := (_ :: _ :: _ :: _ :: _ :: _ :: _ :: _ :: _ :: _ :: _ :: _ :: _ :: _ :: _ :: _ :: _ :: [])) rfl rfl ?_
      refine th_n ?_
      refine hK7 _ _ ?_
      clear hK7 K7
      refine wp_ret ?_
      refine th_r ?_
      clear hK5 K5
      refine ret_r1 rfl rfl ?_  -- r2
      exact ⟨by first | (simp [hb1, hb2]; done) | simp [hb1], G⟩
    · -- c2F
      first | with_reducible (replace hb2 := nb_nt hb2) | with_reducible (replace hb2 := nb_nf hb2) | with_reducible (replace hb2 := nb_tt hb2) | with_reducible (replace hb2 := nb_tf hb2) | with_reducible (replace hb2 := nb_bt hb2) | with_reducible (replace hb2 := nb_bf hb2) | skip
      refine wp_skip ?_
      refine th_n ?_
      refine hK5 _ _ ?_
      clear hK5 K5
      refine wp_seq_k fun K8 hK8 => ?_
      refine wp_region_lit ?_  -- region 5 exact.go:242
      refine S_beg 17 rfl ?_
      refine S_val (Y_assign rfl) ?_
      refine S_nil (L' := (_ :: _ :: _ :: _ :: _ :: _ :: _ :: _ :: _ :: _ :: _ :: _ :: _ :: _ :: _ :: _ :: _ :: [])) rfl rfl ?_
      refine th_n ?_
      refine hK8 _ _ ?_
      clear hK8 K8
      refine wp_ret ?_
      refine ret_r1 rfl rfl ?_  -- r3
      exact ⟨by first | (simp [hb1, hb2]; done) | simp [hb1], G⟩

end Go.Proofs.Ytdfifnplgbceaab
