/-
  Walks: counts that are right, cells that a cell leads to, views.
  Conditions: those that each theorem states.
-/
import Derived.Test.YtjmfdmndchoplaaTy
import Derived.Test.YtjmfdmndchoplaaWalkT
import Derived.Test.YtjmfdmndchoplaaWalkP
import Derived.Test.YtjmfdmndchoplaaView
namespace Go.Proofs.Ytjmfdmndchoplaa
open Go Go.RowKit
attribute [local irreducible] wpList wpAnyH Code.wp dOp

set_option maxHeartbeats 400000 in
set_option maxRecDepth 20000 in
theorem impl_isUsed_c (Pr : Nat → Prop) (A B : Option Addr) (h : LH) (c d : Nat) (x : Int) (w : World) (hA : RC Pr w A h.cells) (hB : R1 Pr w B (ints h.roots)) (hz : hsize h ≤ 1048576) :
    Calls Try.prog 75 #[.agg #[.slice A h.cells.length c, .slice B h.roots.length d], .int .i64 x] w (Ret fun v w' => v = .bool (usedR h x) ∧ Grow w w') := by
 have hz1 := hsize_cells h
 have hz2 := hsize_roots h
 refine enter Try.func75 rfl Try.ntmps75 (L := [_,_,_,_,_,_,_,_,_,_,_,_,_,_,_,_,_,_,_,_,_,_,_,_,_,_]) rfl ?_
 have G := Mod.refl No w
 have hA0 := hA
 have hB0 := hB
 refine wp_seq_k fun K1 hK1 => ?_
 refine Sb 26 rfl ?_  -- 0
 refine S_box (cs := [_, _]) rfl rfl ?_
 intro b1 w1 fb1 g1 B1
 have lb1 := B1.lt
 replace hA := hA.grow g1
 replace hB := hB.grow g1
 replace G := G.grow g1
 have zg1 := g1.size
 refine S_val (Y_assign rfl) ?_
 refine S_nl rfl rfl ?_
 refine th_n (hK1 _ _ ?_)
 clear hK1 K1
 refine wp_seq_k fun K2 hK2 => ?_
 refine Sb 26 rfl ?_  -- 1
 refine S_val (Y_loadS Try.underlying25 rfl sz25 rfl (B1.row (by rfl))) ?_  -- l1
 refine S_call rfl en47 (impl_HeapValid_c _ _ _ _ _ _ _ (by assumption) (by assumption) (by omega)) ?_  -- k1 impl.HeapValid
 rintro v2 w2 ⟨rfl, g2⟩
 replace hA := hA.grow g2
 replace hB := hB.grow g2
 replace G := G.grow g2
 replace B1 := B1.grow g2
 have zg2 := g2.size
 refine S_val (Y_move rfl) ?_
 refine S_g 7 rfl (fun hb1 => ?_) (fun hb1 => ?_)  -- g1
 · -- g1T
  first | with_reducible (replace hb1 := nb_nt hb1) | with_reducible (replace hb1 := nb_tt hb1) | with_reducible (replace hb1 := nb_bt hb1) | skip
  refine S_on rfl rfl ?_
  refine S_val (Y_move rfl) ?_
  refine S_on rfl rfl ?_
  refine S_val (Y_geq rfl rfl) ?_
  refine S_val (Y_pickT rfl rfl) ?_
  refine S_val (Y_move rfl) ?_
  refine S_g 11 rfl (fun hb2 => ?_) (fun hb2 => ?_)  -- g2
  · -- g2T
   first | with_reducible (replace hb2 := nb_nt hb2) | with_reducible (replace hb2 := nb_tt hb2) | with_reducible (replace hb2 := nb_bt hb2) | skip
   obtain ⟨n, rfl⟩ := Int.eq_ofNat_of_zero_le (show 0 ≤ x by omega)
   refine S_on rfl rfl ?_
   refine S_val (Y_move rfl) ?_
   refine S_on rfl rfl ?_
   refine S_val (Y_field Try.underlying25 rfl fz25_0 (by decide) rfl) ?_
   refine S_on rfl rfl ?_
   refine S_val (Y_load Try.underlying23 rfl rfl (B1.at (by rfl))) ?_  -- l2
   refine S_on rfl rfl ?_
   refine S_val (Y_len Try.underlying23 rfl) ?_
   refine S_on rfl rfl ?_
   refine S_val (Y_lss rfl rfl) ?_
   refine S_val (Y_pickT rfl rfl) ?_
   refine S_val (Y_move rfl) ?_
   refine S_g 18 rfl (fun hb3 => ?_) (fun hb3 => ?_)  -- g3
   · -- g3T
    first | with_reducible (replace hb3 := nb_nt hb3) | with_reducible (replace hb3 := nb_tt hb3) | with_reducible (replace hb3 := nb_bt hb3) | skip
    have hnN : n < h.cells.length := by omega
    obtain ⟨g2, o2, E2, d2, rfl, hp2, cc20, _⟩ := hA0.cell hnN
    have cc2 := cc20.grow G
    refine S_on rfl rfl ?_
    refine S_val (Y_field Try.underlying25 rfl fz25_0 (by decide) rfl) ?_
    refine S_on rfl rfl ?_
    refine S_val (Y_load Try.underlying23 rfl rfl (B1.at (by rfl))) ?_  -- l3
    refine S_on rfl rfl ?_
    refine S_val (Y_move rfl) ?_
    refine S_on rfl rfl ?_
    refine S_val (Y_index Try.underlying23 sz70 rfl rfl (by first | assumption | omega)) ?_
    refine S_on rfl rfl ?_
    refine S_val (Y_field Try.underlying70 rfl fz70_0 (by decide) rfl) ?_
    refine S_on rfl rfl ?_
    refine S_val (Y_load Try.underlying4 rfl rfl (by first | assumption | exact cc2.at (by rfl) | exact B1.at (by rfl))) ?_  -- l4
    refine S_val (Y_pickT rfl rfl) ?_
    refine S_val (Y_assign rfl) ?_
    refine S_nl rfl rfl ?_
    refine th_n (hK2 _ _ ?_)
    clear hK2 K2
    refine wp_ret ?_
    refine ret_r1 rfl rfl ?_  -- r1
    exact ⟨by rw [usedR_at hb1 hnN], G⟩
   · -- g3F
    first | with_reducible (replace hb3 := nb_nf hb3) | with_reducible (replace hb3 := nb_tf hb3) | with_reducible (replace hb3 := nb_bf hb3) | skip
    refine S_off rfl rfl ?_
    refine S_off rfl rfl ?_
    refine S_off rfl rfl ?_
    refine S_off rfl rfl ?_
    refine S_off rfl rfl ?_
    refine S_off rfl rfl ?_
    refine S_val (Y_pickF rfl rfl) ?_
    refine S_val (Y_assign rfl) ?_
    refine S_nl rfl rfl ?_
    refine th_n (hK2 _ _ ?_)
    clear hK2 K2
    refine wp_ret ?_
    refine ret_r1 rfl rfl ?_  -- r2
    exact ⟨by rw [usedR_big (by omega)], G⟩
  · -- g2F
   first | with_reducible (replace hb2 := nb_nf hb2) | with_reducible (replace hb2 := nb_tf hb2) | with_reducible (replace hb2 := nb_bf hb2) | skip
   refine S_off rfl rfl ?_
   refine S_off rfl rfl ?_
   refine S_off rfl rfl ?_
   refine S_off rfl rfl ?_
   refine S_off rfl rfl ?_
   refine S_val (Y_pickF rfl rfl) ?_
   refine S_val (Y_move rfl) ?_
   refine S_off rfl rfl ?_
   refine S_off rfl rfl ?_
   refine S_off rfl rfl ?_
   refine S_off rfl rfl ?_
   refine S_off rfl rfl ?_
   refine S_off rfl rfl ?_
   refine S_val (Y_pickF rfl rfl) ?_
   refine S_val (Y_assign rfl) ?_
   refine S_nl rfl rfl ?_
   refine th_n (hK2 _ _ ?_)
   clear hK2 K2
   refine wp_ret ?_
   refine ret_r1 rfl rfl ?_  -- r3
   exact ⟨by rw [usedR_neg (by omega)], G⟩
 · -- g1F
  first | with_reducible (replace hb1 := nb_nf hb1) | with_reducible (replace hb1 := nb_tf hb1) | with_reducible (replace hb1 := nb_bf hb1) | skip
  refine S_off rfl rfl ?_
  refine S_off rfl rfl ?_
  refine S_val (Y_pickF rfl rfl) ?_
  refine S_val (Y_move rfl) ?_
  refine S_off rfl rfl ?_
  refine S_off rfl rfl ?_
  refine S_off rfl rfl ?_
  refine S_off rfl rfl ?_
  refine S_off rfl rfl ?_
  refine S_val (Y_pickF rfl rfl) ?_
  refine S_val (Y_move rfl) ?_
  refine S_off rfl rfl ?_
  refine S_off rfl rfl ?_
  refine S_off rfl rfl ?_
  refine S_off rfl rfl ?_
  refine S_off rfl rfl ?_
  refine S_off rfl rfl ?_
  refine S_val (Y_pickF rfl rfl) ?_
  refine S_val (Y_assign rfl) ?_
  refine S_nl rfl rfl ?_
  refine th_n (hK2 _ _ ?_)
  clear hK2 K2
  refine wp_ret ?_
  refine ret_r1 rfl rfl ?_  -- r4
  exact ⟨by rw [usedR_f hb1], G⟩

set_option maxHeartbeats 400000 in
set_option maxRecDepth 20000 in
theorem impl_cellsFrom_c (Pr : Nat → Prop) (A B : Option Addr) (h : LH) (c d : Nat) (x : Int) (w : World) (hA : RC Pr w A h.cells) (hB : R1 Pr w B (ints h.roots)) (hz : hsize h ≤ 1048576) (va : Valid h) :
    Calls Try.prog 96 #[.agg #[.slice A h.cells.length c, .slice B h.roots.length d], .int .i64 x] w (Ret fun v w' => ∃ m u : Nat, v = .int .u64 (m : Int) ∧ m < 2 ^ 64 ∧ SetOf u (usedL h.cells) ∧ (∀ n, m.testBit n = true ↔ Rch h.cells [x] (hasB u) n) ∧ Grow w w') := by
 have hz1 := hsize_cells h
 have hz2 := hsize_roots h
 have h40 := va.le
 refine enter Try.func96 rfl Try.ntmps96 (L := [_,_,_,_,_,_,_,_,_,_,_]) rfl ?_
 have G := Mod.refl No w
 have hA0 := hA
 have hB0 := hB
 refine wp_seq_k fun K1 hK1 => ?_
 refine Sb 11 rfl ?_  -- 0
 refine S_box (cs := [_, _]) rfl rfl ?_
 intro b1 w1 fb1 g1 B1
 have lb1 := B1.lt
 replace hA := hA.grow g1
 replace hB := hB.grow g1
 replace G := G.grow g1
 have zg1 := g1.size
 refine S_val (Y_assign rfl) ?_
 refine S_nl rfl rfl ?_
 refine th_n (hK1 _ _ ?_)
 clear hK1 K1
 refine wp_seq_k fun K2 hK2 => ?_
 refine D_start 7 11 (fun w => Mod (No) w) follows rfl rfl ?_  -- d1 r1
 intro w2 g2
 replace hA := hA.grow g2
 replace hB := hB.grow g2
 replace G := G.grow g2
 replace B1 := B1.grow g2
 have zg2 := g2.size
 have GS2 := Mod.refl (No) w2
 have B1d2 := B1
 refine Dq (i := 0) rfl GS2 (fun _ hs => Y_loadS Try.underlying25 rfl sz25 rfl (by first | exact hs.cells0 (B1.row (by rfl)))) ?_
 refine Dq (i := 1) rfl GS2 (fun _ _ => Y_move rfl) ?_
 refine Dq (i := 3) rfl GS2 (fun _ hs => Y_loadS Try.underlying25 rfl sz25 rfl (by first | exact hs.cells0 (B1.row (by rfl)))) ?_
 refine D_2 (i := 2) (j := 4) (by kernel_rfl) ?_ ?_
 · -- operation 2 comes up
  refine E_bs1 (cs := [_]) (i := 2) rfl Try.underlying22 zr3 sz3 rfl rfl rfl ?_
  intro b3 w3 fb3 g3 B3
  refine ⟨GS2.grow g3, ?_⟩
  have lb3 := B3.lt
  replace hA := hA.grow g3
  replace hB := hB.grow g3
  replace G := G.grow g3
  replace GS2 := GS2.grow g3
  replace B1 := B1.grow g3
  have zg3 := g3.size
  refine D_1 (i := 4) (by kernel_rfl) ?_
  refine E_call rfl rfl en71 (impl_usedSet_c _ _ _ _ _ _ _ (by assumption) (by omega)) ?_  -- k1 impl.usedSet
  rintro v4 w4 ⟨s4, rfl, hs4, g4⟩
  replace hA := hA.grow g4
  replace hB := hB.grow g4
  replace G := G.grow g4
  replace GS2 := GS2.grow g4
  replace B1 := B1.grow g4
  replace B3 := B3.grow g4
  have zg4 := g4.size
  refine ⟨GS2, ?_⟩
  refine D_1 (i := 5) (by kernel_rfl) ?_
  refine E_call rfl rfl en98 (impl_closure_c _ _ _ _ _ h [x] _ _ _ _ _ hA (R1.of_blkE (us := ints [x]) B3) (by omega) (by simp) hs4.1 hs4.lt (by omega)) ?_  -- k2 impl.closure
  rintro v5 w5 ⟨s5, rfl, hs5, hr5, g5⟩
  replace hA := hA.grow g5
  replace hB := hB.grow g5
  replace G := G.grow g5
  replace GS2 := GS2.grow g5
  replace B1 := B1.grow g5
  replace B3 := B3.grow g5
  have zg5 := g5.size
  refine ⟨GS2, ?_⟩
  refine Dq (i := 6) rfl GS2 (fun _ _ => Y_assign rfl) ?_
  refine D_en (by kernel_rfl) rfl rfl ?_
  refine th_n (hK2 _ _ ?_)
  clear hK2 K2
  refine wp_ret ?_
  refine ret_r1 rfl rfl ?_  -- r1
  exact ⟨_, _, rfl, hs5, hs4, hr5, G⟩
 · -- operation 4 comes up
  refine E_call rfl rfl en71 (impl_usedSet_c _ _ _ _ _ _ _ (by assumption) (by omega)) ?_  -- k3 impl.usedSet
  rintro v6 w6 ⟨s6, rfl, hs6, g6⟩
  replace hA := hA.grow g6
  replace hB := hB.grow g6
  replace G := G.grow g6
  replace GS2 := GS2.grow g6
  replace B1 := B1.grow g6
  have zg6 := g6.size
  refine ⟨GS2, ?_⟩
  refine D_1 (i := 2) (by kernel_rfl) ?_
  refine E_bs1 (cs := [_]) (i := 2) rfl Try.underlying22 zr3 sz3 rfl rfl rfl ?_
  intro b7 w7 fb7 g7 B7
  refine ⟨GS2.grow g7, ?_⟩
  have lb7 := B7.lt
  replace hA := hA.grow g7
  replace hB := hB.grow g7
  replace G := G.grow g7
  replace GS2 := GS2.grow g7
  replace B1 := B1.grow g7
  have zg7 := g7.size
  refine D_1 (i := 5) (by kernel_rfl) ?_
  refine E_call rfl rfl en98 (impl_closure_c _ _ _ _ _ h [x] _ _ _ _ _ hA (R1.of_blkE (us := ints [x]) B7) (by omega) (by simp) hs6.1 hs6.lt (by omega)) ?_  -- k4 impl.closure
  rintro v8 w8 ⟨s8, rfl, hs8, hr8, g8⟩
  replace hA := hA.grow g8
  replace hB := hB.grow g8
  replace G := G.grow g8
  replace GS2 := GS2.grow g8
  replace B1 := B1.grow g8
  replace B7 := B7.grow g8
  have zg8 := g8.size
  refine ⟨GS2, ?_⟩
  refine Dq (i := 6) rfl GS2 (fun _ _ => Y_assign rfl) ?_
  refine D_en (by kernel_rfl) rfl rfl ?_
  refine th_n (hK2 _ _ ?_)
  clear hK2 K2
  refine wp_ret ?_
  refine ret_r1 rfl rfl ?_  -- r2
  exact ⟨_, _, rfl, hs8, hs6, hr8, G⟩

set_option maxHeartbeats 400000 in
set_option maxRecDepth 20000 in
theorem spec_CellsFrom_c (Pr : Nat → Prop) (A B : Option Addr) (h : LH) (c d : Nat) (x : Int) (w : World) (hA : RC Pr w A h.cells) (hB : R1 Pr w B (ints h.roots)) (hz : hsize h ≤ 1048576) (hx : -9223372036854775808 ≤ x ∧ x ≤ 9223372036854775807) :
    Calls Try.prog 72 #[.agg #[.slice A h.cells.length c, .slice B h.roots.length d], .int .i64 x] w (Ret fun v w' => ∃ A1 q cap, v = .slice A1 q cap ∧ q = (fromV h x).length ∧ OI (fun i => w.heap.size ≤ i) w' 4 A1 (bools (fromV h x)) ∧ Grow w w') := by
 have hz1 := hsize_cells h
 have hz2 := hsize_roots h
 refine enter Try.func72 rfl Try.ntmps72 (L := [_,_,_,_,_,_,_,_,_,_,_,_,_,_,_,_,_,_,_,_,_,_,_,_,_,_,_,_,_,_,_]) rfl ?_
 have G := Mod.refl No w
 have hA0 := hA
 have hB0 := hB
 refine wp_seq_k fun K1 hK1 => ?_
 refine Sb 31 rfl ?_  -- 0
 refine S_box (cs := [_, _]) rfl rfl ?_
 intro b1 w1 fb1 g1 B1
 have lb1 := B1.lt
 replace hA := hA.grow g1
 replace hB := hB.grow g1
 replace G := G.grow g1
 have zg1 := g1.size
 refine S_val (Y_assign rfl) ?_
 refine S_nl rfl rfl ?_
 refine th_n (hK1 _ _ ?_)
 clear hK1 K1
 refine wp_seq_k fun K2 hK2 => ?_
 refine wp_seq_k fun K3 hK3 => ?_
 refine Sb 31 rfl ?_  -- 1
 refine S_val (Y_loadS Try.underlying25 rfl sz25 rfl (B1.row (by rfl))) ?_  -- l1
 refine S_call rfl en56 (spec_HeapValid_c _ _ _ _ _ _ _ (by assumption) (by assumption) (by omega)) ?_  -- k1 spec.HeapValid
 rintro v2 w2 ⟨rfl, g2⟩
 replace hA := hA.grow g2
 replace hB := hB.grow g2
 replace G := G.grow g2
 replace B1 := B1.grow g2
 have zg2 := g2.size
 refine S_val (Y_not rfl) ?_
 refine S_val (Y_move rfl) ?_
 refine S_g 8 rfl (fun hb1 => ?_) (fun hb1 => ?_)  -- g1
 · -- g1T
  first | with_reducible (replace hb1 := nb_nt hb1) | with_reducible (replace hb1 := nb_tt hb1) | with_reducible (replace hb1 := nb_bt hb1) | skip
  refine S_off rfl rfl ?_
  refine S_off rfl rfl ?_
  refine S_off rfl rfl ?_
  refine S_off rfl rfl ?_
  refine S_off rfl rfl ?_
  refine S_off rfl rfl ?_
  refine S_off rfl rfl ?_
  refine S_val (Y_pickT rfl rfl) ?_
  refine S_val (Y_move rfl) ?_
  refine S_off rfl rfl ?_
  refine S_off rfl rfl ?_
  refine S_off rfl rfl ?_
  refine S_off rfl rfl ?_
  refine S_off rfl rfl ?_
  refine S_off rfl rfl ?_
  refine S_off rfl rfl ?_
  refine S_val (Y_pickT rfl rfl) ?_
  refine S_nl rfl rfl ?_
  refine th_n (hK3 _ _ ?_)
  clear hK3 K3
  refine S_ifT rfl ?_
  refine wp_seq_k fun K4 hK4 => ?_
  refine Sb 31 rfl ?_  -- 2
  refine S_bs0 Try.underlying38 sz4 ?_
  intro b3 w3 fb3 g3 B3
  have lb3 := B3.lt
  replace hA := hA.grow g3
  replace hB := hB.grow g3
  replace G := G.grow g3
  replace B1 := B1.grow g3
  have zg3 := g3.size
  refine S_val (Y_assign rfl) ?_
  refine S_nl rfl rfl ?_
  refine th_n (hK4 _ _ ?_)
  clear hK4 K4
  refine wp_ret ?_
  refine th_r ?_
  clear hK2 K2
  refine ret_r1 rfl rfl ?_  -- r1
  exact ⟨_, _, _, rfl, by rw [fromV_f (usedR_f hb1)]; rfl, by rw [fromV_f (usedR_f hb1)]; exact OI.nil _ _ _ _, G⟩
 · -- g1F
  first | with_reducible (replace hb1 := nb_nf hb1) | with_reducible (replace hb1 := nb_tf hb1) | with_reducible (replace hb1 := nb_bf hb1) | skip
  have va := valid_iff.1 hb1
  have hl := va.leads
  have h40 := va.le
  have hr4 := va.roots4
  refine S_on rfl rfl ?_
  refine S_val (Y_move rfl) ?_
  refine S_on rfl rfl ?_
  refine S_val (Y_field Try.underlying25 rfl fz25_0 (by decide) rfl) ?_
  refine S_on rfl rfl ?_
  refine S_val (Y_load Try.underlying23 rfl rfl (B1.at (by rfl))) ?_  -- l2
  refine S_on rfl rfl ?_
  refine S_val (Y_len Try.underlying23 rfl) ?_
  refine S_on rfl rfl ?_
  refine S_val (Y_sub rfl rfl rfl (by omega) (by omega)) ?_
  refine S_on rfl rfl ?_
  refine S_call rfl en44 (spec_l1In_c _ _ _ _) ?_  -- k2 spec.l1In
  rintro v w' ⟨rfl, rfl⟩
  refine S_on rfl rfl ?_
  refine S_val (Y_not rfl) ?_
  refine S_val (Y_pickF rfl rfl) ?_
  refine S_val (Y_move rfl) ?_
  refine S_g 17 rfl (fun hb2 => ?_) (fun hb2 => ?_)  -- g2
  · -- g2T
   first | with_reducible (replace hb2 := nb_nt hb2) | with_reducible (replace hb2 := nb_tt hb2) | with_reducible (replace hb2 := nb_bt hb2) | skip
   refine S_off rfl rfl ?_
   refine S_off rfl rfl ?_
   refine S_off rfl rfl ?_
   refine S_off rfl rfl ?_
   refine S_off rfl rfl ?_
   refine S_off rfl rfl ?_
   refine S_off rfl rfl ?_
   refine S_val (Y_pickT rfl rfl) ?_
   refine S_nl rfl rfl ?_
   refine th_n (hK3 _ _ ?_)
   clear hK3 K3
   refine S_ifT rfl ?_
   refine wp_seq_k fun K5 hK5 => ?_
   refine Sb 31 rfl ?_  -- 2
   refine S_bs0 Try.underlying38 sz4 ?_
   intro b5 w5 fb5 g5 B5
   have lb5 := B5.lt
   replace hA := hA.grow g5
   replace hB := hB.grow g5
   replace G := G.grow g5
   replace B1 := B1.grow g5
   have zg5 := g5.size
   refine S_val (Y_assign rfl) ?_
   refine S_nl rfl rfl ?_
   refine th_n (hK5 _ _ ?_)
   clear hK5 K5
   refine wp_ret ?_
   refine th_r ?_
   clear hK2 K2
   refine ret_r1 rfl rfl ?_  -- r2
   exact ⟨_, _, _, rfl, by rw [fromV_f (usedR_out hb2)]; rfl, by rw [fromV_f (usedR_out hb2)]; exact OI.nil _ _ _ _, G⟩
  · -- g2F
   first | with_reducible (replace hb2 := nb_nf hb2) | with_reducible (replace hb2 := nb_tf hb2) | with_reducible (replace hb2 := nb_bf hb2) | skip
   obtain ⟨n, rfl⟩ := Int.eq_ofNat_of_zero_le (show 0 ≤ x by omega)
   have hnN : n < h.cells.length := by omega
   obtain ⟨g2, o2, E2, d2, rfl, hp2, cc20, _⟩ := hA0.cell hnN
   have cc2 := cc20.grow G
   refine S_on rfl rfl ?_
   refine S_val (Y_field Try.underlying25 rfl fz25_0 (by decide) rfl) ?_
   refine S_on rfl rfl ?_
   refine S_val (Y_load Try.underlying23 rfl rfl (B1.at (by rfl))) ?_  -- l3
   refine S_on rfl rfl ?_
   refine S_val (Y_move rfl) ?_
   refine S_on rfl rfl ?_
   refine S_val (Y_index Try.underlying23 sz70 rfl rfl (by first | assumption | omega)) ?_
   refine S_on rfl rfl ?_
   refine S_val (Y_field Try.underlying70 rfl fz70_0 (by decide) rfl) ?_
   refine S_on rfl rfl ?_
   refine S_val (Y_load Try.underlying4 rfl rfl (by first | assumption | exact cc2.at (by rfl) | exact B1.at (by rfl))) ?_  -- l4
   refine S_on rfl rfl ?_
   refine S_val (Y_not rfl) ?_
   refine S_val (Y_pickF rfl rfl) ?_
   refine S_nl rfl rfl ?_
   refine th_n (hK3 _ _ ?_)
   clear hK3 K3
   refine S_if rfl (fun hb3 => ?_) (fun hb3 => ?_)  -- c1
   · -- c1T
    first | with_reducible (replace hb3 := nb_nt hb3) | with_reducible (replace hb3 := nb_tt hb3) | with_reducible (replace hb3 := nb_bt hb3) | skip
    refine wp_seq_k fun K6 hK6 => ?_
    refine Sb 31 rfl ?_  -- 2
    refine S_bs0 Try.underlying38 sz4 ?_
    intro b6 w6 fb6 g6 B6
    have lb6 := B6.lt
    replace hA := hA.grow g6
    replace hB := hB.grow g6
    replace cc2 := cc2.grow g6
    replace G := G.grow g6
    replace B1 := B1.grow g6
    have zg6 := g6.size
    refine S_val (Y_assign rfl) ?_
    refine S_nl rfl rfl ?_
    refine th_n (hK6 _ _ ?_)
    clear hK6 K6
    refine wp_ret ?_
    refine th_r ?_
    clear hK2 K2
    refine ret_r1 rfl rfl ?_  -- r3
    exact ⟨_, _, _, rfl, by rw [fromV_f (by rw [usedR_at hb1 hnN]; exact hb3)]; rfl, by rw [fromV_f (by rw [usedR_at hb1 hnN]; exact hb3)]; exact OI.nil _ _ _ _, G⟩
   · -- c1F
    first | with_reducible (replace hb3 := nb_nf hb3) | with_reducible (replace hb3 := nb_tf hb3) | with_reducible (replace hb3 := nb_bf hb3) | skip
    have hun : usedAt h.cells n = true := by rw [usedAt_at hnN]; exact hb3
    refine wp_skip ?_
    refine th_n (hK2 _ _ ?_)
    clear hK2 K2
    refine wp_seq_k fun K7 hK7 => ?_
    refine Sb 31 rfl ?_  -- 3
    refine S_val (Y_loadS Try.underlying25 rfl sz25 rfl (B1.row (by rfl))) ?_  -- l5
    refine S_val (Y_move rfl) ?_
    refine S_bs1 (cs := [_]) Try.underlying22 zr3 sz3 rfl rfl rfl ?_
    intro b7 w7 fb7 g7 B7
    have lb7 := B7.lt
    replace hA := hA.grow g7
    replace hB := hB.grow g7
    replace cc2 := cc2.grow g7
    replace G := G.grow g7
    replace B1 := B1.grow g7
    have zg7 := g7.size
    refine S_call rfl en74 (spec_l7Reach_c _ _ _ _ _ h [(n : Int)] _ _ _ _ hA (R1.of_blkE (us := ints [(n : Int)]) B7) (by omega) (by simp) (leads_one va hnN)) ?_  -- k3 spec.l7Reach
    rintro v8 w8 ⟨b8, rfl, fb8, B8, g8⟩
    replace hA := hA.grow g8
    replace hB := hB.grow g8
    replace cc2 := cc2.grow g8
    replace G := G.grow g8
    replace B1 := B1.grow g8
    replace B7 := B7.grow g8
    have zg8 := g8.size
    have lb8 := B8.lt
    refine S_val (Y_assign rfl) ?_
    refine S_nl rfl rfl ?_
    refine th_n (hK7 _ _ ?_)
    clear hK7 K7
    refine wp_ret ?_
    refine ret_r1 rfl rfl ?_  -- r4
    have hut : usedR h (n : Int) = true := by rw [usedR_at hb1 hnN]; exact hb3
    exact ⟨_, _, _, rfl, by rw [fromV_t hut, mB_len], by rw [fromV_t hut]; exact OI.of_blk' (by assumption) (by omega), G⟩

set_option maxHeartbeats 400000 in
set_option maxRecDepth 20000 in
theorem impl_CountedValid_c (Pr : Nat → Prop) (A B C : Option Addr) (h : LH) (xs : List Int) (c d e : Nat) (w : World) (hA : RC Pr w A h.cells) (hB : R1 Pr w B (ints h.roots)) (hC : R1 Pr w C (ints xs)) (hz : hsize h ≤ 1048576) (hxz : xs.length ≤ 1048576) :
    Calls Try.prog 82 #[.agg #[.slice A h.cells.length c, .slice B h.roots.length d, .slice C xs.length e]] w (Ret fun v w' => v = .bool (cvalB h xs) ∧ Grow w w') := by
 have hz1 := hsize_cells h
 have hz2 := hsize_roots h
 refine enter Try.func82 rfl Try.ntmps82 (L := [_,_,_,_,_,_,_,_,_,_,_,_,_,_]) rfl ?_
 have G := Mod.refl No w
 have hA0 := hA
 have hB0 := hB
 have hC0 := hC
 refine wp_seq_k fun K1 hK1 => ?_
 refine Sb 14 rfl ?_  -- 0
 refine S_box (cs := [_, _, _]) rfl rfl ?_
 intro b1 w1 fb1 g1 B1
 have lb1 := B1.lt
 replace hA := hA.grow g1
 replace hB := hB.grow g1
 replace hC := hC.grow g1
 replace G := G.grow g1
 have zg1 := g1.size
 refine S_val (Y_assign rfl) ?_
 refine S_nl rfl rfl ?_
 refine th_n (hK1 _ _ ?_)
 clear hK1 K1
 refine wp_seq_k fun K2 hK2 => ?_
 refine D_start 12 14 (fun w => Mod (No) w) follows rfl rfl ?_  -- d1 r1
 intro w2 g2
 replace hA := hA.grow g2
 replace hB := hB.grow g2
 replace hC := hC.grow g2
 replace G := G.grow g2
 replace B1 := B1.grow g2
 have zg2 := g2.size
 have GS2 := Mod.refl (No) w2
 have B1d2 := B1
 refine Dq (i := 0) rfl GS2 (fun _ _ => Y_field Try.underlying61 rfl fz61_0 (by decide) rfl) ?_
 refine Dq (i := 1) rfl GS2 (fun _ hs => Y_loadS Try.underlying25 rfl sz25 rfl (by first | exact hs.cells0 ((CellsAt.of_blk (pre := []) (us := [_, _]) (post := [_]) B1 rfl)))) ?_
 refine D_1 (i := 2) (by kernel_rfl) ?_
 refine E_call rfl rfl en47 (impl_HeapValid_c _ _ _ _ _ _ _ (by assumption) (by assumption) (by omega)) ?_  -- k1 impl.HeapValid
 rintro v3 w3 ⟨rfl, g3⟩
 replace hA := hA.grow g3
 replace hB := hB.grow g3
 replace hC := hC.grow g3
 replace G := G.grow g3
 replace GS2 := GS2.grow g3
 replace B1 := B1.grow g3
 have zg3 := g3.size
 refine ⟨GS2, ?_⟩
 refine Dq (i := 3) rfl GS2 (fun _ _ => Y_move rfl) ?_
 refine D_g 6 rfl (fun hb1 => ?_) (fun hb1 => ?_)  -- g1
 · -- g1T
  first | with_reducible (replace hb1 := nb_nt hb1) | with_reducible (replace hb1 := nb_tt hb1) | with_reducible (replace hb1 := nb_bt hb1) | skip
  have va := valid_iff.1 hb1
  have hl := va.leads
  have h40 := va.le
  have hr4 := va.roots4
  refine Dqon (i := 4) rfl rfl rfl GS2 (fun _ _ => Y_field Try.underlying61 rfl fz61_1 (by decide) rfl) ?_
  refine Dqon (i := 5) rfl rfl rfl GS2 (fun _ hs => Y_load Try.underlying22 rfl rfl (by first | exact hs.cell0 (B1.at (by rfl)) | exact hs.cell0 (B1d2.at (by rfl)))) ?_
  refine Dqon (i := 6) rfl rfl rfl GS2 (fun _ _ => Y_field Try.underlying61 rfl fz61_0 (by decide) rfl) ?_
  refine Dqon (i := 7) rfl rfl rfl GS2 (fun _ hs => Y_loadS Try.underlying25 rfl sz25 rfl (by first | exact hs.cells0 ((CellsAt.of_blk (pre := []) (us := [_, _]) (post := [_]) B1 rfl)) | exact hs.cells0 ((CellsAt.of_blk (pre := []) (us := [_, _]) (post := [_]) B1d2 rfl)))) ?_
  refine D_1 (i := 8) (by kernel_rfl) ?_
  refine E_calln rfl rfl rfl rfl en97 (impl_refCounts_c _ _ _ h _ _ 0 _ hA hB (by omega) hl (by decide)) ?_  -- k2 impl.refCounts
  rintro v4 w4 ⟨b4, rfl, fb4, B4, g4⟩
  replace hA := hA.grow g4
  replace hB := hB.grow g4
  replace hC := hC.grow g4
  replace G := G.grow g4
  replace GS2 := GS2.grow g4
  replace B1 := B1.grow g4
  have zg4 := g4.size
  have lb4 := B4.lt
  rw [show (fun i => Nat.testBit 0 i) = (fun _ => false) by funext i; simp] at B4
  have hRc := R1.of_blkE B4
  refine ⟨GS2, ?_⟩
  refine D_1 (i := 9) (by kernel_rfl) ?_
  refine E_calln rfl rfl rfl rfl en48 (by have h0 := impl_sameInts_c _ _ _ _ xs (cntL h.cells.length (refsAll h fun _ => false)) e h.cells.length _ hC hRc (by omega); rw [cntL_len] at h0; exact h0) ?_  -- k3 impl.sameInts
  rintro v5 w5 ⟨rfl, g5⟩
  replace hA := hA.grow g5
  replace hB := hB.grow g5
  replace hC := hC.grow g5
  replace hRc := hRc.grow g5
  replace G := G.grow g5
  replace GS2 := GS2.grow g5
  replace B1 := B1.grow g5
  replace B4 := B4.grow g5
  have zg5 := g5.size
  refine ⟨GS2, ?_⟩
  refine Dq (i := 10) rfl GS2 (fun _ _ => Y_pickT rfl rfl) ?_
  refine Dq (i := 11) rfl GS2 (fun _ _ => Y_assign rfl) ?_
  refine D_en (by kernel_rfl) rfl rfl ?_
  refine th_n (hK2 _ _ ?_)
  clear hK2 K2
  refine wp_ret ?_
  refine ret_r1 rfl rfl ?_  -- r1
  exact ⟨by rw [cvalB_t hb1, countsV_t hb1], G⟩
 · -- g1F
  first | with_reducible (replace hb1 := nb_nf hb1) | with_reducible (replace hb1 := nb_tf hb1) | with_reducible (replace hb1 := nb_bf hb1) | skip
  refine Dqoff (i := 4) rfl rfl rfl GS2 ?_
  refine Dqoff (i := 5) rfl rfl rfl GS2 ?_
  refine Dqoff (i := 6) rfl rfl rfl GS2 ?_
  refine Dqoff (i := 7) rfl rfl rfl GS2 ?_
  refine Dqoff (i := 8) rfl rfl rfl GS2 ?_
  refine Dqoff (i := 9) rfl rfl rfl GS2 ?_
  refine Dq (i := 10) rfl GS2 (fun _ _ => Y_pickF rfl rfl) ?_
  refine Dq (i := 11) rfl GS2 (fun _ _ => Y_assign rfl) ?_
  refine D_en (by kernel_rfl) rfl rfl ?_
  refine th_n (hK2 _ _ ?_)
  clear hK2 K2
  refine wp_ret ?_
  refine ret_r1 rfl rfl ?_  -- r2
  exact ⟨by rw [cvalB_f hb1], G⟩

set_option maxHeartbeats 400000 in
set_option maxRecDepth 20000 in
theorem spec_CountedValid_c (Pr : Nat → Prop) (A B C : Option Addr) (h : LH) (xs : List Int) (c d e : Nat) (w : World) (hA : RC Pr w A h.cells) (hB : R1 Pr w B (ints h.roots)) (hC : R1 Pr w C (ints xs)) (hz : hsize h ≤ 1048576) (hxz : xs.length ≤ 1048576) :
    Calls Try.prog 80 #[.agg #[.slice A h.cells.length c, .slice B h.roots.length d, .slice C xs.length e]] w (Ret fun v w' => v = .bool (cvalB h xs) ∧ Grow w w') := by
 have hz1 := hsize_cells h
 have hz2 := hsize_roots h
 refine enter Try.func80 rfl Try.ntmps80 (L := [_,_,_,_,_,_,_,_,_,_,_,_,_,_,_,_,_,_,_,_,_,_,_,_,_,_,_,_,_,_,_,_,_]) rfl ?_
 have G := Mod.refl No w
 have hA0 := hA
 have hB0 := hB
 have hC0 := hC
 refine wp_seq_k fun K1 hK1 => ?_
 refine Sb 33 rfl ?_  -- 0
 refine S_box (cs := [_, _, _]) rfl rfl ?_
 intro b1 w1 fb1 g1 B1
 have lb1 := B1.lt
 replace hA := hA.grow g1
 replace hB := hB.grow g1
 replace hC := hC.grow g1
 replace G := G.grow g1
 have zg1 := g1.size
 refine S_val (Y_assign rfl) ?_
 refine S_nl rfl rfl ?_
 refine th_n (hK1 _ _ ?_)
 clear hK1 K1
 refine wp_seq_k fun K2 hK2 => ?_
 refine Sb 33 rfl ?_  -- 1
 refine S_val (Y_field Try.underlying61 rfl fz61_0 (by decide) rfl) ?_
 refine S_val (Y_loadS Try.underlying25 rfl sz25 rfl (CellsAt.of_blk (pre := []) (us := [_, _]) (post := [_]) B1 rfl)) ?_  -- l1
 refine S_call rfl en100 (spec_RefCounts_c _ _ _ _ _ _ _ (by assumption) (by assumption) (by omega)) ?_  -- k1 spec.RefCounts
 rintro v2 w2 ⟨A2, q2, cap2, rfl, hq2, O2, g2⟩
 replace hA := hA.grow g2
 replace hB := hB.grow g2
 replace hC := hC.grow g2
 replace G := G.grow g2
 replace B1 := B1.grow g2
 have zg2 := g2.size
 subst hq2
 replace O2 := O2.lt
 have hRw := O2.r1
 have hcl := countsV_len h
 refine S_val (Y_assign rfl) ?_
 refine S_nl rfl rfl ?_
 refine th_n (hK2 _ _ ?_)
 clear hK2 K2
 refine wp_seq_k fun K3 hK3 => ?_
 refine wp_seq_k fun K4 hK4 => ?_
 refine Sb 33 rfl ?_  -- 2
 refine S_val (Y_move rfl) ?_
 refine S_val (Y_len Try.underlying22 rfl) ?_
 refine S_val (Y_field Try.underlying61 rfl fz61_1 (by decide) rfl) ?_
 refine S_val (Y_load Try.underlying22 rfl rfl (B1.at (by rfl))) ?_  -- l2
 refine S_val (Y_len Try.underlying22 rfl) ?_
 refine S_val (Y_neq rfl rfl) ?_
 refine S_nl rfl rfl ?_
 refine th_n (hK4 _ _ ?_)
 clear hK4 K4
 refine S_if rfl (fun hb1 => ?_) (fun hb1 => ?_)  -- c1
 · -- c1T
  replace hb1 := nb_nt hb1
  refine wp_seq_k fun K5 hK5 => ?_
  refine Sb 33 rfl ?_  -- 3
  refine S_val (Y_assign rfl) ?_
  refine S_nl rfl rfl ?_
  refine th_n (hK5 _ _ ?_)
  clear hK5 K5
  refine wp_ret ?_
  refine th_r ?_
  clear hK3 K3
  refine ret_r1 rfl rfl ?_  -- r1
  exact ⟨by rw [cvalB_ne (fun e => hb1 (by rw [e]))], G⟩
 · -- c1F
  replace hb1 := nb_nf hb1
  refine wp_skip ?_
  refine th_n (hK3 _ _ ?_)
  clear hK3 K3
  refine wp_seq_k fun K6 hK6 => ?_
  refine wp_seq_k fun K7 hK7 => ?_
  refine Sb 33 rfl ?_  -- 4
  refine S_val (Y_assign rfl) ?_
  refine S_nl rfl rfl ?_
  refine th_n (hK7 _ _ ?_)
  clear hK7 K7
  refine wp_block ?_
  go_loopw [4] (fun u4 wr => (∃ k : Nat, u4 = .int .i64 k ∧ k ≤ (countsV h).length ∧ (countsV h).take k = xs.take k) ∧ Mod No w2 wr) (fun u4 wr => (countsV h).length - (intOf u4).toNat)  -- L1
  case atStart =>
   refine ⟨?_, Mod.refl _ _⟩
   exact ⟨0, rfl, by omega, by simp⟩
  case round =>
   obtain ⟨w3, rfl⟩ : ∃ x : World, x = wr := ⟨_, rfl⟩
   obtain ⟨hrel, g3⟩ := hrel
   replace hA := hA.grow g3
   replace hB := hB.grow g3
   replace hC := hC.grow g3
   replace O2 := O2.grow g3
   replace hRw := hRw.grow g3
   replace G := G.grow g3
   replace B1 := B1.grow g3
   have zg3 := g3.size
   obtain ⟨k, rfl, hk, hs⟩ := hrel
   have GL3 := g3
   refine wp_seq_k fun K8 hK8 => ?_
   refine wp_seq_k fun K9 hK9 => ?_
   refine Sb 33 rfl ?_  -- 5
   refine S_val (Y_move rfl) ?_
   refine S_val (Y_move rfl) ?_
   refine S_val (Y_len Try.underlying22 rfl) ?_
   refine S_val (Y_lss rfl rfl) ?_
   refine S_nl rfl rfl ?_
   refine th_n (hK9 _ _ ?_)
   clear hK9 K9
   refine S_if rfl (fun hb2 => ?_) (fun hb2 => ?_)  -- c2
   · -- c2T
    replace hb2 := nb_tt hb2
    refine wp_skip ?_
    refine th_n (hK8 _ _ ?_)
    clear hK8 K8
    refine wp_seq_k fun K10 hK10 => ?_
    refine wp_block ?_
    refine wp_seq_k fun K11 hK11 => ?_
    refine D_start 10 33 (fun w => Mod (No) w) follows rfl rfl ?_  -- d1 r7
    intro w4 g4
    replace hA := hA.grow g4
    replace hB := hB.grow g4
    replace hC := hC.grow g4
    replace O2 := O2.grow g4
    replace hRw := hRw.grow g4
    replace G := G.grow g4
    replace GL3 := GL3.grow g4
    replace B1 := B1.grow g4
    have zg4 := g4.size
    have GS4 := Mod.refl (No) w4
    obtain ⟨g1, o1, rfl, hp1, hc1⟩ := hRw.int (k := k) (by omega)
    obtain ⟨g2, o2, rfl, hp2, hc2⟩ := hC.int (k := k) (by omega)
    have B1d4 := B1
    refine Dq (i := 0) rfl GS4 (fun _ _ => Y_move rfl) ?_
    refine Dq (i := 1) rfl GS4 (fun _ _ => Y_move rfl) ?_
    refine Dq (i := 2) rfl GS4 (fun _ _ => Y_index Try.underlying22 sz3 rfl rfl (by first | assumption | omega)) ?_
    refine Dq (i := 3) rfl GS4 (fun _ hs => Y_load Try.underlying3 rfl rfl (by first | exact hs.cell0 (by assumption) | exact hs.cell0 (B1.at (by rfl)))) ?_
    refine Dq (i := 4) rfl GS4 (fun _ _ => Y_field Try.underlying61 rfl fz61_1 (by decide) rfl) ?_
    refine Dq (i := 5) rfl GS4 (fun _ hs => Y_load Try.underlying22 rfl rfl (hs.cell0 (B1.at (by rfl)))) ?_
    refine Dq (i := 6) rfl GS4 (fun _ _ => Y_move rfl) ?_
    refine Dq (i := 7) rfl GS4 (fun _ _ => Y_index Try.underlying22 sz3 rfl rfl (by first | assumption | omega)) ?_
    refine Dq (i := 8) rfl GS4 (fun _ hs => Y_load Try.underlying3 rfl rfl (by first | exact hs.cell0 (by assumption) | exact hs.cell0 (B1.at (by rfl)))) ?_
    refine Dq (i := 9) rfl GS4 (fun _ _ => Y_neq rfl rfl) ?_
    refine D_en (by kernel_rfl) rfl rfl ?_
    refine th_n (hK11 _ _ ?_)
    clear hK11 K11
    refine S_if rfl (fun hb3 => ?_) (fun hb3 => ?_)  -- c3
    · -- c3T
     replace hb3 := nb_nt hb3
     refine wp_seq_k fun K12 hK12 => ?_
     refine Sb 33 rfl ?_  -- 8
     refine S_val (Y_assign rfl) ?_
     refine S_nl rfl rfl ?_
     refine th_n (hK12 _ _ ?_)
     clear hK12 K12
     refine wp_ret ?_
     refine ib_r ?_
     refine th_r ?_
     try clear GL3
     refine th_r ?_
     refine ib_r ?_
     refine th_r ?_
     clear hK10 K10 hK6 K6
     refine ret_r1 rfl rfl ?_  -- r2
     exact ⟨by rw [cvalB_ne (fun e => hb3 (by subst e; rfl))], G⟩
    · -- c3F
     replace hb3 := nb_nf hb3
     refine wp_skip ?_
     refine ib_n ?_
     refine th_n (hK10 _ _ ?_)
     clear hK10 K10
     refine Sb 33 rfl ?_  -- 6
     refine S_val (Y_move rfl) ?_
     refine S_val (Y_inc rfl rfl (by omega)) ?_
     refine S_val (Y_assign rfl) ?_
     refine S_nl rfl rfl ?_
     refine th_n ?_
     go_roundw  -- e1 of L1
     case rel =>
      refine ⟨?_, GL3⟩
      exact ⟨k + 1, rfl, by omega, take_eq hs (by omega) (by omega) hb3⟩
     case measure =>
      exact dec_nat (by omega)
   · -- c2F
    replace hb2 := nb_tf hb2
    refine wp_exit ?_
    refine th_x ?_
    try clear GL3
    refine th_x ?_
    refine ib_e ?_
    refine th_n (hK6 _ _ ?_)
    clear hK8 K8 hK6 K6
    refine wp_seq_k fun K13 hK13 => ?_
    refine Sb 33 rfl ?_  -- 9
    refine S_val (Y_field Try.underlying61 rfl fz61_0 (by decide) rfl) ?_
    refine S_val (Y_loadS Try.underlying25 rfl sz25 rfl (CellsAt.of_blk (pre := []) (us := [_, _]) (post := [_]) B1 rfl)) ?_  -- l6
    refine S_call rfl en56 (spec_HeapValid_c _ _ _ _ _ _ _ (by assumption) (by assumption) (by omega)) ?_  -- k2 spec.HeapValid
    rintro v5 w5 ⟨rfl, g5⟩
    replace hA := hA.grow g5
    replace hB := hB.grow g5
    replace hC := hC.grow g5
    replace O2 := O2.grow g5
    replace hRw := hRw.grow g5
    replace G := G.grow g5
    replace B1 := B1.grow g5
    have zg5 := g5.size
    refine S_val (Y_assign rfl) ?_
    refine S_nl rfl rfl ?_
    refine th_n (hK13 _ _ ?_)
    clear hK13 K13
    refine wp_ret ?_
    refine ret_r1 rfl rfl ?_  -- r3
    exact ⟨by rw [cvalB_eq (take_all hs (by omega) (by omega))], G⟩

set_option maxHeartbeats 400000 in
set_option maxRecDepth 20000 in
theorem laws_szCounted_c (Pr : Nat → Prop) (A B C : Option Addr) (h : LH) (xs : List Int) (c d e : Nat) (left : Int) (w : World) (hA : RC Pr w A h.cells) (hn : h.cells.length ≤ 9223372036854775807) (hN : ∀ x ∈ h.cells, x.refs.length ≤ 9223372036854775807) (hm : h.roots.length ≤ 9223372036854775807) (hk : xs.length ≤ 9223372036854775807) (hl : -1 ≤ left) (hl2 : left ≤ 1048576) :
    Calls Try.prog 37 #[.agg #[.slice A h.cells.length c, .slice B h.roots.length d, .slice C xs.length e], .int .i64 left] w (Ret fun v w' => ∃ r : Int, v = .int .i64 r ∧ (-1 ≤ r ∧ r ≤ 1048576 ∧ (0 ≤ r → (hsize h : Int) + xs.length + r ≤ left)) ∧ Grow w w') := by
 refine enter Try.func37 rfl Try.ntmps37 (L := [_,_,_,_,_,_,_,_,_,_,_,_,_,_,_,_,_,_]) rfl ?_
 have G := Mod.refl No w
 have hA0 := hA
 refine wp_seq_k fun K1 hK1 => ?_
 refine Sb 18 rfl ?_  -- 0
 refine S_box (cs := [_, _, _]) rfl rfl ?_
 intro b1 w1 fb1 g1 B1
 have lb1 := B1.lt
 replace hA := hA.grow g1
 replace G := G.grow g1
 have zg1 := g1.size
 refine S_val (Y_assign rfl) ?_
 refine S_nl rfl rfl ?_
 refine th_n (hK1 _ _ ?_)
 clear hK1 K1
 refine wp_seq_k fun K2 hK2 => ?_
 refine Sb 18 rfl ?_  -- 1
 refine S_val (Y_field Try.underlying58 rfl fz58_0 (by decide) rfl) ?_
 refine S_val (Y_loadS Try.underlying36 rfl sz36 rfl (CellsAt.of_blk (pre := []) (us := [_, _]) (post := [_]) B1 rfl)) ?_  -- l1
 refine S_val (Y_move rfl) ?_
 refine S_call rfl en18 (laws_szHeap_c _ _ _ _ _ _ _ _ (by assumption) (by omega) (by assumption) (by omega) (by omega) (by omega)) ?_  -- k1 laws.szHeap
 rintro v2 w2 ⟨r2, rfl, hr2, g2⟩
 replace hA := hA.grow g2
 replace G := G.grow g2
 replace B1 := B1.grow g2
 have zg2 := g2.size
 refine S_val (Y_assign rfl) ?_
 refine S_nl rfl rfl ?_
 refine th_n (hK2 _ _ ?_)
 clear hK2 K2
 refine wp_seq_k fun K3 hK3 => ?_
 refine wp_seq_k fun K4 hK4 => ?_
 refine Sb 18 rfl ?_  -- 2
 refine S_val (Y_move rfl) ?_
 refine S_val (Y_lss rfl rfl) ?_
 refine S_nl rfl rfl ?_
 refine th_n (hK4 _ _ ?_)
 clear hK4 K4
 refine S_if rfl (fun hb1 => ?_) (fun hb1 => ?_)  -- c1
 · -- c1T
  replace hb1 := nb_tt hb1
  refine wp_seq_k fun K5 hK5 => ?_
  refine Sb 18 rfl ?_  -- 3
  refine S_val (Y_assign rfl) ?_
  refine S_nl rfl rfl ?_
  refine th_n (hK5 _ _ ?_)
  clear hK5 K5
  refine wp_ret ?_
  refine th_r ?_
  clear hK3 K3
  refine ret_r1 rfl rfl ?_  -- r1
  exact ⟨_, rfl, by omega, G⟩
 · -- c1F
  replace hb1 := nb_tf hb1
  refine wp_skip ?_
  refine th_n (hK3 _ _ ?_)
  clear hK3 K3
  refine wp_seq_k fun K6 hK6 => ?_
  refine Sb 18 rfl ?_  -- 4
  refine S_val (Y_field Try.underlying58 rfl fz58_1 (by decide) rfl) ?_
  refine S_val (Y_load Try.underlying22 rfl rfl (B1.at (by rfl))) ?_  -- l2
  refine S_val (Y_move rfl) ?_
  refine S_call rfl en55 (laws_szIntS_c _ _ _ _ _ (by omega) (by omega) (by omega)) ?_  -- k2 laws.szIntS
  rintro v3 w3 ⟨r3, rfl, hr3, g3⟩
  replace hA := hA.grow g3
  replace G := G.grow g3
  replace B1 := B1.grow g3
  have zg3 := g3.size
  refine S_val (Y_assign rfl) ?_
  refine S_nl rfl rfl ?_
  refine th_n (hK6 _ _ ?_)
  clear hK6 K6
  refine wp_seq_k fun K7 hK7 => ?_
  refine wp_seq_k fun K8 hK8 => ?_
  refine Sb 18 rfl ?_  -- 5
  refine S_val (Y_move rfl) ?_
  refine S_val (Y_lss rfl rfl) ?_
  refine S_nl rfl rfl ?_
  refine th_n (hK8 _ _ ?_)
  clear hK8 K8
  refine S_if rfl (fun hb2 => ?_) (fun hb2 => ?_)  -- c2
  · -- c2T
   replace hb2 := nb_tt hb2
   refine wp_seq_k fun K9 hK9 => ?_
   refine Sb 18 rfl ?_  -- 6
   refine S_val (Y_assign rfl) ?_
   refine S_nl rfl rfl ?_
   refine th_n (hK9 _ _ ?_)
   clear hK9 K9
   refine wp_ret ?_
   refine th_r ?_
   clear hK7 K7
   refine ret_r1 rfl rfl ?_  -- r2
   exact ⟨_, rfl, by omega, G⟩
  · -- c2F
   replace hb2 := nb_tf hb2
   refine wp_skip ?_
   refine th_n (hK7 _ _ ?_)
   clear hK7 K7
   refine wp_seq_k fun K10 hK10 => ?_
   refine Sb 18 rfl ?_  -- 7
   refine S_val (Y_move rfl) ?_
   refine S_val (Y_assign rfl) ?_
   refine S_nl rfl rfl ?_
   refine th_n (hK10 _ _ ?_)
   clear hK10 K10
   refine wp_ret ?_
   refine ret_r1 rfl rfl ?_  -- r3
   exact ⟨_, rfl, by omega, G⟩

set_option maxHeartbeats 400000 in
set_option maxRecDepth 20000 in
theorem laws_toBoolS_c (Pr : Nat → Prop) (A : Option Addr) (xs : List Bool) (c : Nat) (w : World) (hA : R1 Pr w A (bools xs)) (hx : xs.length ≤ 1048576) :
    Calls Try.prog 26 #[.slice A xs.length c] w (Ret fun v w' => ∃ b, v = .slice (some ⟨b, 0, none⟩) xs.length xs.length ∧ w.heap.size ≤ b ∧ Blk w' b 4 (bools xs).toArray ∧ Grow w w') := by
 refine enter Try.func26 rfl Try.ntmps26 (L := [_,_,_,_,_,_,_,_,_,_,_,_,_,_,_,_,_,_,_,_,_,_]) rfl ?_
 have G := Mod.refl No w
 have hA0 := hA
 refine wp_seq_k fun K1 hK1 => ?_
 refine Sb 22 rfl ?_  -- 0
 refine S_val (Y_assign rfl) ?_
 refine S_nl rfl rfl ?_
 refine th_n (hK1 _ _ ?_)
 clear hK1 K1
 refine wp_seq_k fun K2 hK2 => ?_
 refine Sb 22 rfl ?_  -- 1
 refine S_val (Y_move rfl) ?_
 refine S_val (Y_len Try.underlying38 rfl) ?_
 refine S_make (z := [.bool false]) Try.underlying38 zr4 sz4 by4 rfl rfl (by omega) (by omega) (by omega) ?_
 intro b1 w1 fb1 g1 B1
 have lb1 := B1.lt
 replace hA := hA.grow g1
 replace G := G.grow g1
 have zg1 := g1.size
 refine S_val (Y_assign rfl) ?_
 refine S_nl rfl rfl ?_
 refine th_n (hK2 _ _ ?_)
 clear hK2 K2
 refine wp_seq_k fun K3 hK3 => ?_
 refine wp_seq_k fun K4 hK4 => ?_
 refine Sb 22 rfl ?_  -- 2
 refine S_val (Y_assign rfl) ?_
 refine S_nl rfl rfl ?_
 refine th_n (hK4 _ _ ?_)
 clear hK4 K4
 refine wp_block ?_
 go_loopw [4] (fun u4 wr => (∃ k : Nat, u4 = .int .i64 k ∧ k ≤ xs.length ∧ Blk wr b1 4 (bools (xs.take k) ++ zeros [.bool false] (xs.length - k)).toArray) ∧ Mod (fun i => i = b1) w1 wr) (fun u4 wr => xs.length - (intOf u4).toNat)  -- L1
 case atStart =>
  refine ⟨?_, Mod.refl _ _⟩
  exact ⟨0, rfl, by omega, by simpa [bools] using B1⟩
 case round =>
  obtain ⟨w2, rfl⟩ : ∃ x : World, x = wr := ⟨_, rfl⟩
  obtain ⟨hrel, g2⟩ := hrel
  clear B1
  replace G := G.abv g2
  replace hA := hA0.grow G
  have zg2 := g2.size
  obtain ⟨k, rfl, hk, B1⟩ := hrel
  have GL2 := g2
  refine wp_seq_k fun K5 hK5 => ?_
  refine wp_seq_k fun K6 hK6 => ?_
  refine Sb 22 rfl ?_  -- 3
  refine S_val (Y_move rfl) ?_
  refine S_val (Y_move rfl) ?_
  refine S_val (Y_len Try.underlying38 rfl) ?_
  refine S_val (Y_lss rfl rfl) ?_
  refine S_nl rfl rfl ?_
  refine th_n (hK6 _ _ ?_)
  clear hK6 K6
  refine S_if rfl (fun hb1 => ?_) (fun hb1 => ?_)  -- c1
  · -- c1T
   replace hb1 := nb_tt hb1
   have hk1 : k < xs.length := by omega
   obtain ⟨g1, o1, rfl, hp1, hc1⟩ := hA.bool hk1
   rw [zeros_pos (by omega)] at B1
   refine wp_skip ?_
   refine th_n (hK5 _ _ ?_)
   clear hK5 K5
   refine wp_seq_k fun K7 hK7 => ?_
   refine wp_block ?_
   refine Sb 22 rfl ?_  -- 5
   refine S_val (Y_move rfl) ?_
   refine S_val (Y_move rfl) ?_
   refine S_val (Y_move rfl) ?_
   refine S_val (Y_move rfl) ?_
   refine S_val (Y_index Try.underlying38 sz4 rfl rfl (by first | assumption | omega)) ?_
   refine S_val (Y_load Try.underlying4 rfl rfl (by first | assumption | exact B1.at (by rfl))) ?_  -- l1
   refine S_val (Y_index Try.underlying38 sz4 rfl rfl (by first | assumption | omega)) ?_
   refine S_stM (pre := bools (xs.take k)) (old := [.bool false]) (post := zeros [.bool false] (xs.length - k - 1)) (vs := [_]) sz4 rfl rfl rfl rfl (by rw [List.append_assoc]; exact B1) (by simp [bools]; omega) rfl ?_
   intro w3 m3 X3
   replace B1 := Blk.eq X3 (show _ = bools (xs.take (k + 1)) ++ zeros [.bool false] (xs.length - (k + 1)) by unfold bools; rw [List.take_succ_eq_append_getElem hk1, List.map_append, Nat.sub_sub]; rfl)
   clear X3
   replace G := G.abv m3
   replace GL2 := GL2.trn m3
   replace hA := hA0.grow G
   have zm3 := m3.size
   refine S_nl rfl rfl ?_
   refine ib_n ?_
   refine th_n (hK7 _ _ ?_)
   clear hK7 K7
   refine Sb 22 rfl ?_  -- 4
   refine S_val (Y_move rfl) ?_
   refine S_val (Y_inc rfl rfl (by omega)) ?_
   refine S_val (Y_assign rfl) ?_
   refine S_nl rfl rfl ?_
   refine th_n ?_
   go_roundw  -- e1 of L1
   case rel =>
    refine ⟨?_, GL2⟩
    exact ⟨k + 1, rfl, by omega, B1⟩
   case measure =>
    exact dec_nat (by omega)
  · -- c1F
   replace hb1 := nb_tf hb1
   refine wp_exit ?_
   refine th_x ?_
   try clear GL2
   refine th_x ?_
   refine ib_e ?_
   refine th_n (hK3 _ _ ?_)
   clear hK5 K5 hK3 K3
   refine wp_seq_k fun K8 hK8 => ?_
   refine Sb 22 rfl ?_  -- 6
   refine S_val (Y_move rfl) ?_
   refine S_val (Y_assign rfl) ?_
   refine S_nl rfl rfl ?_
   refine th_n (hK8 _ _ ?_)
   clear hK8 K8
   refine wp_ret ?_
   refine ret_r1 rfl rfl ?_  -- r1
   have : k = xs.length := by omega
   subst this
   exact ⟨b1, rfl, fb1, Blk.eq B1 (by simp [zeros]), G⟩

set_option maxHeartbeats 400000 in
set_option maxRecDepth 20000 in
theorem laws_toCounted_c (Pr : Nat → Prop) (A B C : Option Addr) (h : LH) (xs : List Int) (c d e : Nat) (w : World) (hA : RC Pr w A h.cells) (hB : R1 Pr w B (ints h.roots)) (hC : R1 Pr w C (ints xs)) (hz : hsize h ≤ 1048576) (hxz : xs.length ≤ 1048576) :
    Calls Try.prog 39 #[.agg #[.slice A h.cells.length c, .slice B h.roots.length d, .slice C xs.length e]] w (Ret fun v w' => ∃ a b f rs, v = .agg #[.slice (some ⟨a, 0, none⟩) h.cells.length h.cells.length, .slice (some ⟨b, 0, none⟩) h.roots.length h.roots.length, .slice (some ⟨f, 0, none⟩) xs.length xs.length] ∧ OH (fun k => w.heap.size ≤ k ∧ k < f) w' 70 3 (some ⟨a, 0, none⟩) (some ⟨b, 0, none⟩) h rs ∧ w.heap.size ≤ f ∧ Blk w' f 3 (ints xs).toArray ∧ Grow w w') := by
 have hz1 := hsize_cells h
 have hz2 := hsize_roots h
 refine enter Try.func39 rfl Try.ntmps39 (L := [_,_,_,_,_,_,_,_,_,_,_,_,_]) rfl ?_
 have G := Mod.refl No w
 have hA0 := hA
 have hB0 := hB
 have hC0 := hC
 refine wp_seq_k fun K1 hK1 => ?_
 refine Sb 13 rfl ?_  -- 0
 refine S_box (cs := [_, _, _]) rfl rfl ?_
 intro b1 w1 fb1 g1 B1
 have lb1 := B1.lt
 replace hA := hA.grow g1
 replace hB := hB.grow g1
 replace hC := hC.grow g1
 replace G := G.grow g1
 have zg1 := g1.size
 refine S_alloc (cs := [_, _, _]) zr61 rfl ?_
 intro b2 w2 fb2 g2 B2
 have lb2 := B2.lt
 replace hA := hA.grow g2
 replace hB := hB.grow g2
 replace hC := hC.grow g2
 replace G := G.grow g2
 replace B1 := B1.grow g2
 have zg2 := g2.size
 refine S_nl rfl rfl ?_
 refine th_n (hK1 _ _ ?_)
 clear hK1 K1
 refine wp_seq_k fun K2 hK2 => ?_
 refine Sb 13 rfl ?_  -- 1
 refine S_alloc (cs := [_, _, _]) zr61 rfl ?_
 intro b3 w3 fb3 g3 B3
 have lb3 := B3.lt
 replace hA := hA.grow g3
 replace hB := hB.grow g3
 replace hC := hC.grow g3
 replace G := G.grow g3
 replace B1 := B1.grow g3
 replace B2 := B2.grow g3
 have zg3 := g3.size
 refine S_nl rfl rfl ?_
 refine th_n (hK2 _ _ ?_)
 clear hK2 K2
 refine wp_seq_k fun K3 hK3 => ?_
 refine Sb 13 rfl ?_  -- 2
 refine S_val (Y_field Try.underlying58 rfl fz58_0 (by decide) rfl) ?_
 refine S_val (Y_loadS Try.underlying36 rfl sz36 rfl (CellsAt.of_blk (pre := []) (us := [_, _]) (post := [_]) B1 rfl)) ?_  -- l1
 refine S_call rfl en20 (laws_toHeap_c _ _ _ _ _ _ _ (by assumption) (by assumption) (by omega)) ?_  -- k1 laws.toHeap
 rintro v4 w4 ⟨a4, b4, rs4, rfl, O4, g4⟩
 replace hA := hA.grow g4
 replace hB := hB.grow g4
 replace hC := hC.grow g4
 replace G := G.grow g4
 replace B1 := B1.grow g4
 replace B2 := B2.grow g4
 replace B3 := B3.grow g4
 have zg4 := g4.size
 replace O4 := O4.lt
 have OX := O4
 refine S_val (Y_field Try.underlying61 rfl fz61_0 (by decide) rfl) ?_
 refine S_stM (pre := []) (old := [_, _]) (post := [_]) (vs := [_, _]) sz25 rfl rfl rfl (by first | rfl | assumption) B3 rfl rfl ?_
 intro w5 m5 X5
 replace B3 := Blk.eq (ys := [_, _, _]) X5 rfl
 clear X5
 replace G := G.abv m5
 replace hA := hA0.grow G
 replace hB := hB0.grow G
 replace hC := hC0.grow G
 replace OX := OX.md m5
 replace B1 := B1.md m5
 replace B2 := B2.md m5
 have zm5 := m5.size
 refine S_nl rfl rfl ?_
 refine th_n (hK3 _ _ ?_)
 clear hK3 K3
 refine wp_seq_k fun K4 hK4 => ?_
 refine Sb 13 rfl ?_  -- 3
 refine S_val (Y_field Try.underlying58 rfl fz58_1 (by decide) rfl) ?_
 refine S_val (Y_load Try.underlying22 rfl rfl (B1.at (by rfl))) ?_  -- l2
 refine S_call rfl en11 (laws_toIntS_c _ _ _ _ _ (by assumption) (by omega)) ?_  -- k2 laws.toIntS
 rintro v6 w6 ⟨b6, rfl, fb6, B6, g6⟩
 replace hA := hA.grow g6
 replace hB := hB.grow g6
 replace hC := hC.grow g6
 replace OX := OX.grow g6
 replace G := G.grow g6
 replace B1 := B1.grow g6
 replace B2 := B2.grow g6
 replace B3 := B3.grow g6
 have zg6 := g6.size
 have lb6 := B6.lt
 refine S_val (Y_field Try.underlying61 rfl fz61_1 (by decide) rfl) ?_
 refine S_stM (pre := [_, _]) (old := [_]) (post := []) (vs := [_]) sz22 rfl rfl rfl (by first | rfl | assumption) B3 rfl rfl ?_
 intro w7 m7 X7
 replace B3 := Blk.eq (ys := [_, _, _]) X7 rfl
 clear X7
 replace G := G.abv m7
 replace hA := hA0.grow G
 replace hB := hB0.grow G
 replace hC := hC0.grow G
 replace OX := OX.md m7
 replace B1 := B1.md m7
 replace B2 := B2.md m7
 replace B6 := B6.md m7
 have zm7 := m7.size
 refine S_nl rfl rfl ?_
 refine th_n (hK4 _ _ ?_)
 clear hK4 K4
 refine wp_seq_k fun K5 hK5 => ?_
 refine Sb 13 rfl ?_  -- 4
 refine S_val (Y_loadS Try.underlying61 rfl sz61 rfl (B3.row (by rfl))) ?_  -- l3
 refine S_stM (pre := []) (old := [_, _, _]) (post := []) (vs := [_, _, _]) sz61 rfl rfl rfl (by first | rfl | assumption) B2 rfl rfl ?_
 intro w8 m8 X8
 replace B2 := Blk.eq (ys := [_, _, _]) X8 rfl
 clear X8
 replace G := G.abv m8
 replace hA := hA0.grow G
 replace hB := hB0.grow G
 replace hC := hC0.grow G
 replace OX := OX.md m8
 replace B1 := B1.md m8
 replace B3 := B3.md m8
 replace B6 := B6.md m8
 have zm8 := m8.size
 refine S_nl rfl rfl ?_
 refine th_n (hK5 _ _ ?_)
 clear hK5 K5
 refine wp_ret ?_
 refine ret_rc (cs := [_, _, _]) Try.underlying61 rfl sz61 rfl rfl (B2.row (by rfl)) ?_  -- r1
 exact ⟨_, _, _, _, rfl, OX.weak (fun i hi => by omega), by omega, by assumption, G⟩

set_option maxHeartbeats 400000 in
set_option maxRecDepth 20000 in
theorem laws_eqCounted_c (P1 P2 P5 P6 : Nat → Prop) (A B C Aq Bq Cq : Option Addr) (x y : LH) (xs ys : List Int) (c d e c2 d2 e2 : Nat) (w : World) (hA : RC P1 w A x.cells) (hB : R1 P1 w B (ints x.roots)) (hC : R1 P5 w C (ints xs)) (hA2 : RC P2 w Aq y.cells) (hB2 : R1 P2 w Bq (ints y.roots)) (hC2 : R1 P6 w Cq (ints ys)) (hz : hsize x ≤ 9223372036854775807) (hxz : xs.length ≤ 9223372036854775807) :
    Calls Try.prog 41 #[.agg #[.slice A x.cells.length c, .slice B x.roots.length d, .slice C xs.length e], .agg #[.slice Aq y.cells.length c2, .slice Bq y.roots.length d2, .slice Cq ys.length e2]] w (Ret fun v w' => v = .bool (decide (x = y) && decide (xs = ys)) ∧ Grow w w') := by
 refine enter Try.func41 rfl Try.ntmps41 (L := [_,_,_,_,_,_,_,_,_,_,_,_,_,_,_,_,_]) rfl ?_
 have G := Mod.refl No w
 have hA0 := hA
 have hB0 := hB
 have hC0 := hC
 have hA20 := hA2
 have hB20 := hB2
 have hC20 := hC2
 refine wp_seq_k fun K1 hK1 => ?_
 refine Sb 17 rfl ?_  -- 0
 refine S_box (cs := [_, _, _]) rfl rfl ?_
 intro b1 w1 fb1 g1 B1
 have lb1 := B1.lt
 replace hA := hA.grow g1
 replace hB := hB.grow g1
 replace hC := hC.grow g1
 replace hA2 := hA2.grow g1
 replace hB2 := hB2.grow g1
 replace hC2 := hC2.grow g1
 replace G := G.grow g1
 have zg1 := g1.size
 refine S_box (cs := [_, _, _]) rfl rfl ?_
 intro b2 w2 fb2 g2 B2
 have lb2 := B2.lt
 replace hA := hA.grow g2
 replace hB := hB.grow g2
 replace hC := hC.grow g2
 replace hA2 := hA2.grow g2
 replace hB2 := hB2.grow g2
 replace hC2 := hC2.grow g2
 replace G := G.grow g2
 replace B1 := B1.grow g2
 have zg2 := g2.size
 refine S_val (Y_assign rfl) ?_
 refine S_nl rfl rfl ?_
 refine th_n (hK1 _ _ ?_)
 clear hK1 K1
 refine wp_seq_k fun K2 hK2 => ?_
 refine wp_seq_k fun K3 hK3 => ?_
 refine Sb 17 rfl ?_  -- 1
 refine S_val (Y_field Try.underlying61 rfl fz61_0 (by decide) rfl) ?_
 refine S_val (Y_loadS Try.underlying25 rfl sz25 rfl (CellsAt.of_blk (pre := []) (us := [_, _]) (post := [_]) B1 rfl)) ?_  -- l1
 refine S_val (Y_field Try.underlying61 rfl fz61_0 (by decide) rfl) ?_
 refine S_val (Y_loadS Try.underlying25 rfl sz25 rfl (CellsAt.of_blk (pre := []) (us := [_, _]) (post := [_]) B2 rfl)) ?_  -- l2
 refine S_call rfl en13 (laws_eqHeap_c _ _ _ _ _ _ _ _ _ _ _ _ _ (by assumption) (by assumption) (by assumption) (by assumption) (by omega)) ?_  -- k1 laws.eqHeap
 rintro v3 w3 ⟨rfl, g3⟩
 replace hA := hA.grow g3
 replace hB := hB.grow g3
 replace hC := hC.grow g3
 replace hA2 := hA2.grow g3
 replace hB2 := hB2.grow g3
 replace hC2 := hC2.grow g3
 replace G := G.grow g3
 replace B1 := B1.grow g3
 replace B2 := B2.grow g3
 have zg3 := g3.size
 refine S_val (Y_not rfl) ?_
 refine S_nl rfl rfl ?_
 refine th_n (hK3 _ _ ?_)
 clear hK3 K3
 refine S_if rfl (fun hb1 => ?_) (fun hb1 => ?_)  -- c1
 · -- c1T
  first | with_reducible (replace hb1 := nb_nt hb1) | with_reducible (replace hb1 := nb_tt hb1) | with_reducible (replace hb1 := nb_bt hb1) | skip
  refine wp_seq_k fun K4 hK4 => ?_
  refine Sb 17 rfl ?_  -- 2
  refine S_val (Y_assign rfl) ?_
  refine S_nl rfl rfl ?_
  refine th_n (hK4 _ _ ?_)
  clear hK4 K4
  refine wp_ret ?_
  refine th_r ?_
  clear hK2 K2
  refine ret_r1 rfl rfl ?_  -- r1
  exact ⟨by first | (simp [hb1, hb2]; done) | simp [hb1], G⟩
 · -- c1F
  first | with_reducible (replace hb1 := nb_nf hb1) | with_reducible (replace hb1 := nb_tf hb1) | with_reducible (replace hb1 := nb_bf hb1) | skip
  refine wp_skip ?_
  refine th_n (hK2 _ _ ?_)
  clear hK2 K2
  refine wp_seq_k fun K5 hK5 => ?_
  refine wp_seq_k fun K6 hK6 => ?_
  refine Sb 17 rfl ?_  -- 3
  refine S_val (Y_field Try.underlying61 rfl fz61_1 (by decide) rfl) ?_
  refine S_val (Y_load Try.underlying22 rfl rfl (B1.at (by rfl))) ?_  -- l3
  refine S_val (Y_field Try.underlying61 rfl fz61_1 (by decide) rfl) ?_
  refine S_val (Y_load Try.underlying22 rfl rfl (B2.at (by rfl))) ?_  -- l4
  refine S_call rfl en14 (laws_eqIntS_c _ _ _ _ _ _ _ _ _ (by assumption) (by assumption) (by omega)) ?_  -- k2 laws.eqIntS
  rintro v4 w4 ⟨rfl, g4⟩
  replace hA := hA.grow g4
  replace hB := hB.grow g4
  replace hC := hC.grow g4
  replace hA2 := hA2.grow g4
  replace hB2 := hB2.grow g4
  replace hC2 := hC2.grow g4
  replace G := G.grow g4
  replace B1 := B1.grow g4
  replace B2 := B2.grow g4
  have zg4 := g4.size
  refine S_val (Y_not rfl) ?_
  refine S_nl rfl rfl ?_
  refine th_n (hK6 _ _ ?_)
  clear hK6 K6
  refine S_if rfl (fun hb2 => ?_) (fun hb2 => ?_)  -- c2
  · -- c2T
   first | with_reducible (replace hb2 := nb_nt hb2) | with_reducible (replace hb2 := nb_tt hb2) | with_reducible (replace hb2 := nb_bt hb2) | skip
   refine wp_seq_k fun K7 hK7 => ?_
   refine Sb 17 rfl ?_  -- 4
   refine S_val (Y_assign rfl) ?_
   refine S_nl rfl rfl ?_
   refine th_n (hK7 _ _ ?_)
   clear hK7 K7
   refine wp_ret ?_
   refine th_r ?_
   clear hK5 K5
   refine ret_r1 rfl rfl ?_  -- r2
   exact ⟨by first | (simp [hb1, hb2]; done) | simp [hb1], G⟩
  · -- c2F
   first | with_reducible (replace hb2 := nb_nf hb2) | with_reducible (replace hb2 := nb_tf hb2) | with_reducible (replace hb2 := nb_bf hb2) | skip
   refine wp_skip ?_
   refine th_n (hK5 _ _ ?_)
   clear hK5 K5
   refine wp_seq_k fun K8 hK8 => ?_
   refine Sb 17 rfl ?_  -- 5
   refine S_val (Y_assign rfl) ?_
   refine S_nl rfl rfl ?_
   refine th_n (hK8 _ _ ?_)
   clear hK8 K8
   refine wp_ret ?_
   refine ret_r1 rfl rfl ?_  -- r3
   exact ⟨by first | (simp [hb1, hb2]; done) | simp [hb1], G⟩

end Go.Proofs.Ytjmfdmndchoplaa
