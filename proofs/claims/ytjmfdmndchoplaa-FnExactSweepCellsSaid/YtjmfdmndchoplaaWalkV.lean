/-
  Walks: what a program can see.
  Conditions: those that each theorem states.
-/
import Derived.Test.YtjmfdmndchoplaaTy
import Derived.Test.YtjmfdmndchoplaaWalkU
namespace Go.Proofs.Ytjmfdmndchoplaa
open Go Go.RowKit
attribute [local irreducible] wpList wpAnyH Code.wp dOp

set_option maxHeartbeats 400000 in
set_option maxRecDepth 20000 in
theorem impl_ViewOf_c (Pr : Nat → Prop) (A B : Option Addr) (h : LH) (c d : Nat) (w : World) (hA : RC Pr w A h.cells) (hB : R1 Pr w B (ints h.roots)) (hz : hsize h ≤ 1048576) :
    Calls Try.prog 49 #[.agg #[.slice A h.cells.length c, .slice B h.roots.length d]] w (Ret fun v w' => ∃ A1 q cap, v = .slice A1 q cap ∧ q = (viewV h).length ∧ OW (fun i => w.heap.size ≤ i) w' 3 1 A1 q cap (ints (viewV h)) ∧ Grow w w') := by
 have hz1 := hsize_cells h
 have hz2 := hsize_roots h
 refine enter Try.func49 rfl Try.ntmps49 (L := [_,_,_,_,_,_,_,_,_,_,_,_,_,_,_,_,_,_,_,_,_,_,_,_,_,_,_,_,_,_,_,_,_,_,_,_,_,_,_,_,_,_,_,_,_,_,_,_,_,_]) rfl ?_
 have G := Mod.refl No w
 have hA0 := hA
 have hB0 := hB
 refine wp_seq_k fun K1 hK1 => ?_
 refine Sb 50 rfl ?_  -- 0
 refine S_box (cs := [_, _]) rfl rfl ?_
 intro b1 w1 fb1 g1 B1
 have lb1 := B1.lt
 replace hA := hA.grow g1
 replace hB := hB.grow g1
 replace G := G.grow g1
 have zg1 := g1.size
 refine S_val (Y_assign rfl) ?_
 refine S_nl rfl rfl ?_
 refine th_n (hK1 _ _ ?_)
 clear hK1 K1
 refine wp_seq_k fun K2 hK2 => ?_
 refine wp_seq_k fun K3 hK3 => ?_
 refine Sb 50 rfl ?_  -- 1
 refine S_val (Y_loadS Try.underlying25 rfl sz25 rfl (B1.row (by rfl))) ?_  -- l1
 refine S_call rfl en47 (impl_HeapValid_c _ _ _ _ _ _ _ (by assumption) (by assumption) (by omega)) ?_  -- k1 impl.HeapValid
 rintro v2 w2 ⟨rfl, g2⟩
 replace hA := hA.grow g2
 replace hB := hB.grow g2
 replace G := G.grow g2
 replace B1 := B1.grow g2
 have zg2 := g2.size
 refine S_val (Y_not rfl) ?_
 refine S_nl rfl rfl ?_
 refine th_n (hK3 _ _ ?_)
 clear hK3 K3
 refine S_if rfl (fun hb1 => ?_) (fun hb1 => ?_)  -- c1
 · -- c1T
  first | with_reducible (replace hb1 := nb_nt hb1) | with_reducible (replace hb1 := nb_tt hb1) | with_reducible (replace hb1 := nb_bt hb1) | skip
  refine wp_seq_k fun K4 hK4 => ?_
  refine Sb 50 rfl ?_  -- 2
  refine S_val (Y_assign rfl) ?_
  refine S_nl rfl rfl ?_
  refine th_n (hK4 _ _ ?_)
  clear hK4 K4
  refine wp_ret ?_
  refine th_r ?_
  clear hK2 K2
  refine ret_r1 rfl rfl ?_  -- r1
  exact ⟨_, _, _, rfl, by rw [viewV_f hb1]; rfl, by rw [viewV_f hb1]; exact OW.nil _ _ _ _, G⟩
 · -- c1F
  first | with_reducible (replace hb1 := nb_nf hb1) | with_reducible (replace hb1 := nb_tf hb1) | with_reducible (replace hb1 := nb_bf hb1) | skip
  have va := valid_iff.1 hb1
  have hl := va.leads
  have h40 := va.le
  have hr4 := va.roots4
  refine wp_skip ?_
  refine th_n (hK2 _ _ ?_)
  clear hK2 K2
  refine wp_seq_k fun K5 hK5 => ?_
  refine Sb 50 rfl ?_  -- 3
  refine S_val (Y_loadS Try.underlying25 rfl sz25 rfl (B1.row (by rfl))) ?_  -- l2
  refine S_call rfl en88 (impl_metOrder_c _ _ _ _ _ _ _ (by assumption) (by assumption) (by omega) (by assumption) (by omega)) ?_  -- k2 impl.metOrder
  rintro v3 w3 ⟨A3, q3, cap3, rfl, hq3, O3, g3⟩
  replace hA := hA.grow g3
  replace hB := hB.grow g3
  replace G := G.grow g3
  replace B1 := B1.grow g3
  have zg3 := g3.size
  subst hq3
  replace O3 := O3.lt
  have hbn : Bnd h.cells.length (orderL h.cells h.roots nn) := orderL_bnd hl
  have hol := hbn.len
  have hRo := O3.r1
  refine S_val (Y_assign rfl) ?_
  refine S_nl rfl rfl ?_
  refine th_n (hK5 _ _ ?_)
  clear hK5 K5
  refine wp_seq_k fun K6 hK6 => ?_
  refine Sb 50 rfl ?_  -- 4
  refine S_val (Y_move rfl) ?_
  refine S_val (Y_field Try.underlying25 rfl fz25_0 (by decide) rfl) ?_
  refine S_val (Y_load Try.underlying23 rfl rfl (B1.at (by rfl))) ?_  -- l3
  refine S_val (Y_len Try.underlying23 rfl) ?_
  refine S_call rfl en89 (impl_numbersIn_c _ _ _ _ _ _ hRo hbn (by omega)) ?_  -- k3 impl.numbersIn
  rintro v4 w4 ⟨b4, rfl, fb4, B4, g4⟩
  replace hA := hA.grow g4
  replace hB := hB.grow g4
  replace hRo := hRo.grow g4
  replace G := G.grow g4
  replace B1 := B1.grow g4
  have zg4 := g4.size
  have lb4 := B4.lt
  have hRn := R1.of_blkE B4
  refine S_val (Y_assign rfl) ?_
  refine S_nl rfl rfl ?_
  refine th_n (hK6 _ _ ?_)
  clear hK6 K6
  refine wp_seq_k fun K7 hK7 => ?_
  refine Sb 50 rfl ?_  -- 5
  refine S_val (Y_field Try.underlying25 rfl fz25_1 (by decide) rfl) ?_
  refine S_val (Y_load Try.underlying22 rfl rfl (B1.at (by rfl))) ?_  -- l4
  refine S_val (Y_move rfl) ?_
  refine S_call rfl en90 (impl_renamed_c _ _ _ _ _ (orderL h.cells h.roots nn) _ _ _ _ hB hRn (by omega) (valid_roots va) (fun x hx => (hbn.2 x hx).1)) ?_  -- k4 impl.renamed
  rintro v5 w5 ⟨A5, q5, cap5, rfl, hq5, O5, g5⟩
  replace hA := hA.grow g5
  replace hB := hB.grow g5
  replace hRo := hRo.grow g5
  replace hRn := hRn.grow g5
  replace G := G.grow g5
  replace B1 := B1.grow g5
  replace B4 := B4.grow g5
  have zg5 := g5.size
  subst hq5
  have O1 := O5
  refine S_val (Y_assign rfl) ?_
  refine S_nl rfl rfl ?_
  refine th_n (hK7 _ _ ?_)
  clear hK7 K7
  refine wp_seq_k fun K8 hK8 => ?_
  refine wp_seq_k fun K9 hK9 => ?_
  refine Sb 50 rfl ?_  -- 6
  refine S_val (Y_move rfl) ?_
  refine S_val (Y_len Try.underlying22 rfl) ?_
  refine S_val (Y_move rfl) ?_
  refine S_nl rfl rfl ?_
  refine th_n (hK9 _ _ ?_)
  clear hK9 K9
  refine wp_block ?_
  obtain ⟨wz, hwz⟩ : ∃ x, x = w.heap.size := ⟨_, rfl⟩
  go_loopw [5, 25] (fun u5 u25 wr => (∃ (k q cap : Nat) (A1 : Option Addr), u25 = .int .i64 k ∧ u5 = .slice A1 q cap ∧ k ≤ (orderL h.cells h.roots nn).length ∧ q = (viewK h.cells h.roots (orderL h.cells h.roots nn) k).length ∧ OW (fun i => w4.heap.size ≤ i) wr 3 1 A1 q cap (ints (viewK h.cells h.roots (orderL h.cells h.roots nn) k))) ∧ Mod (fun i => w4.heap.size ≤ i) w5 wr) (fun u5 u25 wr => (orderL h.cells h.roots nn).length - (intOf u25).toNat)  -- L1
  case atStart =>
   refine ⟨?_, Mod.refl _ _⟩
   exact ⟨0, _, _, _, rfl, rfl, by omega, by rw [viewK_zero, List.length_map], by rw [viewK_zero]; exact O1⟩
  case round =>
   obtain ⟨w6, rfl⟩ : ∃ x : World, x = wr := ⟨_, rfl⟩
   obtain ⟨hrel, g6⟩ := hrel
   clear O1
   replace G := G.abv g6
   replace hA := hA0.grow G
   replace hB := hB0.grow G
   replace hRo := hRo.md g6
   replace hRn := hRn.md g6
   replace B1 := B1.md g6
   replace B4 := B4.md g6
   have zg6 := g6.size
   obtain ⟨k, q1, cap1, A1, rfl, rfl, hk, hq1, O1⟩ := hrel
   have hvl := viewK_len va hbn hk
   have GL6 := g6
   refine wp_seq_k fun K10 hK10 => ?_
   refine Sb 50 rfl ?_  -- 7
   refine S_val (Y_lss rfl rfl) ?_
   refine S_nl rfl rfl ?_
   refine th_n (hK10 _ _ ?_)
   clear hK10 K10
   refine wp_seq_k fun K11 hK11 => ?_
   refine S_if rfl (fun hb2 => ?_) (fun hb2 => ?_)  -- c2
   · -- c2T
    replace hb2 := nb_tt hb2
    have hk1 : k < (orderL h.cells h.roots nn).length := by omega
    obtain ⟨n, hn, hnN, hng⟩ := bnd_at hbn hk1
    obtain ⟨g4, o4, rfl, hp4, hc4⟩ := hRo.int hk1
    rw [hn] at hc4
    obtain ⟨g2, o2, E2, d2, rfl, hp2, cc20, hE20⟩ := hA0.cell hnN
    have cc2 := cc20.grow G
    have hE2 := hE20.grow G
    have hr3 := va.refs3 hnN
    have hvs := viewK_succ (roots := h.roots) hk1 hn hnN
    replace O1 := O1.lt
    refine wp_skip ?_
    refine th_n (hK11 _ _ ?_)
    clear hK11 K11
    refine wp_seq_k fun K12 hK12 => ?_
    refine wp_block ?_
    refine wp_seq_k fun K13 hK13 => ?_
    refine Sb 50 rfl ?_  -- 8
    refine S_val (Y_index Try.underlying22 sz3 rfl rfl (by first | assumption | omega)) ?_
    refine S_val (Y_load Try.underlying3 rfl rfl (by first | assumption | exact cc2.at (by rfl) | exact B1.at (by rfl) | exact B4.at (by rfl))) ?_  -- l5
    refine S_val (Y_assign rfl) ?_
    refine S_nl rfl rfl ?_
    refine th_n (hK13 _ _ ?_)
    clear hK13 K13
    refine wp_seq_k fun K14 hK14 => ?_
    refine Sb 50 rfl ?_  -- 9
    refine S_val (Y_field Try.underlying25 rfl fz25_0 (by decide) rfl) ?_
    refine S_val (Y_load Try.underlying23 rfl rfl (B1.at (by rfl))) ?_  -- l6
    refine S_val (Y_move rfl) ?_
    refine S_val (Y_index Try.underlying23 sz70 rfl rfl (by first | assumption | omega)) ?_
    refine S_val (Y_loadS Try.underlying70 rfl sz70 rfl (by first | assumption | exact B1.row (by rfl) | exact B4.row (by rfl))) ?_  -- l7
    refine S_alloc (cs := [_, _, _]) zr70 rfl ?_
    intro b7 w7 fb7 g7 B7
    have lb7 := B7.lt
    replace hA := hA.grow g7
    replace hB := hB.grow g7
    replace cc2 := cc2.grow g7
    replace hE2 := hE2.grow g7
    replace hRo := hRo.grow g7
    replace hRn := hRn.grow g7
    replace O1 := O1.grow g7
    replace G := G.grow g7
    replace GL6 := GL6.grow g7
    replace B1 := B1.grow g7
    replace B4 := B4.grow g7
    have zg7 := g7.size
    refine S_stM (pre := []) (old := [_, _, _]) (post := []) (vs := [_, _, _]) sz70 rfl rfl rfl (by first | rfl | assumption) B7 rfl rfl ?_
    intro w8 m8 X8
    replace B7 := Blk.eq (ys := [_, _, _]) X8 rfl
    clear X8
    replace G := G.abv m8
    first | replace GL6 := GL6.abv m8 | clear GL6
    replace hA := hA0.grow G
    replace hB := hB0.grow G
    replace cc2 := cc20.grow G
    replace hE2 := hE20.grow G
    replace hRo := hRo.md m8
    replace hRn := hRn.md m8
    replace O1 := O1.md m8
    replace B1 := B1.md m8
    replace B4 := B4.md m8
    have zm8 := m8.size
    refine S_nl rfl rfl ?_
    refine th_n (hK14 _ _ ?_)
    clear hK14 K14
    refine wp_seq_k fun K15 hK15 => ?_
    refine Sb 50 rfl ?_  -- 10
    refine S_val (Y_move rfl) ?_
    refine S_val (Y_field Try.underlying70 rfl fz70_1 (by decide) rfl) ?_
    refine S_val (Y_load Try.underlying3 rfl rfl (B7.at (by rfl))) ?_  -- l8
    refine S_val (Y_field Try.underlying70 rfl fz70_2 (by decide) rfl) ?_
    refine S_val (Y_load Try.underlying22 rfl rfl (B7.at (by rfl))) ?_  -- l9
    refine S_val (Y_len Try.underlying22 rfl) ?_
    refine S_bsN (cs := [_, _]) Try.underlying22 zr3 sz3 rfl rfl ?_
    intro b9 w9 fb9 g9 B9
    have lb9 := B9.lt
    replace hA := hA.grow g9
    replace hB := hB.grow g9
    replace cc2 := cc2.grow g9
    replace hE2 := hE2.grow g9
    replace hRo := hRo.grow g9
    replace hRn := hRn.grow g9
    replace O1 := O1.grow g9
    replace G := G.grow g9
    replace GL6 := GL6.grow g9
    replace B1 := B1.grow g9
    replace B4 := B4.grow g9
    replace B7 := B7.grow g9
    have zg9 := g9.size
    refine S_app Try.underlying22 zr3 sz3 by3 rfl rfl O1 rfl (Src.blk B9) (by simp [Value.oneCell']) (by omega) (Pr' := fun i => w4.heap.size ≤ i ∧ i ≠ b7) (fun i hi => by omega) (by omega) ?_
    intro A10 cap10 w10 X10 m10
    replace O1 := X10
    replace O1 : OW (fun i => w4.heap.size ≤ i ∧ i ≠ b7) w10 3 1 A10 (q1 + 2) cap10 (ints (viewK h.cells h.roots (orderL h.cells h.roots nn) k ++ [h.cells[n].data, (h.cells[n].refs.length : Int)])) := by rw [← app2]; exact O1
    clear X10
    replace G := G.abv m10
    replace GL6 := GL6.trn m10
    replace hA := hA0.grow G
    replace hB := hB0.grow G
    replace cc2 := cc20.grow G
    replace hE2 := hE20.grow G
    replace hRo := hRo.md m10
    replace hRn := hRn.md m10
    replace B1 := B1.md m10
    replace B4 := B4.md m10
    replace B7 := B7.md m10
    have zm10 := m10.size
    refine S_val (Y_assign rfl) ?_
    refine S_nl rfl rfl ?_
    refine th_n (hK15 _ _ ?_)
    clear hK15 K15
    refine Sb 50 rfl ?_  -- 11
    refine S_val (Y_move rfl) ?_
    refine S_val (Y_field Try.underlying70 rfl fz70_2 (by decide) rfl) ?_
    refine S_val (Y_load Try.underlying22 rfl rfl (B7.at (by rfl))) ?_  -- l10
    refine S_val (Y_move rfl) ?_
    refine S_call rfl en90 (impl_renamed_c _ _ _ _ _ (orderL h.cells h.roots nn) _ _ _ _ hE2 hRn (by omega) (valid_refs va hnN) (fun x hx => (hbn.2 x hx).1)) ?_  -- k5 impl.renamed
    rintro v11 w11 ⟨A11, q11, cap11, rfl, hq11, O11, g11⟩
    replace hA := hA.grow g11
    replace hB := hB.grow g11
    replace cc2 := cc2.grow g11
    replace hE2 := hE2.grow g11
    replace hRo := hRo.grow g11
    replace hRn := hRn.grow g11
    replace O1 := O1.grow g11
    replace G := G.grow g11
    replace GL6 := GL6.grow g11
    replace B1 := B1.grow g11
    replace B4 := B4.grow g11
    replace B7 := B7.grow g11
    have zg11 := g11.size
    subst hq11
    have hRs := O11.r1
    have hSs := Src.r1 hRs
    rw [ints_len, List.length_map] at hSs
    refine S_app Try.underlying22 zr3 sz3 by3 rfl rfl O1 (by rw [ints_len, List.length_map]; omega) hSs ints_one (by omega) (Pr' := fun i => w4.heap.size ≤ i ∧ i ≠ b7) (fun i hi => by omega) (by omega) ?_
    intro A12 cap12 w12 X12 m12
    replace O1 := X12
    rw [ints_apps, ← hvs] at O1
    clear X12
    replace G := G.abv m12
    replace GL6 := GL6.trn m12
    replace hA := hA0.grow G
    replace hB := hB0.grow G
    replace cc2 := cc20.grow G
    replace hE2 := hE20.grow G
    replace hRo := hRo.md m12
    replace hRn := hRn.md m12
    replace B1 := B1.md m12
    replace B4 := B4.md m12
    replace B7 := B7.md m12
    have zm12 := m12.size
    refine S_val (Y_assign rfl) ?_
    refine S_nl rfl rfl ?_
    refine ib_n ?_
    refine th_n (hK12 _ _ ?_)
    clear hK12 K12
    refine Sb 50 rfl ?_  -- 12
    refine S_val (Y_inc rfl rfl (by omega)) ?_
    refine S_val (Y_move rfl) ?_
    refine S_nl rfl rfl ?_
    refine th_n ?_
    go_roundw  -- e1 of L1
    case rel =>
     refine ⟨?_, GL6⟩
     exact ⟨k + 1, _, _, _, rfl, rfl, by omega, by rw [hvs, List.length_append, List.length_append, List.length_map]; simp; omega, O1.weak (fun i hi => hi.1)⟩
    case measure =>
     exact dec_nat (by omega)
   · -- c2F
    replace hb2 := nb_tf hb2
    refine wp_exit ?_
    refine th_x ?_
    try clear GL6
    refine th_x ?_
    refine ib_e ?_
    refine th_n (hK8 _ _ ?_)
    clear hK11 K11 hK8 K8
    refine wp_seq_k fun K16 hK16 => ?_
    refine Sb 50 rfl ?_  -- 13
    refine S_val (Y_move rfl) ?_
    refine S_val (Y_assign rfl) ?_
    refine S_nl rfl rfl ?_
    refine th_n (hK16 _ _ ?_)
    clear hK16 K16
    refine wp_ret ?_
    refine ret_r1 rfl rfl ?_  -- r2
    rw [viewK_all (by omega)] at hq1 O1
    exact ⟨_, _, _, rfl, by rw [viewV_t hb1]; exact hq1, by rw [viewV_t hb1]; exact O1.weak (fun i hi => by omega), G⟩

set_option maxHeartbeats 400000 in
set_option maxRecDepth 20000 in
theorem spec_ViewOf_c (Pr : Nat → Prop) (A B : Option Addr) (h : LH) (c d : Nat) (w : World) (hA : RC Pr w A h.cells) (hB : R1 Pr w B (ints h.roots)) (hz : hsize h ≤ 1048576) :
    Calls Try.prog 45 #[.agg #[.slice A h.cells.length c, .slice B h.roots.length d]] w (Ret fun v w' => ∃ A1 q cap, v = .slice A1 q cap ∧ q = (viewV h).length ∧ OW (fun i => w.heap.size ≤ i) w' 3 1 A1 q cap (ints (viewV h)) ∧ Grow w w') := by
 have hz1 := hsize_cells h
 have hz2 := hsize_roots h
 refine enter Try.func45 rfl Try.ntmps45 (L := [_,_,_,_,_,_,_,_,_,_,_,_,_,_,_,_,_,_,_,_,_,_,_,_,_,_,_,_,_,_,_,_,_,_,_,_,_,_,_,_,_,_,_,_,_,_,_,_,_,_,_,_,_,_,_,_,_,_,_,_,_,_,_,_,_,_,_,_,_,_,_,_,_]) rfl ?_
 have G := Mod.refl No w
 have hA0 := hA
 have hB0 := hB
 refine wp_seq_k fun K1 hK1 => ?_
 refine Sb 73 rfl ?_  -- 0
 refine S_box (cs := [_, _]) rfl rfl ?_
 intro b1 w1 fb1 g1 B1
 have lb1 := B1.lt
 replace hA := hA.grow g1
 replace hB := hB.grow g1
 replace G := G.grow g1
 have zg1 := g1.size
 refine S_val (Y_assign rfl) ?_
 refine S_nl rfl rfl ?_
 refine th_n (hK1 _ _ ?_)
 clear hK1 K1
 refine wp_seq_k fun K2 hK2 => ?_
 refine Sb 73 rfl ?_  -- 1
 refine S_bs0 Try.underlying22 sz3 ?_
 intro b2 w2 fb2 g2 B2
 have lb2 := B2.lt
 replace hA := hA.grow g2
 replace hB := hB.grow g2
 replace G := G.grow g2
 replace B1 := B1.grow g2
 have zg2 := g2.size
 refine S_val (Y_assign rfl) ?_
 refine S_nl rfl rfl ?_
 refine th_n (hK2 _ _ ?_)
 clear hK2 K2
 refine wp_seq_k fun K3 hK3 => ?_
 refine wp_seq_k fun K4 hK4 => ?_
 refine Sb 73 rfl ?_  -- 2
 refine S_val (Y_loadS Try.underlying25 rfl sz25 rfl (B1.row (by rfl))) ?_  -- l1
 refine S_call rfl en56 (spec_HeapValid_c _ _ _ _ _ _ _ (by assumption) (by assumption) (by omega)) ?_  -- k1 spec.HeapValid
 rintro v3 w3 ⟨rfl, g3⟩
 replace hA := hA.grow g3
 replace hB := hB.grow g3
 replace G := G.grow g3
 replace B1 := B1.grow g3
 replace B2 := B2.grow g3
 have zg3 := g3.size
 refine S_val (Y_not rfl) ?_
 refine S_nl rfl rfl ?_
 refine th_n (hK4 _ _ ?_)
 clear hK4 K4
 refine S_if rfl (fun hb1 => ?_) (fun hb1 => ?_)  -- c1
 · -- c1T
  first | with_reducible (replace hb1 := nb_nt hb1) | with_reducible (replace hb1 := nb_tt hb1) | with_reducible (replace hb1 := nb_bt hb1) | skip
  refine wp_seq_k fun K5 hK5 => ?_
  refine Sb 73 rfl ?_  -- 3
  refine S_val (Y_move rfl) ?_
  refine S_val (Y_assign rfl) ?_
  refine S_nl rfl rfl ?_
  refine th_n (hK5 _ _ ?_)
  clear hK5 K5
  refine wp_ret ?_
  refine th_r ?_
  clear hK3 K3
  refine ret_r1 rfl rfl ?_  -- r1
  exact ⟨_, _, _, rfl, by rw [viewV_f hb1]; rfl, by rw [viewV_f hb1]; exact OW.of_blk B2 rfl (by decide) (by omega), G⟩
 · -- c1F
  first | with_reducible (replace hb1 := nb_nf hb1) | with_reducible (replace hb1 := nb_tf hb1) | with_reducible (replace hb1 := nb_bf hb1) | skip
  have va := valid_iff.1 hb1
  have hl := va.leads
  have h40 := va.le
  have hr4 := va.roots4
  refine wp_skip ?_
  refine th_n (hK3 _ _ ?_)
  clear hK3 K3
  refine wp_seq_k fun K6 hK6 => ?_
  refine Sb 73 rfl ?_  -- 4
  refine S_val (Y_loadS Try.underlying25 rfl sz25 rfl (B1.row (by rfl))) ?_  -- l2
  refine S_call rfl en84 (spec_l9Order_c _ _ _ _ _ _ _ (by assumption) (by assumption) (by omega) (by assumption)) ?_  -- k2 spec.l9Order
  rintro v4 w4 ⟨A4, q4, cap4, rfl, hq4, O4, g4⟩
  replace hA := hA.grow g4
  replace hB := hB.grow g4
  replace G := G.grow g4
  replace B1 := B1.grow g4
  replace B2 := B2.grow g4
  have zg4 := g4.size
  subst hq4
  replace O4 := O4.lt
  have hbn : Bnd h.cells.length (orderL h.cells h.roots nn) := orderL_bnd hl
  have hol := hbn.len
  have hRo := O4.r1
  refine S_val (Y_assign rfl) ?_
  refine S_nl rfl rfl ?_
  refine th_n (hK6 _ _ ?_)
  clear hK6 K6
  refine wp_seq_k fun K7 hK7 => ?_
  refine wp_seq_k fun K8 hK8 => ?_
  refine Sb 73 rfl ?_  -- 5
  refine S_val (Y_assign rfl) ?_
  refine S_nl rfl rfl ?_
  refine th_n (hK8 _ _ ?_)
  clear hK8 K8
  refine wp_block ?_
  obtain ⟨wz, hwz⟩ : ∃ x, x = w4.heap.size := ⟨_, rfl⟩
  have O1 : OW (fun i => i = b2 ∨ wz ≤ i) w4 3 1 (some ⟨b2, 0, none⟩) 0 0 (ints []) := OW.of_blk B2 rfl (by decide) (.inl rfl)
  go_loopw [3, 5] (fun u3 u5 wr => (∃ (k q cap : Nat) (A1 : Option Addr), u5 = .int .i64 k ∧ u3 = .slice A1 q cap ∧ k ≤ h.roots.length ∧ q = ((h.roots.take k).map (nameIn (orderL h.cells h.roots nn))).length ∧ OW (fun i => i = b2 ∨ wz ≤ i) wr 3 1 A1 q cap (ints ((h.roots.take k).map (nameIn (orderL h.cells h.roots nn))))) ∧ Mod (fun i => i = b2 ∨ wz ≤ i) w4 wr) (fun u3 u5 wr => h.roots.length - (intOf u5).toNat)  -- L1
  case atStart =>
   refine ⟨?_, Mod.refl _ _⟩
   exact ⟨0, 0, 0, _, rfl, rfl, by omega, rfl, O1⟩
  case round =>
   obtain ⟨w5, rfl⟩ : ∃ x : World, x = wr := ⟨_, rfl⟩
   obtain ⟨hrel, g5⟩ := hrel
   clear O1
   replace G := G.abv g5
   replace hA := hA0.grow G
   replace hB := hB0.grow G
   replace hRo := hRo.md g5
   replace B1 := B1.md g5
   have zg5 := g5.size
   obtain ⟨k, q1, cap1, A1, rfl, rfl, hk, hq1, O1⟩ := hrel
   have GL5 := g5
   refine wp_seq_k fun K9 hK9 => ?_
   refine wp_seq_k fun K10 hK10 => ?_
   refine Sb 73 rfl ?_  -- 6
   refine S_val (Y_move rfl) ?_
   refine S_val (Y_field Try.underlying25 rfl fz25_1 (by decide) rfl) ?_
   refine S_val (Y_load Try.underlying22 rfl rfl (B1.at (by rfl))) ?_  -- l3
   refine S_val (Y_len Try.underlying22 rfl) ?_
   refine S_val (Y_lss rfl rfl) ?_
   refine S_nl rfl rfl ?_
   refine th_n (hK10 _ _ ?_)
   clear hK10 K10
   refine S_if rfl (fun hb2 => ?_) (fun hb2 => ?_)  -- c2
   · -- c2T
    replace hb2 := nb_tt hb2
    have hk1 : k < h.roots.length := by omega
    obtain ⟨g4, o4, rfl, hp4, hc4⟩ := hB.int hk1
    have htk := List.take_succ_eq_append_getElem hk1
    rw [List.length_map, List.length_take] at hq1
    refine wp_skip ?_
    refine th_n (hK9 _ _ ?_)
    clear hK9 K9
    refine wp_seq_k fun K11 hK11 => ?_
    refine wp_block ?_
    refine Sb 73 rfl ?_  -- 8
    refine S_val (Y_move rfl) ?_
    refine S_val (Y_move rfl) ?_
    refine S_val (Y_field Try.underlying25 rfl fz25_1 (by decide) rfl) ?_
    refine S_val (Y_load Try.underlying22 rfl rfl (B1.at (by rfl))) ?_  -- l4
    refine S_val (Y_move rfl) ?_
    refine S_val (Y_index Try.underlying22 sz3 rfl rfl (by first | assumption | omega)) ?_
    refine S_val (Y_load Try.underlying3 rfl rfl (by first | assumption | exact B1.at (by rfl))) ?_  -- l5
    refine S_call rfl en85 (spec_l9Name_c _ _ _ _ _ _ hRo (by omega)) ?_  -- k3 spec.l9Name
    rintro v6 w6 ⟨rfl, g6⟩
    replace hA := hA.grow g6
    replace hB := hB.grow g6
    replace hRo := hRo.grow g6
    replace O1 := O1.grow g6
    replace G := G.grow g6
    replace GL5 := GL5.grow g6
    replace B1 := B1.grow g6
    have zg6 := g6.size
    refine S_bs1 (cs := [_]) Try.underlying22 zr3 sz3 rfl rfl rfl ?_
    intro b7 w7 fb7 g7 B7
    have lb7 := B7.lt
    replace hA := hA.grow g7
    replace hB := hB.grow g7
    replace hRo := hRo.grow g7
    replace O1 := O1.grow g7
    replace G := G.grow g7
    replace GL5 := GL5.grow g7
    replace B1 := B1.grow g7
    have zg7 := g7.size
    refine S_app Try.underlying22 zr3 sz3 by3 rfl rfl O1 rfl (Src.blk B7) (by simp [Value.oneCell']) (by omega) (Pr' := fun i => i = b2 ∨ wz ≤ i) (fun i hi => hi) (by omega) ?_
    intro A8 cap8 w8 X8 m8
    replace O1 := X8
    rw [ints_app] at O1
    clear X8
    replace G := G.abv m8
    replace GL5 := GL5.trn m8
    replace hA := hA0.grow G
    replace hB := hB0.grow G
    replace hRo := hRo.md m8
    replace B1 := B1.md m8
    have zm8 := m8.size
    refine S_val (Y_assign rfl) ?_
    refine S_nl rfl rfl ?_
    refine ib_n ?_
    refine th_n (hK11 _ _ ?_)
    clear hK11 K11
    refine Sb 73 rfl ?_  -- 7
    refine S_val (Y_move rfl) ?_
    refine S_val (Y_inc rfl rfl (by omega)) ?_
    refine S_val (Y_assign rfl) ?_
    refine S_nl rfl rfl ?_
    refine th_n ?_
    go_roundw  -- e1 of L1
    case rel =>
     refine ⟨?_, GL5⟩
     exact ⟨k + 1, _, _, _, rfl, rfl, by omega, by rw [htk, List.map_append, List.length_append, List.length_map, List.length_take]; simp; omega, by rw [htk, List.map_append]; exact O1⟩
    case measure =>
     exact dec_nat (by omega)
   · -- c2F
    replace hb2 := nb_tf hb2
    refine wp_exit ?_
    refine th_x ?_
    try clear GL5
    refine th_x ?_
    refine ib_e ?_
    refine th_n (hK7 _ _ ?_)
    clear hK9 K9 hK7 K7
    refine wp_seq_k fun K12 hK12 => ?_
    refine wp_seq_k fun K13 hK13 => ?_
    refine Sb 73 rfl ?_  -- 9
    refine S_val (Y_assign rfl) ?_
    refine S_nl rfl rfl ?_
    refine th_n (hK13 _ _ ?_)
    clear hK13 K13
    refine wp_block ?_
    have hkR : k = h.roots.length := by omega
    rw [hkR, List.take_length] at hq1 O1
    go_loopw [3, 6] (fun u3 u6 wr => (∃ (k q cap : Nat) (A1 : Option Addr), u6 = .int .i64 k ∧ u3 = .slice A1 q cap ∧ k ≤ (orderL h.cells h.roots nn).length ∧ q = (viewK h.cells h.roots (orderL h.cells h.roots nn) k).length ∧ OW (fun i => i = b2 ∨ wz ≤ i) wr 3 1 A1 q cap (ints (viewK h.cells h.roots (orderL h.cells h.roots nn) k))) ∧ Mod (fun i => i = b2 ∨ wz ≤ i) w5 wr) (fun u3 u6 wr => (orderL h.cells h.roots nn).length - (intOf u6).toNat)  -- L2
    case atStart =>
     refine ⟨?_, Mod.refl _ _⟩
     exact ⟨0, _, _, _, rfl, rfl, by omega, by rw [viewK_zero]; exact hq1, by rw [viewK_zero]; exact O1⟩
    case round =>
     obtain ⟨w9, rfl⟩ : ∃ x : World, x = wr := ⟨_, rfl⟩
     obtain ⟨hrel, g9⟩ := hrel
     clear O1
     replace G := G.abv g9
     replace hA := hA0.grow G
     replace hB := hB0.grow G
     replace hRo := hRo.md g9
     replace B1 := B1.md g9
     have zg9 := g9.size
     obtain ⟨k, q1, cap1, A1, rfl, rfl, hk, hq1, O1⟩ := hrel
     have hvl := viewK_len va hbn hk
     have GL9 := g9
     refine wp_seq_k fun K14 hK14 => ?_
     refine wp_seq_k fun K15 hK15 => ?_
     refine Sb 73 rfl ?_  -- 10
     refine S_val (Y_move rfl) ?_
     refine S_val (Y_move rfl) ?_
     refine S_val (Y_len Try.underlying22 rfl) ?_
     refine S_val (Y_lss rfl rfl) ?_
     refine S_nl rfl rfl ?_
     refine th_n (hK15 _ _ ?_)
     clear hK15 K15
     refine S_if rfl (fun hb3 => ?_) (fun hb3 => ?_)  -- c3
     · -- c3T
      replace hb3 := nb_tt hb3
      have hk1 : k < (orderL h.cells h.roots nn).length := by omega
      obtain ⟨n, hn, hnN, hng⟩ := bnd_at hbn hk1
      obtain ⟨g2, o2, E2, d2, rfl, hp2, cc20, hE20⟩ := hA0.cell hnN
      have cc2 := cc20.grow G
      have hE2 := hE20.grow G
      have hr3 := va.refs3 hnN
      have hvs := viewK_succ (roots := h.roots) hk1 hn hnN
      replace O1 := O1.lt
      refine wp_skip ?_
      refine th_n (hK14 _ _ ?_)
      clear hK14 K14
      refine wp_seq_k fun K16 hK16 => ?_
      refine wp_block ?_
      refine wp_seq_k fun K17 hK17 => ?_
      refine D_start 10 73 (fun w => Mod (No) w) follows rfl rfl ?_  -- d1 r12
      intro w10 g10
      replace hA := hA.grow g10
      replace hB := hB.grow g10
      replace cc2 := cc2.grow g10
      replace hE2 := hE2.grow g10
      replace hRo := hRo.grow g10
      replace O1 := O1.grow g10
      replace G := G.grow g10
      replace GL9 := GL9.grow g10
      replace B1 := B1.grow g10
      have zg10 := g10.size
      have GS10 := Mod.refl (No) w10
      obtain ⟨g4, o4, rfl, hp4, hc4⟩ := hRo.int hk1
      rw [hn] at hc4
      have B1d10 := B1
      refine Dq (i := 0) rfl GS10 (fun _ _ => Y_field Try.underlying25 rfl fz25_0 (by decide) rfl) ?_
      refine Dq (i := 1) rfl GS10 (fun _ hs => Y_load Try.underlying23 rfl rfl (hs.cell0 (B1.at (by rfl)))) ?_
      refine Dq (i := 2) rfl GS10 (fun _ _ => Y_move rfl) ?_
      refine Dq (i := 3) rfl GS10 (fun _ _ => Y_move rfl) ?_
      refine Dq (i := 4) rfl GS10 (fun _ _ => Y_index Try.underlying22 sz3 rfl rfl (by first | assumption | omega)) ?_
      refine Dq (i := 5) rfl GS10 (fun _ hs => Y_load Try.underlying3 rfl rfl (by first | exact hs.cell0 (by assumption) | exact hs.cell0 (cc2.at (by rfl)) | exact hs.cell0 (B1.at (by rfl)))) ?_
      refine Dq (i := 6) rfl GS10 (fun _ _ => Y_index Try.underlying23 sz70 rfl rfl (by first | assumption | omega)) ?_
      refine Dq (i := 7) rfl GS10 (fun _ hs => Y_loadS Try.underlying70 rfl sz70 rfl (by first | exact hs.cells0 (by assumption) | exact hs.cells0 (B1.row (by rfl)))) ?_
      refine D_1 (i := 8) (by kernel_rfl) ?_
      refine E_alloc (cs := [_, _, _]) rfl zr70 rfl (fun b11 w11 fb11 g11 B11 => ⟨GS10.grow g11, ?_⟩)
      have lb11 := B11.lt
      replace hA := hA.grow g11
      replace hB := hB.grow g11
      replace cc2 := cc2.grow g11
      replace hE2 := hE2.grow g11
      replace hRo := hRo.grow g11
      replace O1 := O1.grow g11
      replace G := G.grow g11
      replace GL9 := GL9.grow g11
      replace GS10 := GS10.grow g11
      replace B1 := B1.grow g11
      have zg11 := g11.size
      refine D_1 (i := 9) (by kernel_rfl) ?_
      refine E_stM (pre := []) (old := [_, _, _]) (post := []) (vs := [_, _, _]) (i := 9) rfl sz70 rfl rfl rfl (by first | rfl | assumption) B11 rfl rfl ?_
      intro w12 m12 X12
      replace B11 := Blk.eq (ys := [_, _, _]) X12 rfl
      clear X12
      replace G := G.abv m12
      first | replace GL9 := GL9.abv m12 | clear GL9
      replace GS10 := GS10.abv m12
      replace hA := hA0.grow G
      replace hB := hB0.grow G
      replace cc2 := cc20.grow G
      replace hE2 := hE20.grow G
      replace hRo := hRo.md m12
      replace O1 := O1.md m12
      replace B1 := B1.md m12
      have zm12 := m12.size
      refine ⟨GS10, ?_⟩
      refine D_en (by kernel_rfl) rfl rfl ?_
      refine th_n (hK17 _ _ ?_)
      clear hK17 K17
      refine wp_seq_k fun K18 hK18 => ?_
      refine Sb 73 rfl ?_  -- 13
      refine S_val (Y_move rfl) ?_
      refine S_val (Y_field Try.underlying70 rfl fz70_1 (by decide) rfl) ?_
      refine S_val (Y_load Try.underlying3 rfl rfl (B11.at (by rfl))) ?_  -- l9
      refine S_val (Y_field Try.underlying70 rfl fz70_2 (by decide) rfl) ?_
      refine S_val (Y_load Try.underlying22 rfl rfl (B11.at (by rfl))) ?_  -- l10
      refine S_val (Y_len Try.underlying22 rfl) ?_
      refine S_bsN (cs := [_, _]) Try.underlying22 zr3 sz3 rfl rfl ?_
      intro b13 w13 fb13 g13 B13
      have lb13 := B13.lt
      replace hA := hA.grow g13
      replace hB := hB.grow g13
      replace cc2 := cc2.grow g13
      replace hE2 := hE2.grow g13
      replace hRo := hRo.grow g13
      replace O1 := O1.grow g13
      replace G := G.grow g13
      replace GL9 := GL9.grow g13
      replace B1 := B1.grow g13
      replace B11 := B11.grow g13
      have zg13 := g13.size
      refine S_app Try.underlying22 zr3 sz3 by3 rfl rfl O1 rfl (Src.blk B13) (by simp [Value.oneCell']) (by omega) (Pr' := fun i => (i = b2 ∨ wz ≤ i) ∧ i ≠ b11) (fun i hi => by omega) (by omega) ?_
      intro A14 cap14 w14 X14 m14
      replace O1 := X14
      replace O1 : OW (fun i => (i = b2 ∨ wz ≤ i) ∧ i ≠ b11) w14 3 1 A14 (q1 + 2) cap14 (ints (viewK h.cells h.roots (orderL h.cells h.roots nn) k ++ [h.cells[n].data, (h.cells[n].refs.length : Int)])) := by rw [← app2]; exact O1
      clear X14
      replace G := G.abv m14
      replace GL9 := GL9.trn m14
      replace hA := hA0.grow G
      replace hB := hB0.grow G
      replace cc2 := cc20.grow G
      replace hE2 := hE20.grow G
      replace hRo := hRo.md m14
      replace B1 := B1.md m14
      replace B11 := B11.md m14
      have zm14 := m14.size
      refine S_val (Y_assign rfl) ?_
      refine S_nl rfl rfl ?_
      refine th_n (hK18 _ _ ?_)
      clear hK18 K18
      refine wp_seq_k fun K19 hK19 => ?_
      refine Sb 73 rfl ?_  -- 14
      refine S_val (Y_assign rfl) ?_
      refine S_nl rfl rfl ?_
      refine th_n (hK19 _ _ ?_)
      clear hK19 K19
      refine wp_block ?_
      go_loopw [3, 8] (fun u3 u8 wr => (∃ (j q cap : Nat) (A1 : Option Addr), u8 = .int .i64 j ∧ u3 = .slice A1 q cap ∧ j ≤ h.cells[n].refs.length ∧ q = q1 + 2 + j ∧ OW (fun i => (i = b2 ∨ wz ≤ i) ∧ i ≠ b11) wr 3 1 A1 q cap (ints (viewK h.cells h.roots (orderL h.cells h.roots nn) k ++ [h.cells[n].data, (h.cells[n].refs.length : Int)] ++ (h.cells[n].refs.take j).map (nameIn (orderL h.cells h.roots nn))))) ∧ Mod (fun i => (i = b2 ∨ wz ≤ i) ∧ i ≠ b11) w14 wr) (fun u3 u8 wr => h.cells[n].refs.length - (intOf u8).toNat)  -- L3
      case atStart =>
       refine ⟨?_, Mod.refl _ _⟩
       exact ⟨0, _, _, _, rfl, rfl, by omega, rfl, by simpa using O1⟩
      case round =>
       obtain ⟨w15, rfl⟩ : ∃ x : World, x = wr := ⟨_, rfl⟩
       obtain ⟨hrel, g15⟩ := hrel
       clear O1
       replace G := G.abv g15
       replace GL9 := GL9.trn g15
       replace hA := hA0.grow G
       replace hB := hB0.grow G
       replace cc2 := cc20.grow G
       replace hE2 := hE20.grow G
       replace hRo := hRo.md g15
       replace B1 := B1.md g15
       replace B11 := B11.md g15
       have zg15 := g15.size
       obtain ⟨j, q2, cap2, A2, rfl, rfl, hj, hq2, O1⟩ := hrel
       have GL15 := g15
       refine wp_seq_k fun K20 hK20 => ?_
       refine wp_seq_k fun K21 hK21 => ?_
       refine Sb 73 rfl ?_  -- 15
       refine S_val (Y_move rfl) ?_
       refine S_val (Y_field Try.underlying70 rfl fz70_2 (by decide) rfl) ?_
       refine S_val (Y_load Try.underlying22 rfl rfl (B11.at (by rfl))) ?_  -- l11
       refine S_val (Y_len Try.underlying22 rfl) ?_
       refine S_val (Y_lss rfl rfl) ?_
       refine S_nl rfl rfl ?_
       refine th_n (hK21 _ _ ?_)
       clear hK21 K21
       refine S_if rfl (fun hb4 => ?_) (fun hb4 => ?_)  -- c4
       · -- c4T
        replace hb4 := nb_tt hb4
        have hj1 : j < h.cells[n].refs.length := by omega
        obtain ⟨g5, o5, rfl, hp5, hc5⟩ := hE2.int hj1
        have htj := List.take_succ_eq_append_getElem hj1
        refine wp_skip ?_
        refine th_n (hK20 _ _ ?_)
        clear hK20 K20
        refine wp_seq_k fun K22 hK22 => ?_
        refine wp_block ?_
        refine Sb 73 rfl ?_  -- 17
        refine S_val (Y_move rfl) ?_
        refine S_val (Y_move rfl) ?_
        refine S_val (Y_field Try.underlying70 rfl fz70_2 (by decide) rfl) ?_
        refine S_val (Y_load Try.underlying22 rfl rfl (B11.at (by rfl))) ?_  -- l12
        refine S_val (Y_move rfl) ?_
        refine S_val (Y_index Try.underlying22 sz3 rfl rfl (by first | assumption | omega)) ?_
        refine S_val (Y_load Try.underlying3 rfl rfl (by first | assumption | exact cc2.at (by rfl) | exact B1.at (by rfl) | exact B11.at (by rfl))) ?_  -- l13
        refine S_call rfl en85 (spec_l9Name_c _ _ _ _ _ _ hRo (by omega)) ?_  -- k4 spec.l9Name
        rintro v16 w16 ⟨rfl, g16⟩
        replace hA := hA.grow g16
        replace hB := hB.grow g16
        replace cc2 := cc2.grow g16
        replace hE2 := hE2.grow g16
        replace hRo := hRo.grow g16
        replace O1 := O1.grow g16
        replace G := G.grow g16
        replace GL9 := GL9.grow g16
        replace GL15 := GL15.grow g16
        replace B1 := B1.grow g16
        replace B11 := B11.grow g16
        have zg16 := g16.size
        refine S_bs1 (cs := [_]) Try.underlying22 zr3 sz3 rfl rfl rfl ?_
        intro b17 w17 fb17 g17 B17
        have lb17 := B17.lt
        replace hA := hA.grow g17
        replace hB := hB.grow g17
        replace cc2 := cc2.grow g17
        replace hE2 := hE2.grow g17
        replace hRo := hRo.grow g17
        replace O1 := O1.grow g17
        replace G := G.grow g17
        replace GL9 := GL9.grow g17
        replace GL15 := GL15.grow g17
        replace B1 := B1.grow g17
        replace B11 := B11.grow g17
        have zg17 := g17.size
        refine S_app Try.underlying22 zr3 sz3 by3 rfl rfl O1 rfl (Src.blk B17) (by simp [Value.oneCell']) (by omega) (Pr' := fun i => (i = b2 ∨ wz ≤ i) ∧ i ≠ b11) (fun i hi => hi) (by omega) ?_
        intro A18 cap18 w18 X18 m18
        replace O1 := X18
        rw [ints_app] at O1
        clear X18
        replace G := G.abv m18
        replace GL9 := GL9.trn m18
        replace GL15 := GL15.trn m18
        replace hA := hA0.grow G
        replace hB := hB0.grow G
        replace cc2 := cc20.grow G
        replace hE2 := hE20.grow G
        replace hRo := hRo.md m18
        replace B1 := B1.md m18
        replace B11 := B11.md m18
        have zm18 := m18.size
        refine S_val (Y_assign rfl) ?_
        refine S_nl rfl rfl ?_
        refine ib_n ?_
        refine th_n (hK22 _ _ ?_)
        clear hK22 K22
        refine Sb 73 rfl ?_  -- 16
        refine S_val (Y_move rfl) ?_
        refine S_val (Y_inc rfl rfl (by omega)) ?_
        refine S_val (Y_assign rfl) ?_
        refine S_nl rfl rfl ?_
        refine th_n ?_
        go_roundw  -- e2 of L3
        case rel =>
         refine ⟨?_, GL15⟩
         exact ⟨j + 1, _, _, _, rfl, rfl, by omega, by omega, by rw [htj, List.map_append, ← List.append_assoc]; exact O1⟩
        case measure =>
         exact dec_nat (by omega)
       · -- c4F
        replace hb4 := nb_tf hb4
        refine wp_exit ?_
        refine th_x ?_
        try clear GL15
        refine th_x ?_
        refine ib_e ?_
        refine ib_n ?_
        refine th_n (hK16 _ _ ?_)
        clear hK20 K20 hK16 K16
        refine Sb 73 rfl ?_  -- 11
        refine S_val (Y_move rfl) ?_
        refine S_val (Y_inc rfl rfl (by omega)) ?_
        refine S_val (Y_assign rfl) ?_
        refine S_nl rfl rfl ?_
        refine th_n ?_
        go_roundw  -- e3 of L2
        case rel =>
         refine ⟨?_, GL9⟩
         rw [List.take_of_length_le (by omega), ← hvs] at O1
         exact ⟨k + 1, _, _, _, rfl, rfl, by omega, by rw [hvs, List.length_append, List.length_append, List.length_map]; simp; omega, O1.weak (fun i hi => hi.1)⟩
        case measure =>
         exact dec_nat (by omega)
     · -- c3F
      replace hb3 := nb_tf hb3
      refine wp_exit ?_
      refine th_x ?_
      try clear GL9
      refine th_x ?_
      refine ib_e ?_
      refine th_n (hK12 _ _ ?_)
      clear hK14 K14 hK12 K12
      refine wp_seq_k fun K23 hK23 => ?_
      refine Sb 73 rfl ?_  -- 18
      refine S_val (Y_move rfl) ?_
      refine S_val (Y_assign rfl) ?_
      refine S_nl rfl rfl ?_
      refine th_n (hK23 _ _ ?_)
      clear hK23 K23
      refine wp_ret ?_
      refine ret_r1 rfl rfl ?_  -- r2
      rw [viewK_all (by omega)] at hq1 O1
      exact ⟨_, _, _, rfl, by rw [viewV_t hb1]; exact hq1, by rw [viewV_t hb1]; exact O1.weak (fun i hi => by omega), G⟩

end Go.Proofs.Ytjmfdmndchoplaa
