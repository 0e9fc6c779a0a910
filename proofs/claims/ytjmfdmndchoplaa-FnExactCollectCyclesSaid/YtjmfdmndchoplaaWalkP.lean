/-
  Walks: how many references lead to each cell.
  Conditions: those that each theorem states.
-/
import Derived.Test.YtjmfdmndchoplaaTy
import Derived.Test.YtjmfdmndchoplaaWalkE
import Derived.Test.YtjmfdmndchoplaaCnt
import Derived.Test.YtjmfdmndchoplaaWalkM
namespace Go.Proofs.Ytjmfdmndchoplaa
open Go Go.RowKit
attribute [local irreducible] wpList wpAnyH Code.wp dOp

set_option maxHeartbeats 400000 in
set_option maxRecDepth 20000 in
theorem spec_l7Counts_c (Pr : Nat → Prop) (A B : Option Addr) (h : LH) (c d : Nat) (w : World) (hA : RC Pr w A h.cells) (hB : R1 Pr w B (ints h.roots)) (hz : hsize h ≤ 1048576) (hl : Leads h.cells h.roots nn) :
    Calls Try.prog 81 #[.agg #[.slice A h.cells.length c, .slice B h.roots.length d]] w (Ret fun v w' => ∃ b, v = .slice (some ⟨b, 0, none⟩) h.cells.length h.cells.length ∧ w.heap.size ≤ b ∧ Blk w' b 3 (ints (cntL h.cells.length (refsAll h fun _ => false))).toArray ∧ Grow w w') := by
 have hz1 := hsize_cells h
 have hz2 := hsize_roots h
 have hz3 : ∀ k (hk : k < h.cells.length), h.cells[k].refs.length ≤ hsize h := fun k hk => hsize_refs h hk
 have hz4 : h.roots.length + rsum h.cells h.cells.length ≤ hsize h := by unfold hsize; omega
 have hAl := hA.below
 have hBl := hB.below
 refine enter Try.func81 rfl Try.ntmps81 (L := [_,_,_,_,_,_,_,_,_,_,_,_,_,_,_,_,_,_,_,_,_,_,_,_,_,_,_,_,_,_,_,_,_,_,_,_,_,_,_,_,_,_,_,_,_,_,_,_,_,_,_,_,_,_,_,_,_,_,_,_,_,_,_,_,_,_,_,_,_,_,_,_,_,_,_,_,_,_,_]) rfl ?_
 have G := Mod.refl No w
 have hAl0 := hAl
 have hBl0 := hBl
 refine wp_seq_k fun K1 hK1 => ?_
 refine Sb 79 rfl ?_  -- 0
 refine S_box (cs := [_, _]) rfl rfl ?_
 intro b1 w1 fb1 g1 B1
 have lb1 := B1.lt
 replace hAl := hAl.grow g1
 replace hBl := hBl.grow g1
 replace G := G.grow g1
 have zg1 := g1.size
 refine S_val (Y_assign rfl) ?_
 refine S_nl rfl rfl ?_
 refine th_n (hK1 _ _ ?_)
 clear hK1 K1
 refine wp_seq_k fun K2 hK2 => ?_
 refine Sb 79 rfl ?_  -- 1
 refine S_val (Y_field Try.underlying25 rfl fz25_0 (by decide) rfl) ?_
 refine S_val (Y_load Try.underlying23 rfl rfl (B1.at (by rfl))) ?_  -- l1
 refine S_val (Y_len Try.underlying23 rfl) ?_
 refine S_make (z := [.int .i64 0]) Try.underlying22 zr3 sz3 by3 rfl rfl (by omega) (by omega) (by omega) ?_
 intro b2 w2 fb2 g2 B2
 rw [cntL_zero] at B2
 have lb2 := B2.lt
 replace hAl := hAl.grow g2
 replace hBl := hBl.grow g2
 replace G := G.grow g2
 replace B1 := B1.grow g2
 have zg2 := g2.size
 refine S_val (Y_assign rfl) ?_
 refine S_nl rfl rfl ?_
 refine th_n (hK2 _ _ ?_)
 clear hK2 K2
 refine wp_seq_k fun K3 hK3 => ?_
 refine wp_seq_k fun K4 hK4 => ?_
 refine Sb 79 rfl ?_  -- 2
 refine S_val (Y_assign rfl) ?_
 refine S_nl rfl rfl ?_
 refine th_n (hK4 _ _ ?_)
 clear hK4 K4
 refine wp_block ?_
 go_loopw [4] (fun u4 wr => (∃ k : Nat, u4 = .int .i64 k ∧ k ≤ h.roots.length ∧ Blk wr b2 3 (ints (cntL h.cells.length (h.roots.take k))).toArray) ∧ Mod (fun i => i = b2) w2 wr) (fun u4 wr => h.roots.length - (intOf u4).toNat)  -- L1
 case atStart =>
  refine ⟨?_, Mod.refl _ _⟩
  exact ⟨0, rfl, by omega, by simpa using B2⟩
 case round =>
  obtain ⟨w3, rfl⟩ : ∃ x : World, x = wr := ⟨_, rfl⟩
  obtain ⟨hrel, g3⟩ := hrel
  clear B2
  replace G := G.abv g3
  replace hAl := hAl0.grow G
  replace hBl := hBl0.grow G
  replace B1 := B1.md g3
  have zg3 := g3.size
  obtain ⟨k, rfl, hk, B2⟩ := hrel
  have GL3 := g3
  refine wp_seq_k fun K5 hK5 => ?_
  refine wp_seq_k fun K6 hK6 => ?_
  refine Sb 79 rfl ?_  -- 3
  refine S_val (Y_move rfl) ?_
  refine S_val (Y_field Try.underlying25 rfl fz25_1 (by decide) rfl) ?_
  refine S_val (Y_load Try.underlying22 rfl rfl (B1.at (by rfl))) ?_  -- l2
  refine S_val (Y_len Try.underlying22 rfl) ?_
  refine S_val (Y_lss rfl rfl) ?_
  refine S_nl rfl rfl ?_
  refine th_n (hK6 _ _ ?_)
  clear hK6 K6
  refine S_if rfl (fun hb1 => ?_) (fun hb1 => ?_)  -- c1
  · -- c1T
   replace hb1 := nb_tt hb1
   have hk1 : k < h.roots.length := by omega
   obtain ⟨g2, o2, rfl, hp2, hc2⟩ := hBl.int hk1
   have htk := List.take_succ_eq_append_getElem hk1
   have htl : (h.roots.take k).length ≤ 1048576 := by rw [List.length_take]; omega
   refine wp_skip ?_
   refine th_n (hK5 _ _ ?_)
   clear hK5 K5
   refine wp_seq_k fun K7 hK7 => ?_
   refine wp_block ?_
   refine wp_seq_k fun K8 hK8 => ?_
   refine Sb 79 rfl ?_  -- 5
   refine S_val (Y_field Try.underlying25 rfl fz25_1 (by decide) rfl) ?_
   refine S_val (Y_load Try.underlying22 rfl rfl (B1.at (by rfl))) ?_  -- l3
   refine S_val (Y_move rfl) ?_
   refine S_val (Y_index Try.underlying22 sz3 rfl rfl (by first | assumption | omega)) ?_
   refine S_val (Y_load Try.underlying3 rfl rfl (by first | assumption | exact B1.at (by rfl) | exact B2.at (by rfl))) ?_  -- l4
   refine S_val (Y_geq rfl rfl) ?_
   refine S_nl rfl rfl ?_
   refine th_n (hK8 _ _ ?_)
   clear hK8 K8
   refine S_if rfl (fun hb2 => ?_) (fun hb2 => ?_)  -- c2
   · -- c2T
    replace hb2 := nb_tt hb2
    obtain ⟨n, hn, hnN⟩ := ref_at hl.1 hk1 hb2
    rw [hn] at htk
    have hcle := count_le (n : Int) (h.roots.take k)
    refine D_start 17 79 (fun w => Mod (fun i => i = b2) w) follows rfl rfl ?_  -- d1 r6
    intro w4 g4
    replace hAl := hAl.grow g4
    replace hBl := hBl.grow g4
    replace G := G.grow g4
    replace GL3 := GL3.grow g4
    replace B1 := B1.grow g4
    replace B2 := B2.grow g4
    have zg4 := g4.size
    have GS4 := Mod.refl (fun i => i = b2) w4
    obtain ⟨g3, o3, e3, hp3, hc3⟩ := hBl.int hk1
    cases e3
    rw [hn] at hc3
    have hcel : w4.cell? ⟨b2, 0 + n * 1, none⟩ = some (.int .i64 (((h.roots.take k).count (n : Int) : Nat) : Int)) := by rw [Nat.zero_add, Nat.mul_one]; exact B2.at (by rw [List.getElem?_toArray]; exact ints_get (cntL_get hnN))
    refine Dq (i := 0) rfl GS4 (fun _ _ => Y_move rfl) ?_
    refine Dq (i := 1) rfl GS4 (fun _ _ => Y_field Try.underlying25 rfl fz25_1 (by decide) rfl) ?_
    refine Dq (i := 2) rfl GS4 (fun _ hs => Y_load Try.underlying22 rfl rfl (by first | exact hs.cell (B1.at (by rfl)) (by intro h; first | omega | (dsimp only at h; omega)))) ?_
    refine Dq (i := 3) rfl GS4 (fun _ _ => Y_move rfl) ?_
    refine Dq (i := 4) rfl GS4 (fun _ _ => Y_index Try.underlying22 sz3 rfl rfl (by first | assumption | omega)) ?_
    refine Dq (i := 5) rfl GS4 (fun _ hs => Y_load Try.underlying3 rfl rfl (by first | exact hs.cell (by assumption) (by intro h; first | omega | (dsimp only at h; omega)) | exact hs.cell (B1.at (by rfl)) (by intro h; first | omega | (dsimp only at h; omega)) | exact hs.cell (B2.at (by rfl)) (by intro h; first | omega | (dsimp only at h; omega)))) ?_
    refine Dq (i := 6) rfl GS4 (fun _ _ => Y_move rfl) ?_
    refine Dq (i := 7) rfl GS4 (fun _ _ => Y_field Try.underlying25 rfl fz25_1 (by decide) rfl) ?_
    refine Dq (i := 8) rfl GS4 (fun _ hs => Y_load Try.underlying22 rfl rfl (by first | exact hs.cell (B1.at (by rfl)) (by intro h; first | omega | (dsimp only at h; omega)))) ?_
    refine Dq (i := 9) rfl GS4 (fun _ _ => Y_move rfl) ?_
    refine Dq (i := 10) rfl GS4 (fun _ _ => Y_index Try.underlying22 sz3 rfl rfl (by first | assumption | omega)) ?_
    refine Dq (i := 11) rfl GS4 (fun _ hs => Y_load Try.underlying3 rfl rfl (by first | exact hs.cell (by assumption) (by intro h; first | omega | (dsimp only at h; omega)) | exact hs.cell (B1.at (by rfl)) (by intro h; first | omega | (dsimp only at h; omega)) | exact hs.cell (B2.at (by rfl)) (by intro h; first | omega | (dsimp only at h; omega)))) ?_
    refine Dq (i := 12) rfl GS4 (fun _ _ => Y_index Try.underlying22 sz3 rfl rfl (by first | assumption | omega)) ?_
    refine D_1 (i := 13) (by kernel_rfl) ?_
    refine E_val (i := 13) rfl (Y_load Try.underlying3 rfl rfl hcel) GS4 ?_
    refine Dq (i := 14) rfl GS4 (fun _ _ => Y_inc rfl rfl (by omega)) ?_
    refine Dq (i := 15) rfl GS4 (fun _ _ => Y_index Try.underlying22 sz3 rfl rfl (by first | assumption | omega)) ?_
    refine D_1 (i := 16) (by kernel_rfl) ?_
    refine E_stM (i := 16) rfl (pre := (ints (cntL h.cells.length (h.roots.take k))).take n) (old := [.int .i64 (((h.roots.take k).count (n : Int) : Nat) : Int)]) (post := (ints (cntL h.cells.length (h.roots.take k))).drop (n + 1)) (vs := [_]) sz3 rfl rfl rfl rfl (by rw [← cntL_split hnN]; exact B2) (by rw [List.length_take, ints_len, cntL_len]; omega) rfl ?_
    intro w6 m6 X6
    replace B2 := Blk.eq X6 (cntL_set hnN)
    clear X6
    replace G := G.abv m6
    replace GL3 := GL3.trn m6
    replace GS4 := GS4.trn m6
    replace hAl := hAl0.grow G
    replace hBl := hBl0.grow G
    replace B1 := B1.md m6
    have zm6 := m6.size
    refine ⟨GS4, ?_⟩
    refine D_en (by kernel_rfl) rfl rfl ?_
    refine ib_n ?_
    refine th_n (hK7 _ _ ?_)
    clear hK7 K7
    refine Sb 79 rfl ?_  -- 4
    refine S_val (Y_move rfl) ?_
    refine S_val (Y_inc rfl rfl (by omega)) ?_
    refine S_val (Y_assign rfl) ?_
    refine S_nl rfl rfl ?_
    refine th_n ?_
    go_roundw  -- e1 of L1
    case rel =>
     refine ⟨?_, GL3⟩
     exact ⟨k + 1, rfl, by omega, by rw [htk]; exact B2⟩
    case measure =>
     exact dec_nat (by omega)
   · -- c2F
    replace hb2 := nb_tf hb2
    refine wp_skip ?_
    refine ib_n ?_
    refine th_n (hK7 _ _ ?_)
    clear hK7 K7
    refine Sb 79 rfl ?_  -- 4
    refine S_val (Y_move rfl) ?_
    refine S_val (Y_inc rfl rfl (by omega)) ?_
    refine S_val (Y_assign rfl) ?_
    refine S_nl rfl rfl ?_
    refine th_n ?_
    go_roundw  -- e2 of L1
    case rel =>
     refine ⟨?_, GL3⟩
     exact ⟨k + 1, rfl, by omega, by rw [htk, cntL_neg hb2]; exact B2⟩
    case measure =>
     exact dec_nat (by omega)
  · -- c1F
   replace hb1 := nb_tf hb1
   refine wp_exit ?_
   refine th_x ?_
   clear GL3
   refine th_x ?_
   refine ib_e ?_
   refine th_n (hK3 _ _ ?_)
   clear hK5 K5 hK3 K3
   refine wp_seq_k fun K9 hK9 => ?_
   refine wp_seq_k fun K10 hK10 => ?_
   refine Sb 79 rfl ?_  -- 7
   refine S_val (Y_assign rfl) ?_
   refine S_nl rfl rfl ?_
   refine th_n (hK10 _ _ ?_)
   clear hK10 K10
   refine wp_block ?_
   rw [List.take_of_length_le (by omega)] at B2
   go_loopw [5] (fun u5 wr => (∃ k : Nat, u5 = .int .i64 k ∧ k ≤ h.cells.length ∧ Blk wr b2 3 (ints (cntL h.cells.length (h.roots ++ refsUp h.cells (fun _ => false) k))).toArray) ∧ Mod (fun i => i = b2) w3 wr) (fun u5 wr => h.cells.length - (intOf u5).toNat)  -- L2
   case atStart =>
    refine ⟨?_, Mod.refl _ _⟩
    exact ⟨0, rfl, by omega, by simpa [refsUp] using B2⟩
   case round =>
    obtain ⟨w7, rfl⟩ : ∃ x : World, x = wr := ⟨_, rfl⟩
    obtain ⟨hrel, g7⟩ := hrel
    clear B2
    replace G := G.abv g7
    replace hAl := hAl0.grow G
    replace hBl := hBl0.grow G
    replace B1 := B1.md g7
    have zg7 := g7.size
    obtain ⟨k, rfl, hk, B2⟩ := hrel
    have GL7 := g7
    refine wp_seq_k fun K11 hK11 => ?_
    refine wp_seq_k fun K12 hK12 => ?_
    refine Sb 79 rfl ?_  -- 8
    refine S_val (Y_move rfl) ?_
    refine S_val (Y_field Try.underlying25 rfl fz25_0 (by decide) rfl) ?_
    refine S_val (Y_load Try.underlying23 rfl rfl (B1.at (by rfl))) ?_  -- l9
    refine S_val (Y_len Try.underlying23 rfl) ?_
    refine S_val (Y_lss rfl rfl) ?_
    refine S_nl rfl rfl ?_
    refine th_n (hK12 _ _ ?_)
    clear hK12 K12
    refine S_if rfl (fun hb2 => ?_) (fun hb2 => ?_)  -- c3
    · -- c3T
     replace hb2 := nb_tt hb2
     have hk1 : k < h.cells.length := by omega
     obtain ⟨g3, o3, E3, d3, rfl, hp3, cc30, hE30⟩ := hAl0.cell hk1
     have cc3 := cc30.grow G
     have hE3 := hE30.grow G
     have hz5 := hz3 k hk1
     have hq1 := refsUp_le (cs := h.cells) (sk := fun _ => false) (Nat.le_of_lt hk1)
     have hq2 := rsum_succ hk1
     have hq3 := rsum_mono (cs := h.cells) (k := k + 1) (n := h.cells.length) (by omega) (Nat.le_refl _)
     refine wp_skip ?_
     refine th_n (hK11 _ _ ?_)
     clear hK11 K11
     refine wp_seq_k fun K13 hK13 => ?_
     refine wp_block ?_
     refine wp_seq_k fun K14 hK14 => ?_
     refine Sb 79 rfl ?_  -- 10
     refine S_val (Y_assign rfl) ?_
     refine S_nl rfl rfl ?_
     refine th_n (hK14 _ _ ?_)
     clear hK14 K14
     refine wp_block ?_
     go_loopw [6] (fun u6 wr => (∃ j : Nat, u6 = .int .i64 j ∧ j ≤ h.cells[k].refs.length ∧ Blk wr b2 3 (ints (cntL h.cells.length (h.roots ++ refsUp h.cells (fun _ => false) k ++ h.cells[k].refs.take j))).toArray) ∧ Mod (fun i => i = b2) w7 wr) (fun u6 wr => h.cells[k].refs.length - (intOf u6).toNat)  -- L3
     case atStart =>
      refine ⟨?_, Mod.refl _ _⟩
      exact ⟨0, rfl, by omega, by simpa using B2⟩
     case round =>
      obtain ⟨w8, rfl⟩ : ∃ x : World, x = wr := ⟨_, rfl⟩
      obtain ⟨hrel, g8⟩ := hrel
      clear B2
      replace G := G.abv g8
      replace GL7 := GL7.trn g8
      replace hAl := hAl0.grow G
      replace hBl := hBl0.grow G
      replace cc3 := cc30.grow G
      replace hE3 := hE30.grow G
      replace B1 := B1.md g8
      have zg8 := g8.size
      obtain ⟨j, rfl, hj, B2⟩ := hrel
      have GL8 := g8
      refine wp_seq_k fun K15 hK15 => ?_
      refine wp_seq_k fun K16 hK16 => ?_
      refine Sb 79 rfl ?_  -- 11
      refine S_val (Y_move rfl) ?_
      refine S_val (Y_field Try.underlying25 rfl fz25_0 (by decide) rfl) ?_
      refine S_val (Y_load Try.underlying23 rfl rfl (B1.at (by rfl))) ?_  -- l10
      refine S_val (Y_move rfl) ?_
      refine S_val (Y_index Try.underlying23 sz70 rfl rfl (by first | assumption | omega)) ?_
      refine S_val (Y_field Try.underlying70 rfl fz70_2 (by decide) rfl) ?_
      refine S_val (Y_load Try.underlying22 rfl rfl (by first | assumption | exact cc3.at (by rfl) | exact B1.at (by rfl) | exact B2.at (by rfl))) ?_  -- l11
      refine S_val (Y_len Try.underlying22 rfl) ?_
      refine S_val (Y_lss rfl rfl) ?_
      refine S_nl rfl rfl ?_
      refine th_n (hK16 _ _ ?_)
      clear hK16 K16
      refine S_if rfl (fun hb3 => ?_) (fun hb3 => ?_)  -- c4
      · -- c4T
       replace hb3 := nb_tt hb3
       have hj1 : j < h.cells[k].refs.length := by omega
       obtain ⟨g4, o4, rfl, hp4, hc4⟩ := hE3.int hj1
       have htj := List.take_succ_eq_append_getElem hj1
       refine wp_skip ?_
       refine th_n (hK15 _ _ ?_)
       clear hK15 K15
       refine wp_seq_k fun K17 hK17 => ?_
       refine wp_block ?_
       refine wp_seq_k fun K18 hK18 => ?_
       refine Sb 79 rfl ?_  -- 13
       refine S_val (Y_field Try.underlying25 rfl fz25_0 (by decide) rfl) ?_
       refine S_val (Y_load Try.underlying23 rfl rfl (B1.at (by rfl))) ?_  -- l12
       refine S_val (Y_move rfl) ?_
       refine S_val (Y_index Try.underlying23 sz70 rfl rfl (by first | assumption | omega)) ?_
       refine S_val (Y_field Try.underlying70 rfl fz70_2 (by decide) rfl) ?_
       refine S_val (Y_load Try.underlying22 rfl rfl (by first | assumption | exact cc3.at (by rfl) | exact B1.at (by rfl) | exact B2.at (by rfl))) ?_  -- l13
       refine S_val (Y_move rfl) ?_
       refine S_val (Y_index Try.underlying22 sz3 rfl rfl (by first | assumption | omega)) ?_
       refine S_val (Y_load Try.underlying3 rfl rfl (by first | assumption | exact cc3.at (by rfl) | exact B1.at (by rfl) | exact B2.at (by rfl))) ?_  -- l14
       refine S_val (Y_assign rfl) ?_
       refine S_nl rfl rfl ?_
       refine th_n (hK18 _ _ ?_)
       clear hK18 K18
       refine wp_seq_k fun K19 hK19 => ?_
       refine Sb 79 rfl ?_  -- 14
       refine S_val (Y_move rfl) ?_
       refine S_val (Y_geq rfl rfl) ?_
       refine S_nl rfl rfl ?_
       refine th_n (hK19 _ _ ?_)
       clear hK19 K19
       refine S_if rfl (fun hb4 => ?_) (fun hb4 => ?_)  -- c5
       · -- c5T
        replace hb4 := nb_tt hb4
        obtain ⟨n, hn, hnN⟩ := ref_at (hl.refs hk1) hj1 hb4
        rw [hn] at htj
        rw [hn]
        have hcle := count_le (n : Int) (h.roots ++ refsUp h.cells (fun _ => false) k ++ h.cells[k].refs.take j)
        rw [List.length_append, List.length_append, List.length_take] at hcle
        have hcel : w8.cell? ⟨b2, 0 + n * 1, none⟩ = some (.int .i64 (((h.roots ++ refsUp h.cells (fun _ => false) k ++ h.cells[k].refs.take j).count (n : Int) : Nat) : Int)) := by rw [Nat.zero_add, Nat.mul_one]; exact B2.at (by rw [List.getElem?_toArray]; exact ints_get (cntL_get hnN))
        refine Sb 79 rfl ?_  -- 15
        refine S_val (Y_move rfl) ?_
        refine S_val (Y_move rfl) ?_
        refine S_val (Y_move rfl) ?_
        refine S_val (Y_move rfl) ?_
        refine S_val (Y_index Try.underlying22 sz3 rfl rfl (by first | assumption | omega)) ?_
        refine S_val (Y_load Try.underlying3 rfl rfl (by first | assumption | exact cc3.at (by rfl) | exact B1.at (by rfl) | exact B2.at (by rfl))) ?_  -- l15
        refine S_val (Y_inc rfl rfl (by omega)) ?_
        refine S_val (Y_index Try.underlying22 sz3 rfl rfl (by first | assumption | omega)) ?_
        refine S_stM (pre := (ints (cntL h.cells.length (h.roots ++ refsUp h.cells (fun _ => false) k ++ h.cells[k].refs.take j))).take n) (old := [.int .i64 (((h.roots ++ refsUp h.cells (fun _ => false) k ++ h.cells[k].refs.take j).count (n : Int) : Nat) : Int)]) (post := (ints (cntL h.cells.length (h.roots ++ refsUp h.cells (fun _ => false) k ++ h.cells[k].refs.take j))).drop (n + 1)) (vs := [_]) sz3 rfl rfl rfl rfl (by rw [← cntL_split hnN]; exact B2) (by rw [List.length_take, ints_len, cntL_len]; omega) rfl ?_
        intro w9 m9 X9
        replace B2 := Blk.eq X9 (cntL_set hnN)
        clear X9
        replace G := G.abv m9
        replace GL7 := GL7.trn m9
        replace GL8 := GL8.trn m9
        replace hAl := hAl0.grow G
        replace hBl := hBl0.grow G
        replace cc3 := cc30.grow G
        replace hE3 := hE30.grow G
        replace B1 := B1.md m9
        have zm9 := m9.size
        refine S_nl rfl rfl ?_
        refine ib_n ?_
        refine th_n (hK17 _ _ ?_)
        clear hK17 K17
        refine Sb 79 rfl ?_  -- 12
        refine S_val (Y_move rfl) ?_
        refine S_val (Y_inc rfl rfl (by omega)) ?_
        refine S_val (Y_assign rfl) ?_
        refine S_nl rfl rfl ?_
        refine th_n ?_
        go_roundw  -- e3 of L3
        case rel =>
         refine ⟨?_, GL8⟩
         exact ⟨j + 1, rfl, by omega, by rw [htj, ← List.append_assoc]; exact B2⟩
        case measure =>
         exact dec_nat (by omega)
       · -- c5F
        replace hb4 := nb_tf hb4
        refine wp_skip ?_
        refine ib_n ?_
        refine th_n (hK17 _ _ ?_)
        clear hK17 K17
        refine Sb 79 rfl ?_  -- 12
        refine S_val (Y_move rfl) ?_
        refine S_val (Y_inc rfl rfl (by omega)) ?_
        refine S_val (Y_assign rfl) ?_
        refine S_nl rfl rfl ?_
        refine th_n ?_
        go_roundw  -- e4 of L3
        case rel =>
         refine ⟨?_, GL8⟩
         exact ⟨j + 1, rfl, by omega, by rw [htj, ← List.append_assoc, cntL_neg hb4]; exact B2⟩
        case measure =>
         exact dec_nat (by omega)
      · -- c4F
       replace hb3 := nb_tf hb3
       refine wp_exit ?_
       refine th_x ?_
       clear GL8
       refine th_x ?_
       refine ib_e ?_
       refine ib_n ?_
       refine th_n (hK13 _ _ ?_)
       clear hK15 K15 hK13 K13
       refine Sb 79 rfl ?_  -- 9
       refine S_val (Y_move rfl) ?_
       refine S_val (Y_inc rfl rfl (by omega)) ?_
       refine S_val (Y_assign rfl) ?_
       refine S_nl rfl rfl ?_
       refine th_n ?_
       go_roundw  -- e5 of L2
       case rel =>
        refine ⟨?_, GL7⟩
        rw [List.take_of_length_le (by omega)] at B2
        exact ⟨k + 1, rfl, by omega, by rw [refsUp_succ hk1 rfl, ← List.append_assoc]; exact B2⟩
       case measure =>
        exact dec_nat (by omega)
    · -- c3F
     replace hb2 := nb_tf hb2
     refine wp_exit ?_
     refine th_x ?_
     clear GL7
     refine th_x ?_
     refine ib_e ?_
     refine th_n (hK9 _ _ ?_)
     clear hK11 K11 hK9 K9
     refine wp_seq_k fun K20 hK20 => ?_
     refine Sb 79 rfl ?_  -- 16
     refine S_val (Y_move rfl) ?_
     refine S_val (Y_assign rfl) ?_
     refine S_nl rfl rfl ?_
     refine th_n (hK20 _ _ ?_)
     clear hK20 K20
     refine wp_ret ?_
     refine ret_r1 rfl rfl ?_  -- r1
     have : k = h.cells.length := by omega
     subst this
     exact ⟨b2, rfl, by omega, B2, G⟩

set_option maxHeartbeats 400000 in
set_option maxRecDepth 20000 in
theorem impl_refCounts_1_c (E : Option Addr) (xs ys : List Int) (e N lo bo bc : Nat) (w : World) (hE : R1 (fun k => k < lo) w E (ints xs)) (Bo : Blk w bo 22 [.slice (some ⟨bc, 0, none⟩) N N].toArray) (Bc : Blk w bc 3 (ints (cntL N ys)).toArray) (hr : ∀ x ∈ xs, nn x = true → 0 ≤ x ∧ x < (N : Int)) (hx : ys.length + xs.length ≤ 1048576) (h9 : lo ≤ bc ∧ bo ≠ bc) :
    Calls Try.prog 102 #[.slice E xs.length e, .pointer (some ⟨bo, 0, none⟩)] w (Ret fun _v w' => Blk w' bc 3 (ints (cntL N (ys ++ xs))).toArray ∧ Mod (fun i => i = bc) w w') := by
 obtain ⟨p1, p2⟩ := h9
 refine enter Try.func102 rfl Try.ntmps102 (L := [_,_,_,_,_,_,_,_,_,_,_,_,_,_,_,_,_,_,_,_]) rfl ?_
 have G := Mod.refl (fun i => i = bc) w
 refine wp_seq_k fun K1 hK1 => ?_
 refine Sb 20 rfl ?_  -- 0
 refine S_val (Y_move rfl) ?_
 refine S_val (Y_len Try.underlying22 rfl) ?_
 refine S_val (Y_move rfl) ?_
 refine S_nl rfl rfl ?_
 refine th_n (hK1 _ _ ?_)
 clear hK1 K1
 refine wp_block ?_
 go_loopw [7] (fun u7 wr => (∃ k : Nat, u7 = .int .i64 k ∧ k ≤ xs.length ∧ Blk wr bc 3 (ints (cntL N (ys ++ xs.take k))).toArray) ∧ Mod (fun i => i = bc) w wr) (fun u7 wr => xs.length - (intOf u7).toNat)  -- L1
 case atStart =>
  refine ⟨?_, Mod.refl _ _⟩
  exact ⟨0, rfl, by omega, by simpa using Bc⟩
 case round =>
  obtain ⟨w1, rfl⟩ : ∃ x : World, x = wr := ⟨_, rfl⟩
  obtain ⟨hrel, g1⟩ := hrel
  clear Bc
  replace G := Mod.trans' G g1 (fun _ h _ => h) (fun i h _ => h)
  replace hE := hE.md g1
  replace Bo := Bo.md g1
  have zg1 := g1.size
  obtain ⟨k, rfl, hk, Bc⟩ := hrel
  have GL1 := g1
  refine wp_seq_k fun K2 hK2 => ?_
  refine Sb 20 rfl ?_  -- 1
  refine S_val (Y_lss rfl rfl) ?_
  refine S_nl rfl rfl ?_
  refine th_n (hK2 _ _ ?_)
  clear hK2 K2
  refine wp_seq_k fun K3 hK3 => ?_
  refine S_if rfl (fun hb1 => ?_) (fun hb1 => ?_)  -- c1
  · -- c1T
   replace hb1 := nb_tt hb1
   have hk1 : k < xs.length := by omega
   obtain ⟨g1, o1, rfl, hp1, hc1⟩ := hE.int hk1
   have htk := List.take_succ_eq_append_getElem hk1
   refine wp_skip ?_
   refine th_n (hK3 _ _ ?_)
   clear hK3 K3
   refine wp_seq_k fun K4 hK4 => ?_
   refine wp_block ?_
   refine wp_seq_k fun K5 hK5 => ?_
   refine Sb 20 rfl ?_  -- 2
   refine S_val (Y_index Try.underlying22 sz3 rfl rfl (by first | assumption | omega)) ?_
   refine S_val (Y_load Try.underlying3 rfl rfl (by first | assumption | exact Bo.at (by rfl) | exact Bc.at (by rfl))) ?_  -- l1
   refine S_val (Y_assign rfl) ?_
   refine S_nl rfl rfl ?_
   refine th_n (hK5 _ _ ?_)
   clear hK5 K5
   refine wp_seq_k fun K6 hK6 => ?_
   refine Sb 20 rfl ?_  -- 3
   refine S_val (Y_move rfl) ?_
   refine S_val (Y_geq rfl rfl) ?_
   refine S_nl rfl rfl ?_
   refine th_n (hK6 _ _ ?_)
   clear hK6 K6
   refine S_if rfl (fun hb2 => ?_) (fun hb2 => ?_)  -- c2
   · -- c2T
    replace hb2 := nb_tt hb2
    obtain ⟨n, hn, hnN⟩ := ref_at hr hk1 hb2
    rw [hn] at htk
    rw [hn]
    have hcle := count_le (n : Int) (ys ++ xs.take k)
    rw [List.length_append, List.length_take] at hcle
    have hcel : w1.cell? ⟨bc, 0 + n * 1, none⟩ = some (.int .i64 (((ys ++ xs.take k).count (n : Int) : Nat) : Int)) := by rw [Nat.zero_add, Nat.mul_one]; exact Bc.at (by rw [List.getElem?_toArray]; exact ints_get (cntL_get hnN))
    refine Sb 20 rfl ?_  -- 4
    refine S_val (Y_load Try.underlying22 rfl rfl (by first | assumption | exact Bo.at (by rfl) | exact Bc.at (by rfl))) ?_  -- l2
    refine S_val (Y_move rfl) ?_
    refine S_val (Y_index Try.underlying22 sz3 rfl rfl (by first | assumption | omega)) ?_
    refine S_val (Y_load Try.underlying3 rfl rfl (by first | assumption | exact Bo.at (by rfl) | exact Bc.at (by rfl))) ?_  -- l3
    refine S_val (Y_inc rfl rfl (by omega)) ?_
    refine S_val (Y_index Try.underlying22 sz3 rfl rfl (by first | assumption | omega)) ?_
    refine S_stM (pre := (ints (cntL N (ys ++ xs.take k))).take n) (old := [.int .i64 (((ys ++ xs.take k).count (n : Int) : Nat) : Int)]) (post := (ints (cntL N (ys ++ xs.take k))).drop (n + 1)) (vs := [_]) sz3 rfl rfl rfl rfl (by rw [← cntL_split hnN]; exact Bc) (by rw [List.length_take, ints_len, cntL_len]; omega) rfl ?_
    intro w2 m2 X2
    replace Bc := Blk.eq X2 (cntL_set hnN)
    clear X2
    replace G := Mod.trans' G m2 (fun _ h _ => h) (fun i h _ => h)
    replace GL1 := GL1.trn m2
    replace hE := hE.md m2
    replace Bo := Bo.md m2
    have zm2 := m2.size
    refine S_nl rfl rfl ?_
    refine ib_n ?_
    refine th_n (hK4 _ _ ?_)
    clear hK4 K4
    refine Sb 20 rfl ?_  -- 5
    refine S_val (Y_inc rfl rfl (by omega)) ?_
    refine S_val (Y_move rfl) ?_
    refine S_nl rfl rfl ?_
    refine th_n ?_
    go_roundw  -- e1 of L1
    case rel =>
     refine ⟨?_, GL1⟩
     exact ⟨k + 1, rfl, by omega, by rw [htk, ← List.append_assoc]; exact Bc⟩
    case measure =>
     exact dec_nat (by omega)
   · -- c2F
    replace hb2 := nb_tf hb2
    refine wp_skip ?_
    refine ib_n ?_
    refine th_n (hK4 _ _ ?_)
    clear hK4 K4
    refine Sb 20 rfl ?_  -- 5
    refine S_val (Y_inc rfl rfl (by omega)) ?_
    refine S_val (Y_move rfl) ?_
    refine S_nl rfl rfl ?_
    refine th_n ?_
    go_roundw  -- e2 of L1
    case rel =>
     refine ⟨?_, GL1⟩
     exact ⟨k + 1, rfl, by omega, by rw [htk, ← List.append_assoc, cntL_neg hb2]; exact Bc⟩
    case measure =>
     exact dec_nat (by omega)
  · -- c1F
   replace hb1 := nb_tf hb1
   refine wp_exit ?_
   refine th_x ?_
   clear GL1
   refine th_x ?_
   refine ib_e ?_
   clear hK3 K3
   refine ret_n0 rfl ?_  -- r1
   rw [List.take_of_length_le (by omega)] at Bc
   exact ⟨Bc, G⟩

set_option maxHeartbeats 400000 in
set_option maxRecDepth 20000 in
theorem impl_refCounts_c (Pr : Nat → Prop) (A B : Option Addr) (h : LH) (c d m : Nat) (w : World) (hA : RC Pr w A h.cells) (hB : R1 Pr w B (ints h.roots)) (hz : hsize h ≤ 1048576) (hl : Leads h.cells h.roots nn) (hm64 : m < 2 ^ 64) :
    Calls Try.prog 97 #[.agg #[.slice A h.cells.length c, .slice B h.roots.length d], .int .u64 (m : Int)] w (Ret fun v w' => ∃ b, v = .slice (some ⟨b, 0, none⟩) h.cells.length h.cells.length ∧ w.heap.size ≤ b ∧ Blk w' b 3 (ints (cntL h.cells.length (refsAll h fun i => m.testBit i))).toArray ∧ Grow w w') := by
 have hz1 := hsize_cells h
 have hz2 := hsize_roots h
 have hz3 : ∀ k (hk : k < h.cells.length), h.cells[k].refs.length ≤ hsize h := fun k hk => hsize_refs h hk
 have hz4 : h.roots.length + rsum h.cells h.cells.length ≤ hsize h := by unfold hsize; omega
 have hAl := hA.below
 have hBl := hB.below
 refine enter Try.func97 rfl Try.ntmps97 (L := [_,_,_,_,_,_,_,_,_,_,_,_,_,_,_,_,_,_,_,_,_,_,_,_,_,_,_,_,_,_,_,_,_,_,_,_]) rfl ?_
 have G := Mod.refl No w
 have hAl0 := hAl
 have hBl0 := hBl
 refine wp_seq_k fun K1 hK1 => ?_
 refine Sb 36 rfl ?_  -- 0
 refine S_box (cs := [_, _]) rfl rfl ?_
 intro b1 w1 fb1 g1 B1
 have lb1 := B1.lt
 replace hAl := hAl.grow g1
 replace hBl := hBl.grow g1
 replace G := G.grow g1
 have zg1 := g1.size
 refine S_val (Y_assign rfl) ?_
 refine S_nl rfl rfl ?_
 refine th_n (hK1 _ _ ?_)
 clear hK1 K1
 refine wp_seq_k fun K2 hK2 => ?_
 refine Sb 36 rfl ?_  -- 1
 refine S_val (Y_field Try.underlying25 rfl fz25_0 (by decide) rfl) ?_
 refine S_val (Y_load Try.underlying23 rfl rfl (B1.at (by rfl))) ?_  -- l1
 refine S_val (Y_len Try.underlying23 rfl) ?_
 refine S_make (z := [.int .i64 0]) Try.underlying22 zr3 sz3 by3 rfl rfl (by omega) (by omega) (by omega) ?_
 intro b2 w2 fb2 g2 B2
 rw [cntL_zero] at B2
 have lb2 := B2.lt
 replace hAl := hAl.grow g2
 replace hBl := hBl.grow g2
 replace G := G.grow g2
 replace B1 := B1.grow g2
 have zg2 := g2.size
 refine S_alloc (cs := [_]) zr22 rfl ?_
 intro b3 w3 fb3 g3 B3
 have lb3 := B3.lt
 replace hAl := hAl.grow g3
 replace hBl := hBl.grow g3
 replace G := G.grow g3
 replace B1 := B1.grow g3
 replace B2 := B2.grow g3
 have zg3 := g3.size
 refine S_stM (pre := []) (old := [_]) (post := []) (vs := [_]) sz22 rfl rfl rfl (by first | rfl | assumption) B3 rfl rfl ?_
 intro w4 m4 X4
 replace B3 := Blk.eq (ys := [_]) X4 rfl
 clear X4
 replace G := G.abv m4
 replace hAl := hAl0.grow G
 replace hBl := hBl0.grow G
 replace B1 := B1.md m4
 replace B2 := B2.md m4
 have zm4 := m4.size
 refine S_nl rfl rfl ?_
 refine th_n (hK2 _ _ ?_)
 clear hK2 K2
 refine wp_seq_k fun K3 hK3 => ?_
 refine Sb 36 rfl ?_  -- 2
 refine S_val (Y_makeFunc rfl rfl) ?_
 refine S_val (Y_assign rfl) ?_
 refine S_nl rfl rfl ?_
 refine th_n (hK3 _ _ ?_)
 clear hK3 K3
 refine wp_seq_k fun K4 hK4 => ?_
 refine Sb 36 rfl ?_  -- 3
 refine S_val (Y_move rfl) ?_
 refine S_val (Y_field Try.underlying25 rfl fz25_1 (by decide) rfl) ?_
 refine S_val (Y_load Try.underlying22 rfl rfl (B1.at (by rfl))) ?_  -- l2
 refine S_callc rfl rfl en102 (impl_refCounts_1_c _ _ _ _ h.cells.length w.heap.size b3 b2 _ hBl B3 B2 hl.1 (by rw [List.length_nil]; omega) ⟨by omega, by omega⟩) ?_  -- k1
 rintro v5 w5 ⟨X5, m5⟩
 replace B2 := X5
 clear X5
 replace G := G.abv m5
 replace hAl := hAl0.grow G
 replace hBl := hBl0.grow G
 replace B1 := B1.md m5
 replace B3 := B3.md m5
 have zm5 := m5.size
 rw [List.nil_append] at B2
 refine S_nl rfl rfl ?_
 refine th_n (hK4 _ _ ?_)
 clear hK4 K4
 refine wp_seq_k fun K5 hK5 => ?_
 refine wp_seq_k fun K6 hK6 => ?_
 refine Sb 36 rfl ?_  -- 4
 refine S_val (Y_field Try.underlying25 rfl fz25_0 (by decide) rfl) ?_
 refine S_val (Y_load Try.underlying23 rfl rfl (B1.at (by rfl))) ?_  -- l3
 refine S_val (Y_len Try.underlying23 rfl) ?_
 refine S_val (Y_move rfl) ?_
 refine S_nl rfl rfl ?_
 refine th_n (hK6 _ _ ?_)
 clear hK6 K6
 refine wp_block ?_
 go_loopw [21] (fun u21 wr => (∃ k : Nat, u21 = .int .i64 k ∧ k ≤ h.cells.length ∧ Blk wr b2 3 (ints (cntL h.cells.length (h.roots ++ refsUp h.cells (fun i => m.testBit i) k))).toArray) ∧ Mod (fun i => i = b2) w5 wr) (fun u21 wr => h.cells.length - (intOf u21).toNat)  -- L1
 case atStart =>
  refine ⟨?_, Mod.refl _ _⟩
  exact ⟨0, rfl, by omega, by simpa [refsUp] using B2⟩
 case round =>
  obtain ⟨w6, rfl⟩ : ∃ x : World, x = wr := ⟨_, rfl⟩
  obtain ⟨hrel, g6⟩ := hrel
  clear B2
  replace G := G.abv g6
  replace hAl := hAl0.grow G
  replace hBl := hBl0.grow G
  replace B1 := B1.md g6
  replace B3 := B3.md g6
  have zg6 := g6.size
  obtain ⟨k, rfl, hk, B2⟩ := hrel
  have GL6 := g6
  refine wp_seq_k fun K7 hK7 => ?_
  refine Sb 36 rfl ?_  -- 5
  refine S_val (Y_lss rfl rfl) ?_
  refine S_nl rfl rfl ?_
  refine th_n (hK7 _ _ ?_)
  clear hK7 K7
  refine wp_seq_k fun K8 hK8 => ?_
  refine S_if rfl (fun hb1 => ?_) (fun hb1 => ?_)  -- c1
  · -- c1T
   replace hb1 := nb_tt hb1
   have hk1 : k < h.cells.length := by omega
   obtain ⟨g5, o5, E5, d5, rfl, hp5, cc50, hE50⟩ := hAl0.cell hk1
   have cc5 := cc50.grow G
   have hE5 := hE50.grow G
   have hz5 := hz3 k hk1
   have hq1 := refsUp_le (cs := h.cells) (sk := fun i => m.testBit i) (Nat.le_of_lt hk1)
   have hq2 := rsum_succ hk1
   have hq3 := rsum_mono (cs := h.cells) (k := k + 1) (n := h.cells.length) (by omega) (Nat.le_refl _)
   refine wp_skip ?_
   refine th_n (hK8 _ _ ?_)
   clear hK8 K8
   refine wp_seq_k fun K9 hK9 => ?_
   refine wp_block ?_
   refine wp_seq_k fun K10 hK10 => ?_
   refine Sb 36 rfl ?_  -- 6
   refine S_val (Y_move rfl) ?_
   refine S_val (Y_index Try.underlying23 sz70 rfl rfl (by first | assumption | omega)) ?_
   refine S_val (Y_loadS Try.underlying70 rfl sz70 rfl (by first | assumption | exact B1.row (by rfl) | exact B3.row (by rfl) | exact B2.row (by rfl))) ?_  -- l4
   refine S_alloc (cs := [_, _, _]) zr70 rfl ?_
   intro b7 w7 fb7 g7 B7
   have lb7 := B7.lt
   replace hAl := hAl.grow g7
   replace hBl := hBl.grow g7
   replace cc5 := cc5.grow g7
   replace hE5 := hE5.grow g7
   replace G := G.grow g7
   replace GL6 := GL6.grow g7
   replace B1 := B1.grow g7
   replace B3 := B3.grow g7
   replace B2 := B2.grow g7
   have zg7 := g7.size
   refine S_val (Y_assign rfl) ?_
   refine S_stM (pre := []) (old := [_, _, _]) (post := []) (vs := [_, _, _]) sz70 rfl rfl rfl (by first | rfl | assumption) B7 rfl rfl ?_
   intro w8 m8 X8
   replace B7 := Blk.eq (ys := [_, _, _]) X8 rfl
   clear X8
   replace G := G.abv m8
   replace GL6 := GL6.abv m8
   replace hAl := hAl0.grow G
   replace hBl := hBl0.grow G
   replace cc5 := cc50.grow G
   replace hE5 := hE50.grow G
   replace B1 := B1.md m8
   replace B3 := B3.md m8
   replace B2 := B2.md m8
   have zm8 := m8.size
   refine S_nl rfl rfl ?_
   refine th_n (hK10 _ _ ?_)
   clear hK10 K10
   refine wp_seq_k fun K11 hK11 => ?_
   refine Sb 36 rfl ?_  -- 7
   refine S_val (Y_move rfl) ?_
   refine S_val (Y_move rfl) ?_
   refine S_call rfl en61 (impl_cellSet_has_c _ _ _ (by assumption)) ?_  -- k2 (impl.cellSet).has
   rintro v w' ⟨rfl, rfl⟩
   refine S_val (Y_not rfl) ?_
   refine S_nl rfl rfl ?_
   refine th_n (hK11 _ _ ?_)
   clear hK11 K11
   refine S_if rfl (fun hb2 => ?_) (fun hb2 => ?_)  -- c2
   · -- c2T
    first | with_reducible (replace hb2 := nb_nt hb2) | with_reducible (replace hb2 := nb_tt hb2) | with_reducible (replace hb2 := nb_bt hb2) | skip
    rw [hasB_nat] at hb2
    refine Sb 36 rfl ?_  -- 8
    refine S_val (Y_move rfl) ?_
    refine S_val (Y_field Try.underlying70 rfl fz70_2 (by decide) rfl) ?_
    refine S_val (Y_load Try.underlying22 rfl rfl (B7.at (by rfl))) ?_  -- l5
    refine S_callc rfl rfl en102 (impl_refCounts_1_c _ _ _ _ h.cells.length w.heap.size b3 b2 _ hE5 B3 B2 (hl.refs hk1) (by rw [List.length_append]; omega) ⟨by omega, by omega⟩) ?_  -- k3
    rintro v10 w10 ⟨X10, m10⟩
    replace B2 := X10
    clear X10
    replace G := G.abv m10
    replace GL6 := GL6.trn m10
    replace hAl := hAl0.grow G
    replace hBl := hBl0.grow G
    replace cc5 := cc50.grow G
    replace hE5 := hE50.grow G
    replace B1 := B1.md m10
    replace B3 := B3.md m10
    replace B7 := B7.md m10
    have zm10 := m10.size
    refine S_nl rfl rfl ?_
    refine ib_n ?_
    refine th_n (hK9 _ _ ?_)
    clear hK9 K9
    refine Sb 36 rfl ?_  -- 9
    refine S_val (Y_inc rfl rfl (by omega)) ?_
    refine S_val (Y_move rfl) ?_
    refine S_nl rfl rfl ?_
    refine th_n ?_
    go_roundw  -- e1 of L1
    case rel =>
     refine ⟨?_, GL6⟩
     exact ⟨k + 1, rfl, by omega, by rw [refsUp_succ hk1 hb2, ← List.append_assoc]; exact B2⟩
    case measure =>
     exact dec_nat (by omega)
   · -- c2F
    first | with_reducible (replace hb2 := nb_nf hb2) | with_reducible (replace hb2 := nb_tf hb2) | with_reducible (replace hb2 := nb_bf hb2) | skip
    rw [hasB_nat] at hb2
    refine wp_skip ?_
    refine ib_n ?_
    refine th_n (hK9 _ _ ?_)
    clear hK9 K9
    refine Sb 36 rfl ?_  -- 9
    refine S_val (Y_inc rfl rfl (by omega)) ?_
    refine S_val (Y_move rfl) ?_
    refine S_nl rfl rfl ?_
    refine th_n ?_
    go_roundw  -- e2 of L1
    case rel =>
     refine ⟨?_, GL6⟩
     exact ⟨k + 1, rfl, by omega, by rw [refsUp_skip hb2]; exact B2⟩
    case measure =>
     exact dec_nat (by omega)
  · -- c1F
   replace hb1 := nb_tf hb1
   refine wp_exit ?_
   refine th_x ?_
   clear GL6
   refine th_x ?_
   refine ib_e ?_
   refine th_n (hK5 _ _ ?_)
   clear hK8 K8 hK5 K5
   refine wp_seq_k fun K12 hK12 => ?_
   refine Sb 36 rfl ?_  -- 10
   refine S_val (Y_load Try.underlying22 rfl rfl (B3.at (by rfl))) ?_  -- l6
   refine S_val (Y_assign rfl) ?_
   refine S_nl rfl rfl ?_
   refine th_n (hK12 _ _ ?_)
   clear hK12 K12
   refine wp_ret ?_
   refine ret_r1 rfl rfl ?_  -- r1
   have : k = h.cells.length := by omega
   subst this
   exact ⟨b2, rfl, by omega, B2, G⟩

set_option maxHeartbeats 400000 in
set_option maxRecDepth 20000 in
theorem spec_RefCounts_c (Pr : Nat → Prop) (A B : Option Addr) (h : LH) (c d : Nat) (w : World) (hA : RC Pr w A h.cells) (hB : R1 Pr w B (ints h.roots)) (hz : hsize h ≤ 1048576) :
    Calls Try.prog 100 #[.agg #[.slice A h.cells.length c, .slice B h.roots.length d]] w (Ret fun v w' => ∃ A1 q cap, v = .slice A1 q cap ∧ q = (countsV h).length ∧ OI (fun i => w.heap.size ≤ i) w' 3 A1 (ints (countsV h)) ∧ Grow w w') := by
 refine enter Try.func100 rfl Try.ntmps100 (L := [_,_,_,_,_,_,_,_,_]) rfl ?_
 have G := Mod.refl No w
 have hA0 := hA
 have hB0 := hB
 refine wp_seq_k fun K1 hK1 => ?_
 refine Sb 9 rfl ?_  -- 0
 refine S_box (cs := [_, _]) rfl rfl ?_
 intro b1 w1 fb1 g1 B1
 have lb1 := B1.lt
 replace hA := hA.grow g1
 replace hB := hB.grow g1
 replace G := G.grow g1
 have zg1 := g1.size
 refine S_val (Y_assign rfl) ?_
 refine S_nl rfl rfl ?_
 refine th_n (hK1 _ _ ?_)
 clear hK1 K1
 refine wp_seq_k fun K2 hK2 => ?_
 refine wp_seq_k fun K3 hK3 => ?_
 refine Sb 9 rfl ?_  -- 1
 refine S_val (Y_loadS Try.underlying25 rfl sz25 rfl (B1.row (by rfl))) ?_  -- l1
 refine S_call rfl en56 (spec_HeapValid_c _ _ _ _ _ _ _ (by assumption) (by assumption) (by omega)) ?_  -- k1 spec.HeapValid
 rintro v2 w2 ⟨rfl, g2⟩
 replace hA := hA.grow g2
 replace hB := hB.grow g2
 replace G := G.grow g2
 replace B1 := B1.grow g2
 have zg2 := g2.size
 refine S_val (Y_not rfl) ?_
 refine S_nl rfl rfl ?_
 refine th_n (hK3 _ _ ?_)
 clear hK3 K3
 refine S_if rfl (fun hb1 => ?_) (fun hb1 => ?_)  -- c1
 · -- c1T
  first | with_reducible (replace hb1 := nb_nt hb1) | with_reducible (replace hb1 := nb_tt hb1) | with_reducible (replace hb1 := nb_bt hb1) | skip
  refine wp_seq_k fun K4 hK4 => ?_
  refine Sb 9 rfl ?_  -- 2
  refine S_bs0 Try.underlying22 sz3 ?_
  intro b3 w3 fb3 g3 B3
  have lb3 := B3.lt
  replace hA := hA.grow g3
  replace hB := hB.grow g3
  replace G := G.grow g3
  replace B1 := B1.grow g3
  have zg3 := g3.size
  refine S_val (Y_assign rfl) ?_
  refine S_nl rfl rfl ?_
  refine th_n (hK4 _ _ ?_)
  clear hK4 K4
  refine wp_ret ?_
  refine th_r ?_
  clear hK2 K2
  refine ret_r1 rfl rfl ?_  -- r1
  exact ⟨_, _, _, rfl, by rw [countsV_f hb1]; rfl, by rw [countsV_f hb1]; exact OI.nil _ _ _ _, G⟩
 · -- c1F
  first | with_reducible (replace hb1 := nb_nf hb1) | with_reducible (replace hb1 := nb_tf hb1) | with_reducible (replace hb1 := nb_bf hb1) | skip
  have va := valid_iff.1 hb1
  have hl := va.leads
  have h40 := va.le
  have hr4 := va.roots4
  refine wp_skip ?_
  refine th_n (hK2 _ _ ?_)
  clear hK2 K2
  refine wp_seq_k fun K5 hK5 => ?_
  refine Sb 9 rfl ?_  -- 3
  refine S_val (Y_loadS Try.underlying25 rfl sz25 rfl (B1.row (by rfl))) ?_  -- l2
  refine S_call rfl en81 (spec_l7Counts_c _ _ _ _ _ _ _ (by assumption) (by assumption) (by omega) (by assumption)) ?_  -- k2 spec.l7Counts
  rintro v4 w4 ⟨b4, rfl, fb4, B4, g4⟩
  replace hA := hA.grow g4
  replace hB := hB.grow g4
  replace G := G.grow g4
  replace B1 := B1.grow g4
  have zg4 := g4.size
  have lb4 := B4.lt
  refine S_val (Y_assign rfl) ?_
  refine S_nl rfl rfl ?_
  refine th_n (hK5 _ _ ?_)
  clear hK5 K5
  refine wp_ret ?_
  refine ret_r1 rfl rfl ?_  -- r2
  exact ⟨_, _, _, rfl, by rw [countsV_t hb1, cntL_len], by rw [countsV_t hb1]; exact OI.of_blk' (by first | assumption | (simp only [Nat.zero_testBit] at B3; assumption)) (by omega), G⟩

end Go.Proofs.Ytjmfdmndchoplaa
