/-
  Walks: what the reference says can be reached.
  Conditions: those that each theorem states.
-/
import Derived.Test.YtjmfdmndchoplaaTy
import Derived.Test.YtjmfdmndchoplaaWalkG
import Derived.Test.YtjmfdmndchoplaaSteps
namespace Go.Proofs.Ytjmfdmndchoplaa
open Go Go.RowKit
attribute [local irreducible] wpList wpAnyH Code.wp dOp

set_option maxHeartbeats 400000 in
set_option maxRecDepth 20000 in
theorem spec_l7Reach_c (Pr PF : Nat → Prop) (A B E : Option Addr) (h : LH) (fr : List Int) (c d e : Nat) (w : World) (hA : RC Pr w A h.cells) (hF : R1 PF w E (ints fr)) (hz : hsize h ≤ 1048576) (hfz : fr.length ≤ 1048576) (hl : Leads h.cells fr nn) :
    Calls Try.prog 74 #[.agg #[.slice A h.cells.length c, .slice B h.roots.length d], .slice E fr.length e] w (Ret fun v w' => ∃ b, v = .slice (some ⟨b, 0, none⟩) h.cells.length h.cells.length ∧ w.heap.size ≤ b ∧ Blk w' b 4 (bools (mB h.cells.length (orderL h.cells fr nn))).toArray ∧ Grow w w') := by
 have hz1 := hsize_cells h
 have hz3 : ∀ k (hk : k < h.cells.length), h.cells[k].refs.length ≤ hsize h := fun k hk => hsize_refs h hk
 refine enter Try.func74 rfl Try.ntmps74 (L := [_,_,_,_,_,_,_,_,_,_,_,_,_,_,_,_,_,_,_,_,_,_,_,_,_,_,_,_,_,_,_,_,_,_,_,_,_,_,_,_,_,_,_,_,_,_,_,_,_,_,_,_,_,_,_,_,_,_,_,_,_,_,_,_,_,_,_,_,_,_,_,_,_,_,_,_,_,_,_,_,_,_,_,_,_,_,_,_,_,_,_,_,_,_,_,_,_,_,_,_]) rfl ?_
 have G := Mod.refl No w
 have hA0 := hA
 have hF0 := hF
 refine wp_seq_k fun K1 hK1 => ?_
 refine Sb 100 rfl ?_  -- 0
 refine S_box (cs := [_, _]) rfl rfl ?_
 intro b1 w1 fb1 g1 B1
 have lb1 := B1.lt
 replace hA := hA.grow g1
 replace hF := hF.grow g1
 replace G := G.grow g1
 have zg1 := g1.size
 refine S_val (Y_assign rfl) ?_
 refine S_nl rfl rfl ?_
 refine th_n (hK1 _ _ ?_)
 clear hK1 K1
 refine wp_seq_k fun K2 hK2 => ?_
 refine Sb 100 rfl ?_  -- 1
 refine S_val (Y_field Try.underlying25 rfl fz25_0 (by decide) rfl) ?_
 refine S_val (Y_load Try.underlying23 rfl rfl (B1.at (by rfl))) ?_  -- l1
 refine S_val (Y_len Try.underlying23 rfl) ?_
 refine S_make (z := [.bool false]) Try.underlying38 zr4 sz4 by4 rfl rfl (by omega) (by omega) (by omega) ?_
 intro b2 w2 fb2 g2 B2
 have lb2 := B2.lt
 replace hA := hA.grow g2
 replace hF := hF.grow g2
 replace G := G.grow g2
 replace B1 := B1.grow g2
 have zg2 := g2.size
 replace B2 := Blk.eq B2 (mB_zero _)
 refine S_val (Y_assign rfl) ?_
 refine S_nl rfl rfl ?_
 refine th_n (hK2 _ _ ?_)
 clear hK2 K2
 refine wp_seq_k fun K3 hK3 => ?_
 refine Sb 100 rfl ?_  -- 2
 refine S_bs0 Try.underlying22 sz3 ?_
 intro b3 w3 fb3 g3 B3
 have lb3 := B3.lt
 replace hA := hA.grow g3
 replace hF := hF.grow g3
 replace G := G.grow g3
 replace B1 := B1.grow g3
 replace B2 := B2.grow g3
 have zg3 := g3.size
 refine S_val (Y_assign rfl) ?_
 refine S_nl rfl rfl ?_
 refine th_n (hK3 _ _ ?_)
 clear hK3 K3
 refine wp_seq_k fun K4 hK4 => ?_
 refine wp_seq_k fun K5 hK5 => ?_
 refine Sb 100 rfl ?_  -- 3
 refine S_val (Y_assign rfl) ?_
 refine S_nl rfl rfl ?_
 refine th_n (hK5 _ _ ?_)
 clear hK5 K5
 refine wp_block ?_
 have O3 : OW (fun i => b3 ≤ i) w3 3 1 (some ⟨b3, 0, none⟩) 0 0 (ints []) := OW.of_blk B3 rfl (by decide) (Nat.le_refl _)
 go_loopw [6, 7] (fun u6 u7 wr => (∃ (k q cap : Nat) (A1 : Option Addr) (s : List Int), u7 = .int .i64 k ∧ k ≤ fr.length ∧ s = meet nn [] (fr.take k) ∧ u6 = .slice A1 q cap ∧ q = s.length ∧ OW (fun i => b3 ≤ i) wr 3 1 A1 q cap (ints s) ∧ Blk wr b2 4 (bools (mB h.cells.length s)).toArray) ∧ Mod (fun i => i = b2 ∨ b3 ≤ i) w3 wr) (fun u6 u7 wr => fr.length - (intOf u7).toNat)  -- L1
 case atStart =>
  refine ⟨?_, Mod.refl _ _⟩
  exact ⟨0, 0, 0, _, [], rfl, by omega, rfl, rfl, rfl, O3, B2⟩
 case round =>
  obtain ⟨w4, rfl⟩ : ∃ x : World, x = wr := ⟨_, rfl⟩
  obtain ⟨hrel, g4⟩ := hrel
  clear B2
  clear O3
  replace G := G.abv g4
  replace hA := hA0.grow G
  replace hF := hF0.grow G
  replace B1 := B1.md g4
  have zg4 := g4.size
  obtain ⟨k, q, cap, A1, s, rfl, hk, hs, rfl, hq, O3, B2⟩ := hrel
  have hsl : s.length ≤ h.cells.length := by rw [hs]; exact ((Bnd.nil _).take hl.1).len
  have GL4 := g4
  refine wp_seq_k fun K6 hK6 => ?_
  refine wp_seq_k fun K7 hK7 => ?_
  refine Sb 100 rfl ?_  -- 4
  refine S_val (Y_move rfl) ?_
  refine S_val (Y_move rfl) ?_
  refine S_val (Y_len Try.underlying22 rfl) ?_
  refine S_val (Y_lss rfl rfl) ?_
  refine S_nl rfl rfl ?_
  refine th_n (hK7 _ _ ?_)
  clear hK7 K7
  refine S_if rfl (fun hb1 => ?_) (fun hb1 => ?_)  -- c1
  · -- c1T
   replace hb1 := nb_tt hb1
   have hk1 : k < fr.length := by omega
   obtain ⟨g1, o1, rfl, hp1, hc1⟩ := hF.int hk1
   refine wp_skip ?_
   refine th_n (hK6 _ _ ?_)
   clear hK6 K6
   refine wp_seq_k fun K8 hK8 => ?_
   refine wp_block ?_
   refine wp_seq_k fun K9 hK9 => ?_
   refine Sb 100 rfl ?_  -- 6
   refine S_val (Y_move rfl) ?_
   refine S_val (Y_move rfl) ?_
   refine S_val (Y_index Try.underlying22 sz3 rfl rfl (by first | assumption | omega)) ?_
   refine S_val (Y_load Try.underlying3 rfl rfl (by first | assumption | exact B1.at (by rfl) | exact B2.at (by rfl))) ?_  -- l2
   refine S_val (Y_geq rfl rfl) ?_
   refine S_val (Y_move rfl) ?_
   refine S_g 27 rfl (fun hb2 => ?_) (fun hb2 => ?_)  -- g1
   · -- g1T
    replace hb2 := nb_tt hb2
    obtain ⟨n, hn, hnN⟩ := ref_at hl.1 hk1 hb2
    rw [hn] at hc1
    rw [hn]
    have hcm : w4.cell? ⟨b2, 0 + n * 1, none⟩ = some (.bool (decide ((n : Int) ∈ s))) := by simpa using B2.at (mB_at hnN)
    refine S_on rfl rfl ?_
    refine S_val (Y_move rfl) ?_
    refine S_on rfl rfl ?_
    refine S_val (Y_move rfl) ?_
    refine S_on rfl rfl ?_
    refine S_val (Y_move rfl) ?_
    refine S_on rfl rfl ?_
    refine S_val (Y_index Try.underlying22 sz3 rfl rfl (by first | assumption | omega)) ?_
    refine S_on rfl rfl ?_
    refine S_val (Y_load Try.underlying3 rfl rfl (by first | assumption | exact B1.at (by rfl) | exact B2.at (by rfl))) ?_  -- l3
    refine S_on rfl rfl ?_
    refine S_val (Y_index Try.underlying38 sz4 rfl rfl (by first | assumption | omega)) ?_
    refine S_on rfl rfl ?_
    refine S_val (Y_load Try.underlying4 rfl rfl (by first | assumption | exact B1.at (by rfl) | exact B2.at (by rfl))) ?_  -- l4
    refine S_on rfl rfl ?_
    refine S_val (Y_not rfl) ?_
    refine S_val (Y_pickT rfl rfl) ?_
    refine S_nl rfl rfl ?_
    refine th_n (hK9 _ _ ?_)
    clear hK9 K9
    refine S_if rfl (fun hb3 => ?_) (fun hb3 => ?_)  -- c2
    · -- c2T
     first | with_reducible (replace hb3 := nb_nt hb3) | with_reducible (replace hb3 := nb_tt hb3) | with_reducible (replace hb3 := nb_bt hb3) | skip
     refine wp_seq_k fun K10 hK10 => ?_
     refine Sb 100 rfl ?_  -- 7
     refine S_val (Y_move rfl) ?_
     refine S_val (Y_move rfl) ?_
     refine S_val (Y_move rfl) ?_
     refine S_val (Y_index Try.underlying22 sz3 rfl rfl (by first | assumption | omega)) ?_
     refine S_val (Y_load Try.underlying3 rfl rfl (by first | assumption | exact B1.at (by rfl) | exact B2.at (by rfl))) ?_  -- l5
     refine S_val (Y_index Try.underlying38 sz4 rfl rfl (by first | assumption | omega)) ?_
     refine S_stM (pre := (bools (mB h.cells.length s)).take n) (old := [.bool (decide ((n : Int) ∈ s))]) (post := (bools (mB h.cells.length s)).drop (n + 1)) (vs := [_]) sz4 rfl rfl rfl rfl (by rw [← mB_split (N := h.cells.length) (n := n) (s := s) (by omega)]; exact B2) (by rw [List.length_take, bools_len, mB_len]; omega) rfl ?_
     intro w5 m5 X5
     replace B2 := Blk.eq X5 (mB_set (by omega))
     clear X5
     replace G := G.abv m5
     replace GL4 := GL4.trn m5
     replace hA := hA0.grow G
     replace hF := hF0.grow G
     replace O3 := O3.md m5
     replace B1 := B1.md m5
     have zm5 := m5.size
     obtain ⟨g5, o5, e5, hp5, hc5⟩ := hF.int hk1
     cases e5
     rw [hn] at hc5
     refine S_nl rfl rfl ?_
     refine th_n (hK10 _ _ ?_)
     clear hK10 K10
     refine Sb 100 rfl ?_  -- 8
     refine S_val (Y_move rfl) ?_
     refine S_val (Y_move rfl) ?_
     refine S_val (Y_move rfl) ?_
     refine S_val (Y_index Try.underlying22 sz3 rfl rfl (by first | assumption | omega)) ?_
     refine S_val (Y_load Try.underlying3 rfl rfl (by first | assumption | exact B1.at (by rfl) | exact B2.at (by rfl))) ?_  -- l6
     refine S_bs1 (cs := [_]) Try.underlying22 zr3 sz3 rfl rfl rfl ?_
     intro b6 w6 fb6 g6 B6
     have lb6 := B6.lt
     replace hA := hA.grow g6
     replace hF := hF.grow g6
     replace O3 := O3.grow g6
     replace G := G.grow g6
     replace GL4 := GL4.grow g6
     replace B1 := B1.grow g6
     replace B2 := B2.grow g6
     have zg6 := g6.size
     refine S_app Try.underlying22 zr3 sz3 by3 rfl rfl O3 rfl (Src.blk B6) (by simp [Value.oneCell']) (by omega) (Pr' := fun i => b3 ≤ i) (fun i hi => hi) (by omega) ?_
     intro A7 cap7 w7 X7 m7
     replace O3 := X7
     rw [ints_app] at O3
     clear X7
     replace G := G.abv m7
     replace GL4 := GL4.trn m7
     replace hA := hA0.grow G
     replace hF := hF0.grow G
     replace B1 := B1.md m7
     replace B2 := B2.md m7
     have zm7 := m7.size
     refine S_val (Y_assign rfl) ?_
     refine S_nl rfl rfl ?_
     refine ib_n ?_
     refine th_n (hK8 _ _ ?_)
     clear hK8 K8
     refine Sb 100 rfl ?_  -- 5
     refine S_val (Y_move rfl) ?_
     refine S_val (Y_inc rfl rfl (by omega)) ?_
     refine S_val (Y_assign rfl) ?_
     refine S_nl rfl rfl ?_
     refine th_n ?_
     go_roundw  -- e1 of L1
     case rel =>
      refine ⟨?_, GL4⟩
      exact ⟨k + 1, _, _, _, s ++ [(n : Int)], rfl, by omega, by rw [meet_succ hk1, ← hs, hn, meet1_new (nn_of (by omega)) hb3], rfl, by simp; omega, O3, B2⟩
     case measure =>
      exact dec_nat (by omega)
    · -- c2F
     first | with_reducible (replace hb3 := nb_nf hb3) | with_reducible (replace hb3 := nb_tf hb3) | with_reducible (replace hb3 := nb_bf hb3) | skip
     refine wp_skip ?_
     refine ib_n ?_
     refine th_n (hK8 _ _ ?_)
     clear hK8 K8
     refine Sb 100 rfl ?_  -- 5
     refine S_val (Y_move rfl) ?_
     refine S_val (Y_inc rfl rfl (by omega)) ?_
     refine S_val (Y_assign rfl) ?_
     refine S_nl rfl rfl ?_
     refine th_n ?_
     go_roundw  -- e2 of L1
     case rel =>
      refine ⟨?_, GL4⟩
      exact ⟨k + 1, _, _, _, s, rfl, by omega, by rw [meet_succ hk1, ← hs, hn, meet1_old hb3], rfl, hq, O3, B2⟩
     case measure =>
      exact dec_nat (by omega)
   · -- g1F
    replace hb2 := nb_tf hb2
    refine S_off rfl rfl ?_
    refine S_off rfl rfl ?_
    refine S_off rfl rfl ?_
    refine S_off rfl rfl ?_
    refine S_off rfl rfl ?_
    refine S_off rfl rfl ?_
    refine S_off rfl rfl ?_
    refine S_off rfl rfl ?_
    refine S_val (Y_pickF rfl rfl) ?_
    refine S_nl rfl rfl ?_
    refine th_n (hK9 _ _ ?_)
    clear hK9 K9
    refine S_ifF rfl ?_
    refine wp_skip ?_
    refine ib_n ?_
    refine th_n (hK8 _ _ ?_)
    clear hK8 K8
    refine Sb 100 rfl ?_  -- 5
    refine S_val (Y_move rfl) ?_
    refine S_val (Y_inc rfl rfl (by omega)) ?_
    refine S_val (Y_assign rfl) ?_
    refine S_nl rfl rfl ?_
    refine th_n ?_
    go_roundw  -- e3 of L1
    case rel =>
     refine ⟨?_, GL4⟩
     exact ⟨k + 1, _, _, _, s, rfl, by omega, by rw [meet_succ hk1, ← hs, meet1_not (nn_no hb2)], rfl, hq, O3, B2⟩
    case measure =>
     exact dec_nat (by omega)
  · -- c1F
   replace hb1 := nb_tf hb1
   refine wp_exit ?_
   refine th_x ?_
   clear GL4
   refine th_x ?_
   refine ib_e ?_
   refine th_n (hK4 _ _ ?_)
   clear hK6 K6 hK4 K4
   refine wp_seq_k fun K11 hK11 => ?_
   refine wp_seq_k fun K12 hK12 => ?_
   refine Sb 100 rfl ?_  -- 9
   refine S_val (Y_assign rfl) ?_
   refine S_nl rfl rfl ?_
   refine th_n (hK12 _ _ ?_)
   clear hK12 K12
   refine wp_block ?_
   go_loopw [6, 8] (fun u6 u8 wr => (∃ (k q cap : Nat) (A1 : Option Addr) (s : List Int), u8 = .int .i64 k ∧ Ord h.cells fr nn k s ∧ bfs h.cells nn (h.cells.length - k) k s = orderL h.cells fr nn ∧ u6 = .slice A1 q cap ∧ q = s.length ∧ OW (fun i => b3 ≤ i) wr 3 1 A1 q cap (ints s) ∧ Blk wr b2 4 (bools (mB h.cells.length s)).toArray) ∧ Mod (fun i => i = b2 ∨ b3 ≤ i) w4 wr) (fun u6 u8 wr => h.cells.length - (intOf u8).toNat)  -- L2
   case atStart =>
    refine ⟨?_, Mod.refl _ _⟩
    exact ⟨0, q, cap, A1, s, rfl, by rw [hs, meet_all (by omega)]; exact Ord.start _ _ _, by rw [hs, meet_all (by omega)]; rfl, rfl, hq, O3, B2⟩
   case round =>
    obtain ⟨w8, rfl⟩ : ∃ x : World, x = wr := ⟨_, rfl⟩
    obtain ⟨hrel, g8⟩ := hrel
    clear B2
    clear O3
    replace G := G.abv g8
    replace hA := hA0.grow G
    replace hF := hF0.grow G
    replace B1 := B1.md g8
    have zg8 := g8.size
    obtain ⟨k2, q2, cap2, A2, s2, rfl, ho2, hbf, rfl, hq2, O3, B2⟩ := hrel
    have hbd := ho2.bnd hl
    have hsl2 := hbd.len
    have GL8 := g8
    refine wp_seq_k fun K13 hK13 => ?_
    refine wp_seq_k fun K14 hK14 => ?_
    refine Sb 100 rfl ?_  -- 10
    refine S_val (Y_move rfl) ?_
    refine S_val (Y_move rfl) ?_
    refine S_val (Y_len Try.underlying22 rfl) ?_
    refine S_val (Y_lss rfl rfl) ?_
    refine S_nl rfl rfl ?_
    refine th_n (hK14 _ _ ?_)
    clear hK14 K14
    refine S_if rfl (fun hb2 => ?_) (fun hb2 => ?_)  -- c3
    · -- c3T
     replace hb2 := nb_tt hb2
     refine wp_skip ?_
     refine th_n (hK13 _ _ ?_)
     clear hK13 K13
     refine wp_seq_k fun K15 hK15 => ?_
     refine wp_block ?_
     refine wp_seq_k fun K16 hK16 => ?_
     refine D_start 10 100 (fun w => Mod (No) w) follows rfl rfl ?_  -- d1 r12
     intro w9 g9
     replace hA := hA.grow g9
     replace hF := hF.grow g9
     replace O3 := O3.grow g9
     replace G := G.grow g9
     replace GL8 := GL8.grow g9
     replace B1 := B1.grow g9
     replace B2 := B2.grow g9
     have zg9 := g9.size
     have GS9 := Mod.refl (No) w9
     have hk2 : k2 < s2.length := by omega
     obtain ⟨n2, hn2, hnN2, hng2⟩ := bnd_at hbd hk2
     obtain ⟨g2, o2, rfl, hp2, hc2⟩ := O3.r1.int hk2
     rw [hn2] at hc2
     obtain ⟨g3, o3, E3, d3, rfl, hp3, cc30, hE30⟩ := hA0.cell hnN2
     have hz4 := hz3 n2 hnN2
     have cc3 := cc30.grow G
     have hE3 := hE30.grow G
     have B1d9 := B1
     refine Dq (i := 0) rfl GS9 (fun _ _ => Y_field Try.underlying25 rfl fz25_0 (by decide) rfl) ?_
     refine Dq (i := 1) rfl GS9 (fun _ hs => Y_load Try.underlying23 rfl rfl (hs.cell0 (B1.at (by rfl)))) ?_
     refine Dq (i := 2) rfl GS9 (fun _ _ => Y_move rfl) ?_
     refine Dq (i := 3) rfl GS9 (fun _ _ => Y_move rfl) ?_
     refine Dq (i := 4) rfl GS9 (fun _ _ => Y_index Try.underlying22 sz3 rfl rfl (by first | assumption | omega)) ?_
     refine Dq (i := 5) rfl GS9 (fun _ hs => Y_load Try.underlying3 rfl rfl (by first | exact hs.cell0 (by assumption) | exact hs.cell0 (cc3.at (by rfl)) | exact hs.cell0 (B1.at (by rfl)) | exact hs.cell0 (B2.at (by rfl)))) ?_
     refine Dq (i := 6) rfl GS9 (fun _ _ => Y_index Try.underlying23 sz70 rfl rfl (by first | assumption | omega)) ?_
     refine Dq (i := 7) rfl GS9 (fun _ _ => Y_field Try.underlying70 rfl fz70_2 (by decide) rfl) ?_
     refine Dq (i := 8) rfl GS9 (fun _ hs => Y_load Try.underlying22 rfl rfl (by first | exact hs.cell0 (by assumption) | exact hs.cell0 (cc3.at (by rfl)) | exact hs.cell0 (B1.at (by rfl)) | exact hs.cell0 (B2.at (by rfl)))) ?_
     refine Dq (i := 9) rfl GS9 (fun _ _ => Y_assign rfl) ?_
     refine D_en (by kernel_rfl) rfl rfl ?_
     refine th_n (hK16 _ _ ?_)
     clear hK16 K16
     refine wp_seq_k fun K17 hK17 => ?_
     refine Sb 100 rfl ?_  -- 13
     refine S_val (Y_assign rfl) ?_
     refine S_nl rfl rfl ?_
     refine th_n (hK17 _ _ ?_)
     clear hK17 K17
     refine wp_block ?_
     go_loopw [6, 10] (fun u6 u10 wr => (∃ (k q cap : Nat) (A1 : Option Addr) (s : List Int), u10 = .int .i64 k ∧ k ≤ h.cells[n2].refs.length ∧ s = meet nn s2 (h.cells[n2].refs.take k) ∧ u6 = .slice A1 q cap ∧ q = s.length ∧ OW (fun i => b3 ≤ i) wr 3 1 A1 q cap (ints s) ∧ Blk wr b2 4 (bools (mB h.cells.length s)).toArray) ∧ Mod (fun i => i = b2 ∨ b3 ≤ i) w9 wr) (fun u6 u10 wr => h.cells[n2].refs.length - (intOf u10).toNat)  -- L3
     case atStart =>
      refine ⟨?_, Mod.refl _ _⟩
      exact ⟨0, q2, cap2, _, s2, rfl, by omega, rfl, rfl, hq2, O3, B2⟩
     case round =>
      obtain ⟨w10, rfl⟩ : ∃ x : World, x = wr := ⟨_, rfl⟩
      obtain ⟨hrel, g10⟩ := hrel
      clear B2
      clear O3
      replace G := G.abv g10
      replace GL8 := GL8.trn g10
      replace hA := hA0.grow G
      replace hF := hF0.grow G
      replace cc3 := cc30.grow G
      replace hE3 := hE30.grow G
      replace B1 := B1.md g10
      have zg10 := g10.size
      obtain ⟨j, q3, cap3, A3, s3, rfl, hj, hs3, rfl, hq3, O3, B2⟩ := hrel
      have hsl3 : s3.length ≤ h.cells.length := by rw [hs3]; exact (hbd.take (hl.refs hnN2)).len
      have GL10 := g10
      refine wp_seq_k fun K18 hK18 => ?_
      refine wp_seq_k fun K19 hK19 => ?_
      refine Sb 100 rfl ?_  -- 14
      refine S_val (Y_move rfl) ?_
      refine S_val (Y_move rfl) ?_
      refine S_val (Y_len Try.underlying22 rfl) ?_
      refine S_val (Y_lss rfl rfl) ?_
      refine S_nl rfl rfl ?_
      refine th_n (hK19 _ _ ?_)
      clear hK19 K19
      refine S_if rfl (fun hb3 => ?_) (fun hb3 => ?_)  -- c4
      · -- c4T
       replace hb3 := nb_tt hb3
       have hj1 : j < h.cells[n2].refs.length := by omega
       obtain ⟨g4, o4, rfl, hp4, hc4⟩ := hE3.int hj1
       refine wp_skip ?_
       refine th_n (hK18 _ _ ?_)
       clear hK18 K18
       refine wp_seq_k fun K20 hK20 => ?_
       refine wp_block ?_
       refine wp_seq_k fun K21 hK21 => ?_
       refine Sb 100 rfl ?_  -- 16
       refine S_val (Y_move rfl) ?_
       refine S_val (Y_move rfl) ?_
       refine S_val (Y_index Try.underlying22 sz3 rfl rfl (by first | assumption | omega)) ?_
       refine S_val (Y_load Try.underlying3 rfl rfl (by first | assumption | exact cc3.at (by rfl) | exact B1.at (by rfl) | exact B2.at (by rfl))) ?_  -- l10
       refine S_val (Y_geq rfl rfl) ?_
       refine S_val (Y_move rfl) ?_
       refine S_g 76 rfl (fun hb4 => ?_) (fun hb4 => ?_)  -- g2
       · -- g2T
        replace hb4 := nb_tt hb4
        obtain ⟨n, hn, hnN⟩ := ref_at (hl.refs hnN2) hj1 hb4
        rw [hn] at hc4
        rw [hn]
        have hcm : w10.cell? ⟨b2, 0 + n * 1, none⟩ = some (.bool (decide ((n : Int) ∈ s3))) := by simpa using B2.at (mB_at hnN)
        refine S_on rfl rfl ?_
        refine S_val (Y_move rfl) ?_
        refine S_on rfl rfl ?_
        refine S_val (Y_move rfl) ?_
        refine S_on rfl rfl ?_
        refine S_val (Y_move rfl) ?_
        refine S_on rfl rfl ?_
        refine S_val (Y_index Try.underlying22 sz3 rfl rfl (by first | assumption | omega)) ?_
        refine S_on rfl rfl ?_
        refine S_val (Y_load Try.underlying3 rfl rfl (by first | assumption | exact cc3.at (by rfl) | exact B1.at (by rfl) | exact B2.at (by rfl))) ?_  -- l11
        refine S_on rfl rfl ?_
        refine S_val (Y_index Try.underlying38 sz4 rfl rfl (by first | assumption | omega)) ?_
        refine S_on rfl rfl ?_
        refine S_val (Y_load Try.underlying4 rfl rfl (by first | assumption | exact cc3.at (by rfl) | exact B1.at (by rfl) | exact B2.at (by rfl))) ?_  -- l12
        refine S_on rfl rfl ?_
        refine S_val (Y_not rfl) ?_
        refine S_val (Y_pickT rfl rfl) ?_
        refine S_nl rfl rfl ?_
        refine th_n (hK21 _ _ ?_)
        clear hK21 K21
        refine S_if rfl (fun hb5 => ?_) (fun hb5 => ?_)  -- c5
        · -- c5T
         first | with_reducible (replace hb5 := nb_nt hb5) | with_reducible (replace hb5 := nb_tt hb5) | with_reducible (replace hb5 := nb_bt hb5) | skip
         refine wp_seq_k fun K22 hK22 => ?_
         refine Sb 100 rfl ?_  -- 17
         refine S_val (Y_move rfl) ?_
         refine S_val (Y_move rfl) ?_
         refine S_val (Y_move rfl) ?_
         refine S_val (Y_index Try.underlying22 sz3 rfl rfl (by first | assumption | omega)) ?_
         refine S_val (Y_load Try.underlying3 rfl rfl (by first | assumption | exact cc3.at (by rfl) | exact B1.at (by rfl) | exact B2.at (by rfl))) ?_  -- l13
         refine S_val (Y_index Try.underlying38 sz4 rfl rfl (by first | assumption | omega)) ?_
         refine S_stM (pre := (bools (mB h.cells.length s3)).take n) (old := [.bool (decide ((n : Int) ∈ s3))]) (post := (bools (mB h.cells.length s3)).drop (n + 1)) (vs := [_]) sz4 rfl rfl rfl rfl (by rw [← mB_split (N := h.cells.length) (n := n) (s := s3) (by omega)]; exact B2) (by rw [List.length_take, bools_len, mB_len]; omega) rfl ?_
         intro w11 m11 X11
         replace B2 := Blk.eq X11 (mB_set (by omega))
         clear X11
         replace G := G.abv m11
         replace GL8 := GL8.trn m11
         replace GL10 := GL10.trn m11
         replace hA := hA0.grow G
         replace hF := hF0.grow G
         replace cc3 := cc30.grow G
         replace hE3 := hE30.grow G
         replace O3 := O3.md m11
         replace B1 := B1.md m11
         have zm11 := m11.size
         obtain ⟨g5, o5, e5, hp5, hc5⟩ := hE3.int hj1
         cases e5
         rw [hn] at hc5
         refine S_nl rfl rfl ?_
         refine th_n (hK22 _ _ ?_)
         clear hK22 K22
         refine Sb 100 rfl ?_  -- 18
         refine S_val (Y_move rfl) ?_
         refine S_val (Y_move rfl) ?_
         refine S_val (Y_move rfl) ?_
         refine S_val (Y_index Try.underlying22 sz3 rfl rfl (by first | assumption | omega)) ?_
         refine S_val (Y_load Try.underlying3 rfl rfl (by first | assumption | exact cc3.at (by rfl) | exact B1.at (by rfl) | exact B2.at (by rfl))) ?_  -- l14
         refine S_bs1 (cs := [_]) Try.underlying22 zr3 sz3 rfl rfl rfl ?_
         intro b12 w12 fb12 g12 B12
         have lb12 := B12.lt
         replace hA := hA.grow g12
         replace hF := hF.grow g12
         replace cc3 := cc3.grow g12
         replace hE3 := hE3.grow g12
         replace O3 := O3.grow g12
         replace G := G.grow g12
         replace GL8 := GL8.grow g12
         replace GL10 := GL10.grow g12
         replace B1 := B1.grow g12
         replace B2 := B2.grow g12
         have zg12 := g12.size
         refine S_app Try.underlying22 zr3 sz3 by3 rfl rfl O3 rfl (Src.blk B12) (by simp [Value.oneCell']) (by omega) (Pr' := fun i => b3 ≤ i) (fun i hi => hi) (by omega) ?_
         intro A13 cap13 w13 X13 m13
         replace O3 := X13
         rw [ints_app] at O3
         clear X13
         replace G := G.abv m13
         replace GL8 := GL8.trn m13
         replace GL10 := GL10.trn m13
         replace hA := hA0.grow G
         replace hF := hF0.grow G
         replace cc3 := cc30.grow G
         replace hE3 := hE30.grow G
         replace B1 := B1.md m13
         replace B2 := B2.md m13
         have zm13 := m13.size
         refine S_val (Y_assign rfl) ?_
         refine S_nl rfl rfl ?_
         refine ib_n ?_
         refine th_n (hK20 _ _ ?_)
         clear hK20 K20
         refine Sb 100 rfl ?_  -- 15
         refine S_val (Y_move rfl) ?_
         refine S_val (Y_inc rfl rfl (by omega)) ?_
         refine S_val (Y_assign rfl) ?_
         refine S_nl rfl rfl ?_
         refine th_n ?_
         go_roundw  -- e4 of L3
         case rel =>
          refine ⟨?_, GL10⟩
          exact ⟨j + 1, _, _, _, s3 ++ [(n : Int)], rfl, by omega, by rw [meet_succ hj1, ← hs3, hn, meet1_new (nn_of (by omega)) hb5], rfl, by simp; omega, O3, B2⟩
         case measure =>
          exact dec_nat (by omega)
        · -- c5F
         first | with_reducible (replace hb5 := nb_nf hb5) | with_reducible (replace hb5 := nb_tf hb5) | with_reducible (replace hb5 := nb_bf hb5) | skip
         refine wp_skip ?_
         refine ib_n ?_
         refine th_n (hK20 _ _ ?_)
         clear hK20 K20
         refine Sb 100 rfl ?_  -- 15
         refine S_val (Y_move rfl) ?_
         refine S_val (Y_inc rfl rfl (by omega)) ?_
         refine S_val (Y_assign rfl) ?_
         refine S_nl rfl rfl ?_
         refine th_n ?_
         go_roundw  -- e5 of L3
         case rel =>
          refine ⟨?_, GL10⟩
          exact ⟨j + 1, _, _, _, s3, rfl, by omega, by rw [meet_succ hj1, ← hs3, hn, meet1_old hb5], rfl, hq3, O3, B2⟩
         case measure =>
          exact dec_nat (by omega)
       · -- g2F
        replace hb4 := nb_tf hb4
        refine S_off rfl rfl ?_
        refine S_off rfl rfl ?_
        refine S_off rfl rfl ?_
        refine S_off rfl rfl ?_
        refine S_off rfl rfl ?_
        refine S_off rfl rfl ?_
        refine S_off rfl rfl ?_
        refine S_off rfl rfl ?_
        refine S_val (Y_pickF rfl rfl) ?_
        refine S_nl rfl rfl ?_
        refine th_n (hK21 _ _ ?_)
        clear hK21 K21
        refine S_ifF rfl ?_
        refine wp_skip ?_
        refine ib_n ?_
        refine th_n (hK20 _ _ ?_)
        clear hK20 K20
        refine Sb 100 rfl ?_  -- 15
        refine S_val (Y_move rfl) ?_
        refine S_val (Y_inc rfl rfl (by omega)) ?_
        refine S_val (Y_assign rfl) ?_
        refine S_nl rfl rfl ?_
        refine th_n ?_
        go_roundw  -- e6 of L3
        case rel =>
         refine ⟨?_, GL10⟩
         exact ⟨j + 1, _, _, _, s3, rfl, by omega, by rw [meet_succ hj1, ← hs3, meet1_not (nn_no hb4)], rfl, hq3, O3, B2⟩
        case measure =>
         exact dec_nat (by omega)
      · -- c4F
       replace hb3 := nb_tf hb3
       refine wp_exit ?_
       refine th_x ?_
       clear GL10
       refine th_x ?_
       refine ib_e ?_
       refine ib_n ?_
       refine th_n (hK15 _ _ ?_)
       clear hK18 K18 hK15 K15
       refine Sb 100 rfl ?_  -- 11
       refine S_val (Y_move rfl) ?_
       refine S_val (Y_inc rfl rfl (by omega)) ?_
       refine S_val (Y_assign rfl) ?_
       refine S_nl rfl rfl ?_
       refine th_n ?_
       go_roundw  -- e7 of L2
       case rel =>
        refine ⟨?_, GL8⟩
        exact ⟨k2 + 1, q3, cap3, _, s3, rfl, by rw [hs3, meet_all (by omega), ← refsOf_at hnN2]; exact ho2.next hng2, by rw [hs3, meet_all (by omega), ← refsOf_at hnN2, ← bfs_go (by omega) hng2]; exact hbf, rfl, hq3, O3, B2⟩
       case measure =>
        exact dec_nat (by omega)
    · -- c3F
     replace hb2 := nb_tf hb2
     refine wp_exit ?_
     refine th_x ?_
     clear GL8
     refine th_x ?_
     refine ib_e ?_
     refine th_n (hK11 _ _ ?_)
     clear hK13 K13 hK11 K11
     refine wp_seq_k fun K23 hK23 => ?_
     refine Sb 100 rfl ?_  -- 19
     refine S_val (Y_move rfl) ?_
     refine S_val (Y_assign rfl) ?_
     refine S_nl rfl rfl ?_
     refine th_n (hK23 _ _ ?_)
     clear hK23 K23
     refine wp_ret ?_
     refine ret_r1 rfl rfl ?_  -- r1
     have he := hbf
     rw [bfs_end (by omega)] at he
     exact ⟨_, rfl, by omega, by rw [← he]; exact B2, G⟩

end Go.Proofs.Ytjmfdmndchoplaa
