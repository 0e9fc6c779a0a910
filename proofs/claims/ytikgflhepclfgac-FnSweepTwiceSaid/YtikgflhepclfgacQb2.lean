/-
  Walks through functions of the program and the reference, and the plain laws behind them: what one claim needs of them.
  Conditions: those that each theorem states.
-/
import Derived.Test.YtikgflhepclfgacQb1
set_option linter.unusedVariables false
set_option linter.unusedSimpArgs false
namespace Go.Proofs.Ytikgflhepclfgac
/-! WalkF -/
section
open Go Go.RowKit
attribute [local irreducible] wpList wpAnyH Code.wp dOp
set_option maxHeartbeats 400000 in
set_option maxRecDepth 20000 in
theorem spec_l9Order_c (Pr : Nat → Prop) (A B : Option Addr) (h : LH) (c d : Nat) (w : World) (hA : RC Pr w A h.cells) (hB : R1 Pr w B (ints h.roots)) (hz : hsize h ≤ 1048576) (hl : Leads h.cells h.roots nn) :
    Calls Try.prog 99 #[.agg #[.slice A h.cells.length c, .slice B h.roots.length d]] w (Ret fun v w' => ∃ A1 q cap, v = .slice A1 q cap ∧ q = (orderL h.cells h.roots nn).length ∧ OW (fun i => w.heap.size ≤ i) w' 3 1 A1 q cap (ints (orderL h.cells h.roots nn)) ∧ Grow w w') := by
 have hz1 := hsize_cells h
 have hz2 := hsize_roots h
 have hz3 : ∀ k (hk : k < h.cells.length), h.cells[k].refs.length ≤ hsize h := fun k hk => hsize_refs h hk
 refine enter Try.func99 rfl Try.ntmps99 (L := [_,_,_,_,_,_,_,_,_,_,_,_,_,_,_,_,_,_,_,_,_,_,_,_,_,_,_,_,_,_,_,_,_,_,_,_,_,_,_,_,_,_,_,_,_,_,_,_,_,_,_,_,_,_,_,_,_,_,_,_,_,_,_,_,_,_,_,_,_,_,_,_,_,_,_,_,_,_,_,_,_,_,_,_,_,_]) rfl ?_
 have G := Mod.refl No w
 have hA0 := hA
 have hB0 := hB
 refine wp_seq_k fun K1 hK1 => ?_
 refine Sb 86 rfl ?_  -- 0
 refine S_box (cs := [_, _]) rfl rfl ?_
 intro b1 w1 fb1 g1 B1
 have lb1 := B1.lt
 replace hA := hA.grow g1
 replace hB := hB.grow g1
 replace G := G.grow g1
 have zg1 := g1.size
 refine S_val (Y_assign rfl) ?_
 refine S_nl rfl rfl ?_
 refine th_n (hK1 _ _ ?_)
 clear hK1 K1
 refine wp_seq_k fun K2 hK2 => ?_
 refine Sb 86 rfl ?_  -- 1
 refine S_bs0 Try.underlying23 sz3 ?_
 intro b2 w2 fb2 g2 B2
 have lb2 := B2.lt
 replace hA := hA.grow g2
 replace hB := hB.grow g2
 replace G := G.grow g2
 replace B1 := B1.grow g2
 have zg2 := g2.size
 refine S_val (Y_assign rfl) ?_
 refine S_nl rfl rfl ?_
 refine th_n (hK2 _ _ ?_)
 clear hK2 K2
 refine wp_seq_k fun K3 hK3 => ?_
 refine Sb 86 rfl ?_  -- 2
 refine S_val (Y_field Try.underlying32 rfl fz32_0 (by decide) rfl) ?_
 refine S_val (Y_load Try.underlying30 rfl rfl (B1.at (by rfl))) ?_  -- l1
 refine S_val (Y_len Try.underlying30 rfl) ?_
 refine S_make (z := [.bool false]) Try.underlying27 zr4 sz4 by4 rfl rfl (by omega) (by omega) (by omega) ?_
 intro b3 w3 fb3 g3 B3
 have lb3 := B3.lt
 replace hA := hA.grow g3
 replace hB := hB.grow g3
 replace G := G.grow g3
 replace B1 := B1.grow g3
 replace B2 := B2.grow g3
 have zg3 := g3.size
 replace B3 := Blk.eq B3 (mB_zero _)
 have O2 : OW (fun i => i = b2 ∨ b3 < i) w3 3 1 (some ⟨b2, 0, none⟩) 0 0 (ints []) := OW.of_blk B2 rfl (by decide) (.inl rfl)
 refine S_val (Y_assign rfl) ?_
 refine S_nl rfl rfl ?_
 refine th_n (hK3 _ _ ?_)
 clear hK3 K3
 refine wp_seq_k fun K4 hK4 => ?_
 refine wp_seq_k fun K5 hK5 => ?_
 refine Sb 86 rfl ?_  -- 3
 refine S_val (Y_assign rfl) ?_
 refine S_nl rfl rfl ?_
 refine th_n (hK5 _ _ ?_)
 clear hK5 K5
 refine wp_block ?_
 go_loopw [3, 5] (fun u3 u5 wr => (∃ (k q cap : Nat) (A1 : Option Addr) (s : List Int), u5 = .int .i64 k ∧ u3 = .slice A1 q cap ∧ q = s.length ∧ k ≤ h.roots.length ∧ s = meet nn [] (h.roots.take k) ∧ OW (fun i => i = b2 ∨ b3 < i) wr 3 1 A1 q cap (ints s) ∧ Blk wr b3 4 (bools (mB h.cells.length s)).toArray) ∧ Mod (fun i => i = b2 ∨ b3 ≤ i) w3 wr) (fun u3 u5 wr => h.roots.length - (intOf u5).toNat)  -- L1
 case atStart =>
  refine ⟨?_, Mod.refl _ _⟩
  exact ⟨0, 0, 0, _, [], rfl, rfl, rfl, by omega, rfl, O2, B3⟩
 case round =>
  obtain ⟨w4, rfl⟩ : ∃ x : World, x = wr := ⟨_, rfl⟩
  obtain ⟨hrel, g4⟩ := hrel
  clear B3
  clear O2
  replace G := G.abv g4
  replace hA := hA0.grow G
  replace hB := hB0.grow G
  replace B1 := B1.md g4
  have zg4 := g4.size
  obtain ⟨k, q, cap, A1, s, rfl, rfl, hq, hk, hs, O2, B3⟩ := hrel
  have hsl : s.length ≤ h.cells.length := by rw [hs]; exact ((Bnd.nil _).take hl.1).len
  have GL4 := g4
  refine wp_seq_k fun K6 hK6 => ?_
  refine wp_seq_k fun K7 hK7 => ?_
  refine Sb 86 rfl ?_  -- 4
  refine S_val (Y_move rfl) ?_
  refine S_val (Y_field Try.underlying32 rfl fz32_1 (by decide) rfl) ?_
  refine S_val (Y_load Try.underlying23 rfl rfl (B1.at (by rfl))) ?_  -- l2
  refine S_val (Y_len Try.underlying23 rfl) ?_
  refine S_val (Y_lss rfl rfl) ?_
  refine S_nl rfl rfl ?_
  refine th_n (hK7 _ _ ?_)
  clear hK7 K7
  refine S_if rfl (fun hb1 => ?_) (fun hb1 => ?_)  -- c1
  · -- c1T
   replace hb1 := nb_tt hb1
   have hk1 : k < h.roots.length := by omega
   obtain ⟨g1, o1, rfl, hp1, hc1⟩ := hB.int hk1
   refine wp_skip ?_
   refine th_n (hK6 _ _ ?_)
   clear hK6 K6
   refine wp_seq_k fun K8 hK8 => ?_
   refine wp_block ?_
   refine wp_seq_k fun K9 hK9 => ?_
   refine Sb 86 rfl ?_  -- 6
   refine S_val (Y_field Try.underlying32 rfl fz32_1 (by decide) rfl) ?_
   refine S_val (Y_load Try.underlying23 rfl rfl (B1.at (by rfl))) ?_  -- l3
   refine S_val (Y_move rfl) ?_
   refine S_val (Y_index Try.underlying23 sz3 rfl rfl (by first | assumption | omega)) ?_
   refine S_val (Y_load Try.underlying3 rfl rfl (by first | assumption | exact B1.at (by rfl) | exact B3.at (by rfl))) ?_  -- l4
   refine S_val (Y_assign rfl) ?_
   refine S_nl rfl rfl ?_
   refine th_n (hK9 _ _ ?_)
   clear hK9 K9
   refine wp_seq_k fun K10 hK10 => ?_
   refine Sb 86 rfl ?_  -- 7
   refine S_val (Y_move rfl) ?_
   refine S_val (Y_geq rfl rfl) ?_
   refine S_val (Y_move rfl) ?_
   refine S_g 30 rfl (fun hb2 => ?_) (fun hb2 => ?_)  -- g1
   · -- g1T
    replace hb2 := nb_tt hb2
    obtain ⟨n, hn, hnN⟩ := ref_at hl.1 hk1 hb2
    rw [hn] at hc1
    rw [hn]
    have hcm : w4.cell? ⟨b3, 0 + n * 1, none⟩ = some (.bool (decide ((n : Int) ∈ s))) := by simpa using B3.at (mB_at hnN)
    refine S_on rfl rfl ?_
    refine S_val (Y_move rfl) ?_
    refine S_on rfl rfl ?_
    refine S_val (Y_move rfl) ?_
    refine S_on rfl rfl ?_
    refine S_val (Y_index Try.underlying27 sz4 rfl rfl (by first | assumption | omega)) ?_
    refine S_on rfl rfl ?_
    refine S_val (Y_load Try.underlying4 rfl rfl (by first | assumption | exact B1.at (by rfl) | exact B3.at (by rfl))) ?_  -- l5
    refine S_on rfl rfl ?_
    refine S_val (Y_not rfl) ?_
    refine S_val (Y_pickT rfl rfl) ?_
    refine S_nl rfl rfl ?_
    refine th_n (hK10 _ _ ?_)
    clear hK10 K10
    refine S_if rfl (fun hb3 => ?_) (fun hb3 => ?_)  -- c2
    · -- c2T
     first | with_reducible (replace hb3 := nb_nt hb3) | with_reducible (replace hb3 := nb_tt hb3) | with_reducible (replace hb3 := nb_bt hb3) | skip
     refine wp_seq_k fun K11 hK11 => ?_
     refine Sb 86 rfl ?_  -- 8
     refine S_val (Y_move rfl) ?_
     refine S_val (Y_move rfl) ?_
     refine S_val (Y_index Try.underlying27 sz4 rfl rfl (by first | assumption | omega)) ?_
     refine S_stM (pre := (bools (mB h.cells.length s)).take n) (old := [.bool (decide ((n : Int) ∈ s))]) (post := (bools (mB h.cells.length s)).drop (n + 1)) (vs := [_]) sz4 rfl rfl rfl rfl (by rw [← mB_split (N := h.cells.length) (n := n) (s := s) (by omega)]; exact B3) (by rw [List.length_take, bools_len, mB_len]; omega) rfl ?_
     intro w5 m5 X5
     replace B3 := Blk.eq X5 (mB_set (by omega))
     clear X5
     replace G := G.abv m5
     replace GL4 := GL4.trn m5
     replace hA := hA0.grow G
     replace hB := hB0.grow G
     replace O2 := O2.md m5
     replace B1 := B1.md m5
     have zm5 := m5.size
     refine S_nl rfl rfl ?_
     refine th_n (hK11 _ _ ?_)
     clear hK11 K11
     refine Sb 86 rfl ?_  -- 9
     refine S_val (Y_move rfl) ?_
     refine S_val (Y_move rfl) ?_
     refine S_bs1 (cs := [_]) Try.underlying23 zr3 sz3 rfl rfl rfl ?_
     intro b6 w6 fb6 g6 B6
     have lb6 := B6.lt
     replace hA := hA.grow g6
     replace hB := hB.grow g6
     replace O2 := O2.grow g6
     replace G := G.grow g6
     replace GL4 := GL4.grow g6
     replace B1 := B1.grow g6
     replace B3 := B3.grow g6
     have zg6 := g6.size
     refine S_app Try.underlying23 zr3 sz3 by3 rfl rfl O2 rfl (Src.blk B6) (by simp [Value.oneCell']) (by omega) (Pr' := fun i => i = b2 ∨ b3 < i) (fun i hi => hi) (by omega) ?_
     intro A7 cap7 w7 X7 m7
     replace O2 := X7
     rw [ints_app] at O2
     clear X7
     replace G := G.abv m7
     replace GL4 := GL4.trn m7
     replace hA := hA0.grow G
     replace hB := hB0.grow G
     replace B1 := B1.md m7
     replace B3 := B3.md m7
     have zm7 := m7.size
     refine S_val (Y_assign rfl) ?_
     refine S_nl rfl rfl ?_
     refine ib_n ?_
     refine th_n (hK8 _ _ ?_)
     clear hK8 K8
     refine Sb 86 rfl ?_  -- 5
     refine S_val (Y_move rfl) ?_
     refine S_val (Y_inc rfl rfl (by omega)) ?_
     refine S_val (Y_assign rfl) ?_
     refine S_nl rfl rfl ?_
     refine th_n ?_
     go_roundw  -- e1 of L1
     case rel =>
      refine ⟨?_, GL4⟩
      exact ⟨k + 1, _, _, _, s ++ [(n : Int)], rfl, rfl, by simp; omega, by omega, by rw [meet_succ hk1, ← hs, hn, meet1_new (nn_of (by omega)) hb3], O2, B3⟩
     case measure =>
      exact dec_nat (by omega)
    · -- c2F
     first | with_reducible (replace hb3 := nb_nf hb3) | with_reducible (replace hb3 := nb_tf hb3) | with_reducible (replace hb3 := nb_bf hb3) | skip
     refine wp_skip ?_
     refine ib_n ?_
     refine th_n (hK8 _ _ ?_)
     clear hK8 K8
     refine Sb 86 rfl ?_  -- 5
     refine S_val (Y_move rfl) ?_
     refine S_val (Y_inc rfl rfl (by omega)) ?_
     refine S_val (Y_assign rfl) ?_
     refine S_nl rfl rfl ?_
     refine th_n ?_
     go_roundw  -- e2 of L1
     case rel =>
      refine ⟨?_, GL4⟩
      exact ⟨k + 1, _, _, _, s, rfl, rfl, hq, by omega, by rw [meet_succ hk1, ← hs, hn, meet1_old hb3], O2, B3⟩
     case measure =>
      exact dec_nat (by omega)
   · -- g1F
    replace hb2 := nb_tf hb2
    refine S_off rfl rfl ?_
    refine S_off rfl rfl ?_
    refine S_off rfl rfl ?_
    refine S_off rfl rfl ?_
    refine S_off rfl rfl ?_
    refine S_val (Y_pickF rfl rfl) ?_
    refine S_nl rfl rfl ?_
    refine th_n (hK10 _ _ ?_)
    clear hK10 K10
    refine S_ifF rfl ?_
    refine wp_skip ?_
    refine ib_n ?_
    refine th_n (hK8 _ _ ?_)
    clear hK8 K8
    refine Sb 86 rfl ?_  -- 5
    refine S_val (Y_move rfl) ?_
    refine S_val (Y_inc rfl rfl (by omega)) ?_
    refine S_val (Y_assign rfl) ?_
    refine S_nl rfl rfl ?_
    refine th_n ?_
    go_roundw  -- e3 of L1
    case rel =>
     refine ⟨?_, GL4⟩
     exact ⟨k + 1, _, _, _, s, rfl, rfl, hq, by omega, by rw [meet_succ hk1, ← hs, meet1_not (nn_no hb2)], O2, B3⟩
    case measure =>
     exact dec_nat (by omega)
  · -- c1F
   replace hb1 := nb_tf hb1
   refine wp_exit ?_
   refine th_x ?_
   try clear GL4
   refine th_x ?_
   refine ib_e ?_
   refine th_n (hK4 _ _ ?_)
   clear hK6 K6 hK4 K4
   refine wp_seq_k fun K12 hK12 => ?_
   refine wp_seq_k fun K13 hK13 => ?_
   refine Sb 86 rfl ?_  -- 10
   refine S_val (Y_assign rfl) ?_
   refine S_nl rfl rfl ?_
   refine th_n (hK13 _ _ ?_)
   clear hK13 K13
   refine wp_block ?_
   go_loopw [3, 7] (fun u3 u7 wr => (∃ (k q cap : Nat) (A1 : Option Addr) (s : List Int), u7 = .int .i64 k ∧ u3 = .slice A1 q cap ∧ q = s.length ∧ Ord h.cells h.roots nn k s ∧ bfs h.cells nn (h.cells.length - k) k s = orderL h.cells h.roots nn ∧ OW (fun i => i = b2 ∨ b3 < i) wr 3 1 A1 q cap (ints s) ∧ Blk wr b3 4 (bools (mB h.cells.length s)).toArray) ∧ Mod (fun i => i = b2 ∨ b3 ≤ i) w4 wr) (fun u3 u7 wr => h.cells.length - (intOf u7).toNat)  -- L2
   case atStart =>
    refine ⟨?_, Mod.refl _ _⟩
    exact ⟨0, q, cap, A1, s, rfl, rfl, hq, by rw [hs, meet_all (by omega)]; exact Ord.start _ _ _, by rw [hs, meet_all (by omega)]; rfl, O2, B3⟩
   case round =>
    obtain ⟨w8, rfl⟩ : ∃ x : World, x = wr := ⟨_, rfl⟩
    obtain ⟨hrel, g8⟩ := hrel
    clear B3
    clear O2
    replace G := G.abv g8
    replace hA := hA0.grow G
    replace hB := hB0.grow G
    replace B1 := B1.md g8
    have zg8 := g8.size
    obtain ⟨k2, q2, cap2, A2, s2, rfl, rfl, hq2, ho2, hbf, O2, B3⟩ := hrel
    have hbd := ho2.bnd hl
    have hsl2 := hbd.len
    have GL8 := g8
    refine wp_seq_k fun K14 hK14 => ?_
    refine wp_seq_k fun K15 hK15 => ?_
    refine Sb 86 rfl ?_  -- 11
    refine S_val (Y_move rfl) ?_
    refine S_val (Y_move rfl) ?_
    refine S_val (Y_len Try.underlying23 rfl) ?_
    refine S_val (Y_lss rfl rfl) ?_
    refine S_nl rfl rfl ?_
    refine th_n (hK15 _ _ ?_)
    clear hK15 K15
    refine S_if rfl (fun hb2 => ?_) (fun hb2 => ?_)  -- c3
    · -- c3T
     replace hb2 := nb_tt hb2
     refine wp_skip ?_
     refine th_n (hK14 _ _ ?_)
     clear hK14 K14
     refine wp_seq_k fun K16 hK16 => ?_
     refine wp_block ?_
     refine wp_seq_k fun K17 hK17 => ?_
     refine D_start 10 86 (fun w => Mod (No) w) follows rfl rfl ?_  -- d1 r13
     intro w9 g9
     replace hA := hA.grow g9
     replace hB := hB.grow g9
     replace O2 := O2.grow g9
     replace G := G.grow g9
     replace GL8 := GL8.grow g9
     replace B1 := B1.grow g9
     replace B3 := B3.grow g9
     have zg9 := g9.size
     have GS9 := Mod.refl (No) w9
     have hk2 : k2 < s2.length := by omega
     obtain ⟨n2, hn2, hnN2, hng2⟩ := bnd_at hbd hk2
     obtain ⟨g2, o2, rfl, hp2, hc2⟩ := O2.r1.int hk2
     rw [hn2] at hc2
     obtain ⟨g3, o3, E3, d3, rfl, hp3, cc30, hE30⟩ := hA0.cell hnN2
     have hz4 := hz3 n2 hnN2
     have cc3 := cc30.grow G
     have hE3 := hE30.grow G
     have B1d9 := B1
     refine Dq (i := 0) rfl GS9 (fun _ _ => Y_field Try.underlying32 rfl fz32_0 (by decide) rfl) ?_
     refine Dq (i := 1) rfl GS9 (fun _ hs => Y_load Try.underlying30 rfl rfl (hs.cell0 (B1.at (by rfl)))) ?_
     refine Dq (i := 2) rfl GS9 (fun _ _ => Y_move rfl) ?_
     refine Dq (i := 3) rfl GS9 (fun _ _ => Y_move rfl) ?_
     refine Dq (i := 4) rfl GS9 (fun _ _ => Y_index Try.underlying23 sz3 rfl rfl (by first | assumption | omega)) ?_
     refine Dq (i := 5) rfl GS9 (fun _ hs => Y_load Try.underlying3 rfl rfl (by first | exact hs.cell0 (by assumption) | exact hs.cell0 (cc3.at (by rfl)) | exact hs.cell0 (B1.at (by rfl)) | exact hs.cell0 (B3.at (by rfl)))) ?_
     refine Dq (i := 6) rfl GS9 (fun _ _ => Y_index Try.underlying30 sz63 rfl rfl (by first | assumption | omega)) ?_
     refine Dq (i := 7) rfl GS9 (fun _ _ => Y_field Try.underlying63 rfl fz63_2 (by decide) rfl) ?_
     refine Dq (i := 8) rfl GS9 (fun _ hs => Y_load Try.underlying23 rfl rfl (by first | exact hs.cell0 (by assumption) | exact hs.cell0 (cc3.at (by rfl)) | exact hs.cell0 (B1.at (by rfl)) | exact hs.cell0 (B3.at (by rfl)))) ?_
     refine Dq (i := 9) rfl GS9 (fun _ _ => Y_assign rfl) ?_
     refine D_en (by kernel_rfl) rfl rfl ?_
     refine th_n (hK17 _ _ ?_)
     clear hK17 K17
     refine wp_seq_k fun K18 hK18 => ?_
     refine Sb 86 rfl ?_  -- 14
     refine S_val (Y_assign rfl) ?_
     refine S_nl rfl rfl ?_
     refine th_n (hK18 _ _ ?_)
     clear hK18 K18
     refine wp_block ?_
     go_loopw [3, 9] (fun u3 u9 wr => (∃ (k q cap : Nat) (A1 : Option Addr) (s : List Int), u9 = .int .i64 k ∧ u3 = .slice A1 q cap ∧ q = s.length ∧ k ≤ h.cells[n2].refs.length ∧ s = meet nn s2 (h.cells[n2].refs.take k) ∧ OW (fun i => i = b2 ∨ b3 < i) wr 3 1 A1 q cap (ints s) ∧ Blk wr b3 4 (bools (mB h.cells.length s)).toArray) ∧ Mod (fun i => i = b2 ∨ b3 ≤ i) w9 wr) (fun u3 u9 wr => h.cells[n2].refs.length - (intOf u9).toNat)  -- L3
     case atStart =>
      refine ⟨?_, Mod.refl _ _⟩
      exact ⟨0, q2, cap2, _, s2, rfl, rfl, hq2, by omega, rfl, O2, B3⟩
     case round =>
      obtain ⟨w10, rfl⟩ : ∃ x : World, x = wr := ⟨_, rfl⟩
      obtain ⟨hrel, g10⟩ := hrel
      clear B3
      clear O2
      replace G := G.abv g10
      replace GL8 := GL8.trn g10
      replace hA := hA0.grow G
      replace hB := hB0.grow G
      replace cc3 := cc30.grow G
      replace hE3 := hE30.grow G
      replace B1 := B1.md g10
      have zg10 := g10.size
      obtain ⟨j, q3, cap3, A3, s3, rfl, rfl, hq3, hj, hs3, O2, B3⟩ := hrel
      have hsl3 : s3.length ≤ h.cells.length := by rw [hs3]; exact (hbd.take (hl.refs hnN2)).len
      have GL10 := g10
      refine wp_seq_k fun K19 hK19 => ?_
      refine wp_seq_k fun K20 hK20 => ?_
      refine Sb 86 rfl ?_  -- 15
      refine S_val (Y_move rfl) ?_
      refine S_val (Y_move rfl) ?_
      refine S_val (Y_len Try.underlying23 rfl) ?_
      refine S_val (Y_lss rfl rfl) ?_
      refine S_nl rfl rfl ?_
      refine th_n (hK20 _ _ ?_)
      clear hK20 K20
      refine S_if rfl (fun hb3 => ?_) (fun hb3 => ?_)  -- c4
      · -- c4T
       replace hb3 := nb_tt hb3
       have hj1 : j < h.cells[n2].refs.length := by omega
       obtain ⟨g4, o4, rfl, hp4, hc4⟩ := hE3.int hj1
       refine wp_skip ?_
       refine th_n (hK19 _ _ ?_)
       clear hK19 K19
       refine wp_seq_k fun K21 hK21 => ?_
       refine wp_block ?_
       refine wp_seq_k fun K22 hK22 => ?_
       refine Sb 86 rfl ?_  -- 17
       refine S_val (Y_move rfl) ?_
       refine S_val (Y_move rfl) ?_
       refine S_val (Y_index Try.underlying23 sz3 rfl rfl (by first | assumption | omega)) ?_
       refine S_val (Y_load Try.underlying3 rfl rfl (by first | assumption | exact cc3.at (by rfl) | exact B1.at (by rfl) | exact B3.at (by rfl))) ?_  -- l9
       refine S_val (Y_assign rfl) ?_
       refine S_nl rfl rfl ?_
       refine th_n (hK22 _ _ ?_)
       clear hK22 K22
       refine wp_seq_k fun K23 hK23 => ?_
       refine Sb 86 rfl ?_  -- 18
       refine S_val (Y_move rfl) ?_
       refine S_val (Y_geq rfl rfl) ?_
       refine S_val (Y_move rfl) ?_
       refine S_g 71 rfl (fun hb4 => ?_) (fun hb4 => ?_)  -- g2
       · -- g2T
        replace hb4 := nb_tt hb4
        obtain ⟨n, hn, hnN⟩ := ref_at (hl.refs hnN2) hj1 hb4
        rw [hn] at hc4
        rw [hn]
        have hcm : w10.cell? ⟨b3, 0 + n * 1, none⟩ = some (.bool (decide ((n : Int) ∈ s3))) := by simpa using B3.at (mB_at hnN)
        refine S_on rfl rfl ?_
        refine S_val (Y_move rfl) ?_
        refine S_on rfl rfl ?_
        refine S_val (Y_move rfl) ?_
        refine S_on rfl rfl ?_
        refine S_val (Y_index Try.underlying27 sz4 rfl rfl (by first | assumption | omega)) ?_
        refine S_on rfl rfl ?_
        refine S_val (Y_load Try.underlying4 rfl rfl (by first | assumption | exact cc3.at (by rfl) | exact B1.at (by rfl) | exact B3.at (by rfl))) ?_  -- l10
        refine S_on rfl rfl ?_
        refine S_val (Y_not rfl) ?_
        refine S_val (Y_pickT rfl rfl) ?_
        refine S_nl rfl rfl ?_
        refine th_n (hK23 _ _ ?_)
        clear hK23 K23
        refine S_if rfl (fun hb5 => ?_) (fun hb5 => ?_)  -- c5
        · -- c5T
         first | with_reducible (replace hb5 := nb_nt hb5) | with_reducible (replace hb5 := nb_tt hb5) | with_reducible (replace hb5 := nb_bt hb5) | skip
         refine wp_seq_k fun K24 hK24 => ?_
         refine Sb 86 rfl ?_  -- 19
         refine S_val (Y_move rfl) ?_
         refine S_val (Y_move rfl) ?_
         refine S_val (Y_index Try.underlying27 sz4 rfl rfl (by first | assumption | omega)) ?_
         refine S_stM (pre := (bools (mB h.cells.length s3)).take n) (old := [.bool (decide ((n : Int) ∈ s3))]) (post := (bools (mB h.cells.length s3)).drop (n + 1)) (vs := [_]) sz4 rfl rfl rfl rfl (by rw [← mB_split (N := h.cells.length) (n := n) (s := s3) (by omega)]; exact B3) (by rw [List.length_take, bools_len, mB_len]; omega) rfl ?_
         intro w11 m11 X11
         replace B3 := Blk.eq X11 (mB_set (by omega))
         clear X11
         replace G := G.abv m11
         replace GL8 := GL8.trn m11
         replace GL10 := GL10.trn m11
         replace hA := hA0.grow G
         replace hB := hB0.grow G
         replace cc3 := cc30.grow G
         replace hE3 := hE30.grow G
         replace O2 := O2.md m11
         replace B1 := B1.md m11
         have zm11 := m11.size
         refine S_nl rfl rfl ?_
         refine th_n (hK24 _ _ ?_)
         clear hK24 K24
         refine Sb 86 rfl ?_  -- 20
         refine S_val (Y_move rfl) ?_
         refine S_val (Y_move rfl) ?_
         refine S_bs1 (cs := [_]) Try.underlying23 zr3 sz3 rfl rfl rfl ?_
         intro b12 w12 fb12 g12 B12
         have lb12 := B12.lt
         replace hA := hA.grow g12
         replace hB := hB.grow g12
         replace cc3 := cc3.grow g12
         replace hE3 := hE3.grow g12
         replace O2 := O2.grow g12
         replace G := G.grow g12
         replace GL8 := GL8.grow g12
         replace GL10 := GL10.grow g12
         replace B1 := B1.grow g12
         replace B3 := B3.grow g12
         have zg12 := g12.size
         refine S_app Try.underlying23 zr3 sz3 by3 rfl rfl O2 rfl (Src.blk B12) (by simp [Value.oneCell']) (by omega) (Pr' := fun i => i = b2 ∨ b3 < i) (fun i hi => hi) (by omega) ?_
         intro A13 cap13 w13 X13 m13
         replace O2 := X13
         rw [ints_app] at O2
         clear X13
         replace G := G.abv m13
         replace GL8 := GL8.trn m13
         replace GL10 := GL10.trn m13
         replace hA := hA0.grow G
         replace hB := hB0.grow G
         replace cc3 := cc30.grow G
         replace hE3 := hE30.grow G
         replace B1 := B1.md m13
         replace B3 := B3.md m13
         have zm13 := m13.size
         refine S_val (Y_assign rfl) ?_
         refine S_nl rfl rfl ?_
         refine ib_n ?_
         refine th_n (hK21 _ _ ?_)
         clear hK21 K21
         refine Sb 86 rfl ?_  -- 16
         refine S_val (Y_move rfl) ?_
         refine S_val (Y_inc rfl rfl (by omega)) ?_
         refine S_val (Y_assign rfl) ?_
         refine S_nl rfl rfl ?_
         refine th_n ?_
         go_roundw  -- e4 of L3
         case rel =>
          refine ⟨?_, GL10⟩
          exact ⟨j + 1, _, _, _, s3 ++ [(n : Int)], rfl, rfl, by simp; omega, by omega, by rw [meet_succ hj1, ← hs3, hn, meet1_new (nn_of (by omega)) hb5], O2, B3⟩
         case measure =>
          exact dec_nat (by omega)
        · -- c5F
         first | with_reducible (replace hb5 := nb_nf hb5) | with_reducible (replace hb5 := nb_tf hb5) | with_reducible (replace hb5 := nb_bf hb5) | skip
         refine wp_skip ?_
         refine ib_n ?_
         refine th_n (hK21 _ _ ?_)
         clear hK21 K21
         refine Sb 86 rfl ?_  -- 16
         refine S_val (Y_move rfl) ?_
         refine S_val (Y_inc rfl rfl (by omega)) ?_
         refine S_val (Y_assign rfl) ?_
         refine S_nl rfl rfl ?_
         refine th_n ?_
         go_roundw  -- e5 of L3
         case rel =>
          refine ⟨?_, GL10⟩
          exact ⟨j + 1, _, _, _, s3, rfl, rfl, hq3, by omega, by rw [meet_succ hj1, ← hs3, hn, meet1_old hb5], O2, B3⟩
         case measure =>
          exact dec_nat (by omega)
       · -- g2F
        replace hb4 := nb_tf hb4
        refine S_off rfl rfl ?_
        refine S_off rfl rfl ?_
        refine S_off rfl rfl ?_
        refine S_off rfl rfl ?_
        refine S_off rfl rfl ?_
        refine S_val (Y_pickF rfl rfl) ?_
        refine S_nl rfl rfl ?_
        refine th_n (hK23 _ _ ?_)
        clear hK23 K23
        refine S_ifF rfl ?_
        refine wp_skip ?_
        refine ib_n ?_
        refine th_n (hK21 _ _ ?_)
        clear hK21 K21
        refine Sb 86 rfl ?_  -- 16
        refine S_val (Y_move rfl) ?_
        refine S_val (Y_inc rfl rfl (by omega)) ?_
        refine S_val (Y_assign rfl) ?_
        refine S_nl rfl rfl ?_
        refine th_n ?_
        go_roundw  -- e6 of L3
        case rel =>
         refine ⟨?_, GL10⟩
         exact ⟨j + 1, _, _, _, s3, rfl, rfl, hq3, by omega, by rw [meet_succ hj1, ← hs3, meet1_not (nn_no hb4)], O2, B3⟩
        case measure =>
         exact dec_nat (by omega)
      · -- c4F
       replace hb3 := nb_tf hb3
       refine wp_exit ?_
       refine th_x ?_
       try clear GL10
       refine th_x ?_
       refine ib_e ?_
       refine ib_n ?_
       refine th_n (hK16 _ _ ?_)
       clear hK19 K19 hK16 K16
       refine Sb 86 rfl ?_  -- 12
       refine S_val (Y_move rfl) ?_
       refine S_val (Y_inc rfl rfl (by omega)) ?_
       refine S_val (Y_assign rfl) ?_
       refine S_nl rfl rfl ?_
       refine th_n ?_
       go_roundw  -- e7 of L2
       case rel =>
        refine ⟨?_, GL8⟩
        exact ⟨k2 + 1, q3, cap3, _, s3, rfl, rfl, hq3, by rw [hs3, meet_all (by omega), ← refsOf_at hnN2]; exact ho2.next hng2, by rw [hs3, meet_all (by omega), ← refsOf_at hnN2, ← bfs_go (by omega) hng2]; exact hbf, O2, B3⟩
       case measure =>
        exact dec_nat (by omega)
    · -- c3F
     replace hb2 := nb_tf hb2
     refine wp_exit ?_
     refine th_x ?_
     try clear GL8
     refine th_x ?_
     refine ib_e ?_
     refine th_n (hK12 _ _ ?_)
     clear hK14 K14 hK12 K12
     refine wp_seq_k fun K25 hK25 => ?_
     refine Sb 86 rfl ?_  -- 21
     refine S_val (Y_move rfl) ?_
     refine S_val (Y_assign rfl) ?_
     refine S_nl rfl rfl ?_
     refine th_n (hK25 _ _ ?_)
     clear hK25 K25
     refine wp_ret ?_
     refine ret_r1 rfl rfl ?_  -- r1
     have he := hbf
     rw [bfs_end (by omega)] at he
     exact ⟨_, _, _, rfl, by rw [← he]; exact hq2, by rw [← he]; exact O2.weak (fun i hi => by first | omega | (dsimp only at hi; omega)), G⟩
end
/-! WalkG -/
section
open Go Go.RowKit
attribute [local irreducible] wpList wpAnyH Code.wp dOp
/-- The word m has the numbers of s. -/
def BitsOf (m : Nat) (s : List Int) : Prop := m < 2 ^ 64 ∧ ∀ n : Nat, m.testBit n = decide ((n : Int) ∈ s)
theorem BitsOf.zero : BitsOf 0 [] := ⟨by decide, fun n => by simp⟩
theorem BitsOf.add {m n : Nat} {s : List Int} (h : BitsOf m s) (hn : n < 64) : BitsOf (addN m n) (s ++ [(n : Int)]) :=
  ⟨addN_lt h.1 hn, fun j => by
    rw [addN_bit, h.2]
    by_cases hj : n = j
    · subst hj; simp
    · have : ¬ j = n := fun e => hj e.symm
      by_cases hs : (j : Int) ∈ s <;> simp [hj, hs]
      omega⟩
set_option maxHeartbeats 400000 in
set_option maxRecDepth 20000 in
theorem impl_metOrder_1_c (E : Option Addr) (xs : List Int) (e N lo bl bx bm bo m q cap : Nat) (A : Option Addr) (s : List Int) (w : World) (hE : R1 (fun k => k < lo) w E (ints xs)) (hx : xs.length ≤ 1048576) (Bm : Blk w bm 78 [.int .u64 (m : Int)].toArray) (Bo : Blk w bo 23 [.slice A q cap].toArray) (O : OW (fun i => i = bl ∨ bx < i) w 3 1 A q cap (ints s)) (hq : q = s.length) (hs : BitsOf m s) (hr : ∀ x ∈ xs, nn x = true → 0 ≤ x ∧ x < (N : Int)) (hN : N ≤ 64) (hb : Bnd N s) (h9 : lo ≤ bl ∧ lo ≤ bm ∧ lo ≤ bo ∧ bl ≤ bx ∧ bm ≤ bx ∧ bo ≤ bx ∧ bm ≠ bl ∧ bo ≠ bl ∧ bm ≠ bo ∧ bx < w.heap.size) :
    Calls Try.prog 110 #[.slice E xs.length e, .pointer (some ⟨bm, 0, none⟩), .pointer (some ⟨bo, 0, none⟩)] w (Ret fun _v w' => ∃ m q cap A, q = (meet nn s xs).length ∧ BitsOf m (meet nn s xs) ∧ Blk w' bm 78 [.int .u64 (m : Int)].toArray ∧ Blk w' bo 23 [.slice A q cap].toArray ∧ OW (fun i => i = bl ∨ bx < i) w' 3 1 A q cap (ints (meet nn s xs)) ∧ Mod (fun i => i = bm ∨ i = bo ∨ i = bl ∨ bx < i) w w') := by
 obtain ⟨p1, p2, p3, p4, p5, p6, p7, p8, p9, p10⟩ := h9
 refine enter Try.func110 rfl Try.ntmps110 (L := [_,_,_,_,_,_,_,_,_,_,_,_,_,_,_,_,_,_,_,_,_,_,_,_,_,_,_]) rfl ?_
 have G := Mod.refl (fun i => i = bm ∨ i = bo ∨ i = bl ∨ bx < i) w
 refine wp_seq_k fun K1 hK1 => ?_
 refine Sb 27 rfl ?_  -- 0
 refine S_val (Y_move rfl) ?_
 refine S_val (Y_len Try.underlying23 rfl) ?_
 refine S_val (Y_move rfl) ?_
 refine S_nl rfl rfl ?_
 refine th_n (hK1 _ _ ?_)
 clear hK1 K1
 refine wp_block ?_
 go_loopw [8] (fun u8 wr => (∃ (k m q cap : Nat) (A : Option Addr) (s1 : List Int), u8 = .int .i64 k ∧ k ≤ xs.length ∧ q = s1.length ∧ s1 = meet nn s (xs.take k) ∧ BitsOf m s1 ∧ Blk wr bm 78 [.int .u64 (m : Int)].toArray ∧ Blk wr bo 23 [.slice A q cap].toArray ∧ OW (fun i => i = bl ∨ bx < i) wr 3 1 A q cap (ints s1)) ∧ Mod (fun i => i = bm ∨ i = bo ∨ i = bl ∨ bx < i) w wr) (fun u8 wr => xs.length - (intOf u8).toNat)  -- L1
 case atStart =>
  refine ⟨?_, Mod.refl _ _⟩
  exact ⟨0, m, q, cap, A, s, rfl, by omega, hq, rfl, hs, Bm, Bo, O⟩
 case round =>
  obtain ⟨w1, rfl⟩ : ∃ x : World, x = wr := ⟨_, rfl⟩
  obtain ⟨hrel, g1⟩ := hrel
  clear Bm
  clear Bo
  clear O
  replace G := Mod.trans' G g1 (fun _ h _ => h) (fun i h _ => by first | exact h | omega | (dsimp only at h ⊢; omega))
  replace hE := hE.md g1
  have zg1 := g1.size
  obtain ⟨k, m1, q1, cap1, A1, s1, rfl, hk, hq1, hs1, ht1, Bm, Bo, O⟩ := hrel
  have hsl : s1.length ≤ N := by rw [hs1]; exact (hb.take hr).len
  have hm1 := ht1.1
  have GL1 := g1
  refine wp_seq_k fun K2 hK2 => ?_
  refine Sb 27 rfl ?_  -- 1
  refine S_val (Y_lss rfl rfl) ?_
  refine S_nl rfl rfl ?_
  refine th_n (hK2 _ _ ?_)
  clear hK2 K2
  refine wp_seq_k fun K3 hK3 => ?_
  refine S_if rfl (fun hb1 => ?_) (fun hb1 => ?_)  -- c1
  · -- c1T
   replace hb1 := nb_tt hb1
   have hk1 : k < xs.length := by omega
   obtain ⟨g1, o1, rfl, hp1, hc1⟩ := hE.int hk1
   refine wp_skip ?_
   refine th_n (hK3 _ _ ?_)
   clear hK3 K3
   refine wp_seq_k fun K4 hK4 => ?_
   refine wp_block ?_
   refine wp_seq_k fun K5 hK5 => ?_
   refine Sb 27 rfl ?_  -- 2
   refine S_val (Y_index Try.underlying23 sz3 rfl rfl (by first | assumption | omega)) ?_
   refine S_val (Y_load Try.underlying3 rfl rfl (by first | assumption | exact Bm.at (by rfl) | exact Bo.at (by rfl))) ?_  -- l1
   refine S_val (Y_assign rfl) ?_
   refine S_nl rfl rfl ?_
   refine th_n (hK5 _ _ ?_)
   clear hK5 K5
   refine wp_seq_k fun K6 hK6 => ?_
   refine Sb 27 rfl ?_  -- 3
   refine S_val (Y_move rfl) ?_
   refine S_val (Y_geq rfl rfl) ?_
   refine S_val (Y_move rfl) ?_
   refine S_g 14 rfl (fun hb2 => ?_) (fun hb2 => ?_)  -- g1
   · -- g1T
    replace hb2 := nb_tt hb2
    obtain ⟨n, hn, hnN⟩ := ref_at hr hk1 hb2
    rw [hn]
    refine S_on rfl rfl ?_
    refine S_val (Y_load Try.underlying78 rfl rfl (Bm.at (by rfl))) ?_  -- l2
    refine S_on rfl rfl ?_
    refine S_val (Y_move rfl) ?_
    refine S_on rfl rfl ?_
    refine S_call rfl en58 (impl_cellSet_has_c _ _ _ (by assumption)) ?_  -- k1 (impl.cellSet).has
    rintro v w' ⟨rfl, rfl⟩
    refine S_on rfl rfl ?_
    refine S_val (Y_not rfl) ?_
    refine S_val (Y_pickT rfl rfl) ?_
    refine S_nl rfl rfl ?_
    refine th_n (hK6 _ _ ?_)
    clear hK6 K6
    refine S_if rfl (fun hb3 => ?_) (fun hb3 => ?_)  -- c2
    · -- c2T
     first | with_reducible (replace hb3 := nb_nt hb3) | with_reducible (replace hb3 := nb_tt hb3) | with_reducible (replace hb3 := nb_bt hb3) | skip
     rw [hasB_nat, ht1.2] at hb3
     refine wp_seq_k fun K7 hK7 => ?_
     refine Sb 27 rfl ?_  -- 4
     refine S_val (Y_move rfl) ?_
     refine S_call rfl en59 (impl_cellSet_add_c _ _ _ _ (by assumption) (by assumption) (by omega)) ?_  -- k2 (*impl.cellSet).add
     rintro v3 w3 ⟨X3, m3⟩
     replace Bm := X3
     clear X3
     replace G := Mod.trans' G m3 (fun _ h _ => h) (fun i h _ => by first | exact h | omega | (dsimp only at h ⊢; omega))
     replace GL1 := GL1.trn m3
     replace hE := hE.md m3
     replace O := O.md m3
     replace Bo := Bo.md m3
     have zm3 := m3.size
     refine S_nl rfl rfl ?_
     refine th_n (hK7 _ _ ?_)
     clear hK7 K7
     refine Sb 27 rfl ?_  -- 5
     refine S_val (Y_load Try.underlying23 rfl rfl (Bo.at (by rfl))) ?_  -- l3
     refine S_val (Y_move rfl) ?_
     refine S_bs1 (cs := [_]) Try.underlying23 zr3 sz3 rfl rfl rfl ?_
     intro b4 w4 fb4 g4 B4
     have lb4 := B4.lt
     replace hE := hE.grow g4
     replace O := O.grow g4
     replace G := G.grow g4
     replace GL1 := GL1.grow g4
     replace Bm := Bm.grow g4
     replace Bo := Bo.grow g4
     have zg4 := g4.size
     refine S_app Try.underlying23 zr3 sz3 by3 rfl rfl O rfl (Src.blk B4) (by simp [Value.oneCell']) (by omega) (Pr' := fun i => i = bl ∨ bx < i) (fun i hi => hi) (by omega) ?_
     intro A5 cap5 w5 X5 m5
     replace O := X5
     rw [ints_app] at O
     clear X5
     replace G := Mod.trans' G m5 (fun _ h _ => h) (fun i h _ => by first | exact h | omega | (dsimp only at h ⊢; omega))
     replace GL1 := GL1.trn m5
     replace hE := hE.md m5
     replace Bm := Bm.md m5
     replace Bo := Bo.md m5
     have zm5 := m5.size
     refine S_stM (pre := []) (old := [_]) (post := []) (vs := [_]) sz23 rfl rfl rfl (by first | rfl | assumption) Bo rfl rfl ?_
     intro w6 m6 X6
     replace Bo := Blk.eq (ys := [_]) X6 rfl
     clear X6
     replace G := Mod.trans' G m6 (fun _ h _ => h) (fun i h _ => by first | exact h | omega | (dsimp only at h ⊢; omega))
     replace GL1 := GL1.trn m6
     replace hE := hE.md m6
     replace O := O.md m6
     replace Bm := Bm.md m6
     have zm6 := m6.size
     refine S_nl rfl rfl ?_
     refine ib_n ?_
     refine th_n (hK4 _ _ ?_)
     clear hK4 K4
     refine Sb 27 rfl ?_  -- 6
     refine S_val (Y_inc rfl rfl (by omega)) ?_
     refine S_val (Y_move rfl) ?_
     refine S_nl rfl rfl ?_
     refine th_n ?_
     go_roundw  -- e1 of L1
     case rel =>
      refine ⟨?_, GL1⟩
      exact ⟨k + 1, _, _, _, _, s1 ++ [(n : Int)], rfl, by omega, by simp; omega, by rw [meet_succ hk1, ← hs1, hn, meet1_new (nn_of (by omega)) (of_decide_eq_false hb3)], ht1.add (by omega), Bm, Bo, O⟩
     case measure =>
      exact dec_nat (by omega)
    · -- c2F
     first | with_reducible (replace hb3 := nb_nf hb3) | with_reducible (replace hb3 := nb_tf hb3) | with_reducible (replace hb3 := nb_bf hb3) | skip
     rw [hasB_nat, ht1.2] at hb3
     refine wp_skip ?_
     refine ib_n ?_
     refine th_n (hK4 _ _ ?_)
     clear hK4 K4
     refine Sb 27 rfl ?_  -- 6
     refine S_val (Y_inc rfl rfl (by omega)) ?_
     refine S_val (Y_move rfl) ?_
     refine S_nl rfl rfl ?_
     refine th_n ?_
     go_roundw  -- e2 of L1
     case rel =>
      refine ⟨?_, GL1⟩
      exact ⟨k + 1, _, _, _, _, s1, rfl, by omega, hq1, by rw [meet_succ hk1, ← hs1, hn, meet1_old (of_decide_eq_true hb3)], ht1, Bm, Bo, O⟩
     case measure =>
      exact dec_nat (by omega)
   · -- g1F
    replace hb2 := nb_tf hb2
    refine S_off rfl rfl ?_
    refine S_off rfl rfl ?_
    refine S_off rfl rfl ?_
    refine S_off rfl rfl ?_
    refine S_val (Y_pickF rfl rfl) ?_
    refine S_nl rfl rfl ?_
    refine th_n (hK6 _ _ ?_)
    clear hK6 K6
    refine S_ifF rfl ?_
    refine wp_skip ?_
    refine ib_n ?_
    refine th_n (hK4 _ _ ?_)
    clear hK4 K4
    refine Sb 27 rfl ?_  -- 6
    refine S_val (Y_inc rfl rfl (by omega)) ?_
    refine S_val (Y_move rfl) ?_
    refine S_nl rfl rfl ?_
    refine th_n ?_
    go_roundw  -- e3 of L1
    case rel =>
     refine ⟨?_, GL1⟩
     exact ⟨k + 1, _, _, _, _, s1, rfl, by omega, hq1, by rw [meet_succ hk1, ← hs1, meet1_not (nn_no hb2)], ht1, Bm, Bo, O⟩
    case measure =>
     exact dec_nat (by omega)
  · -- c1F
   replace hb1 := nb_tf hb1
   refine wp_exit ?_
   refine th_x ?_
   try clear GL1
   refine th_x ?_
   refine ib_e ?_
   clear hK3 K3
   refine ret_n0 rfl ?_  -- r1
   rw [meet_all (by omega)] at hs1
   subst hs1
   exact ⟨_, _, _, _, hq1, ht1, Bm, Bo, O, G⟩
set_option maxHeartbeats 400000 in
set_option maxRecDepth 20000 in
theorem impl_metOrder_c (Pr : Nat → Prop) (A B : Option Addr) (h : LH) (c d : Nat) (w : World) (hA : RC Pr w A h.cells) (hB : R1 Pr w B (ints h.roots)) (hz : hsize h ≤ 1048576) (hl : Leads h.cells h.roots nn) (h40 : h.cells.length ≤ 64) :
    Calls Try.prog 78 #[.agg #[.slice A h.cells.length c, .slice B h.roots.length d]] w (Ret fun v w' => ∃ A1 q cap, v = .slice A1 q cap ∧ q = (orderL h.cells h.roots nn).length ∧ OW (fun i => w.heap.size ≤ i) w' 3 1 A1 q cap (ints (orderL h.cells h.roots nn)) ∧ Grow w w') := by
 have hz1 := hsize_cells h
 have hz2 := hsize_roots h
 have hz3 : ∀ k (hk : k < h.cells.length), h.cells[k].refs.length ≤ hsize h := fun k hk => hsize_refs h hk
 have hAl := hA.below
 have hBl := hB.below
 refine enter Try.func78 rfl Try.ntmps78 (L := [_,_,_,_,_,_,_,_,_,_,_,_,_,_,_,_,_,_,_,_,_,_,_,_,_,_,_,_,_,_,_]) rfl ?_
 have G := Mod.refl No w
 have hAl0 := hAl
 have hBl0 := hBl
 refine wp_seq_k fun K1 hK1 => ?_
 refine Sb 31 rfl ?_  -- 0
 refine S_box (cs := [_, _]) rfl rfl ?_
 intro b1 w1 fb1 g1 B1
 have lb1 := B1.lt
 replace hAl := hAl.grow g1
 replace hBl := hBl.grow g1
 replace G := G.grow g1
 have zg1 := g1.size
 refine S_val (Y_assign rfl) ?_
 refine S_nl rfl rfl ?_
 refine th_n (hK1 _ _ ?_)
 clear hK1 K1
 refine wp_seq_k fun K2 hK2 => ?_
 refine Sb 31 rfl ?_  -- 1
 refine S_bs0 Try.underlying23 sz3 ?_
 intro b2 w2 fb2 g2 B2
 have lb2 := B2.lt
 replace hAl := hAl.grow g2
 replace hBl := hBl.grow g2
 replace G := G.grow g2
 replace B1 := B1.grow g2
 have zg2 := g2.size
 refine S_alloc (cs := [_]) zr23 rfl ?_
 intro b3 w3 fb3 g3 B3
 have lb3 := B3.lt
 replace hAl := hAl.grow g3
 replace hBl := hBl.grow g3
 replace G := G.grow g3
 replace B1 := B1.grow g3
 replace B2 := B2.grow g3
 have zg3 := g3.size
 refine S_stM (pre := []) (old := [_]) (post := []) (vs := [_]) sz23 rfl rfl rfl (by first | rfl | assumption) B3 rfl rfl ?_
 intro w4 m4 X4
 replace B3 := Blk.eq (ys := [_]) X4 rfl
 clear X4
 replace G := G.abv m4
 replace hAl := hAl0.grow G
 replace hBl := hBl0.grow G
 replace B1 := B1.md m4
 replace B2 := B2.md m4
 have zm4 := m4.size
 refine S_nl rfl rfl ?_
 refine th_n (hK2 _ _ ?_)
 clear hK2 K2
 refine wp_seq_k fun K3 hK3 => ?_
 refine Sb 31 rfl ?_  -- 2
 refine S_alloc (cs := [_]) zr78 rfl ?_
 intro b5 w5 fb5 g5 B5
 have lb5 := B5.lt
 replace hAl := hAl.grow g5
 replace hBl := hBl.grow g5
 replace G := G.grow g5
 replace B1 := B1.grow g5
 replace B2 := B2.grow g5
 replace B3 := B3.grow g5
 have zg5 := g5.size
 have O2 : OW (fun i => i = b2 ∨ b5 < i) w5 3 1 (some ⟨b2, 0, none⟩) 0 0 (ints []) := OW.of_blk B2 rfl (by decide) (.inl rfl)
 refine S_nl rfl rfl ?_
 refine th_n (hK3 _ _ ?_)
 clear hK3 K3
 refine wp_seq_k fun K4 hK4 => ?_
 refine Sb 31 rfl ?_  -- 3
 refine S_val (Y_makeFunc rfl rfl) ?_
 refine S_val (Y_assign rfl) ?_
 refine S_nl rfl rfl ?_
 refine th_n (hK4 _ _ ?_)
 clear hK4 K4
 refine wp_seq_k fun K5 hK5 => ?_
 refine Sb 31 rfl ?_  -- 4
 refine S_val (Y_move rfl) ?_
 refine S_val (Y_field Try.underlying32 rfl fz32_1 (by decide) rfl) ?_
 refine S_val (Y_load Try.underlying23 rfl rfl (B1.at (by rfl))) ?_  -- l1
 refine S_callc rfl rfl en110 (impl_metOrder_1_c _ _ _ h.cells.length w.heap.size b2 b5 b5 b3 _ _ _ _ _ _ hBl (by omega) B5 B3 O2 rfl BitsOf.zero hl.1 (by omega) (Bnd.nil _) ⟨by omega, by omega, by omega, by omega, by omega, by omega, by omega, by omega, by omega, by omega⟩) ?_  -- k1
 rintro v6 w6 ⟨m1, q1, cap1, A1, hq1, ht1, X6, Y6, Z6, m6⟩
 replace B3 := Y6
 replace B5 := X6
 replace O2 := Z6
 clear X6 Y6 Z6
 replace G := G.abv m6
 replace hAl := hAl0.grow G
 replace hBl := hBl0.grow G
 replace B1 := B1.md m6
 have zm6 := m6.size
 refine S_nl rfl rfl ?_
 refine th_n (hK5 _ _ ?_)
 clear hK5 K5
 refine wp_seq_k fun K6 hK6 => ?_
 refine wp_seq_k fun K7 hK7 => ?_
 refine Sb 31 rfl ?_  -- 5
 refine S_val (Y_assign rfl) ?_
 refine S_nl rfl rfl ?_
 refine th_n (hK7 _ _ ?_)
 clear hK7 K7
 refine wp_block ?_
 go_loopw [6] (fun u6 wr => (∃ (k m q cap : Nat) (A1 : Option Addr) (s : List Int), u6 = .int .i64 k ∧ q = s.length ∧ BitsOf m s ∧ Ord h.cells h.roots nn k s ∧ bfs h.cells nn (h.cells.length - k) k s = orderL h.cells h.roots nn ∧ Blk wr b5 78 [.int .u64 (m : Int)].toArray ∧ Blk wr b3 23 [.slice A1 q cap].toArray ∧ OW (fun i => i = b2 ∨ b5 < i) wr 3 1 A1 q cap (ints s)) ∧ Mod (fun i => i = b5 ∨ i = b3 ∨ i = b2 ∨ b5 < i) w6 wr) (fun u6 wr => h.cells.length - (intOf u6).toNat)  -- L1
 case atStart =>
  refine ⟨?_, Mod.refl _ _⟩
  exact ⟨0, m1, q1, cap1, A1, meet nn [] h.roots, rfl, hq1, ht1, Ord.start _ _ _, rfl, B5, B3, O2⟩
 case round =>
  obtain ⟨w7, rfl⟩ : ∃ x : World, x = wr := ⟨_, rfl⟩
  obtain ⟨hrel, g7⟩ := hrel
  clear B3
  clear B5
  clear O2
  replace G := G.abv g7
  replace hAl := hAl0.grow G
  replace hBl := hBl0.grow G
  replace B1 := B1.md g7
  have zg7 := g7.size
  obtain ⟨k, m2, q2, cap2, A2, s, rfl, hq2, ht2, ho2, hbf, B5, B3, O2⟩ := hrel
  have hbd := ho2.bnd hl
  have hsl2 := hbd.len
  have GL7 := g7
  refine wp_seq_k fun K8 hK8 => ?_
  refine wp_seq_k fun K9 hK9 => ?_
  refine Sb 31 rfl ?_  -- 6
  refine S_val (Y_move rfl) ?_
  refine S_val (Y_load Try.underlying23 rfl rfl (B3.at (by rfl))) ?_  -- l2
  refine S_val (Y_len Try.underlying23 rfl) ?_
  refine S_val (Y_lss rfl rfl) ?_
  refine S_nl rfl rfl ?_
  refine th_n (hK9 _ _ ?_)
  clear hK9 K9
  refine S_if rfl (fun hb1 => ?_) (fun hb1 => ?_)  -- c1
  · -- c1T
   replace hb1 := nb_tt hb1
   refine wp_skip ?_
   refine th_n (hK8 _ _ ?_)
   clear hK8 K8
   refine wp_seq_k fun K10 hK10 => ?_
   refine wp_block ?_
   refine D_start 11 31 (fun w => Mod (fun i => i = b5 ∨ i = b3 ∨ i = b2 ∨ b5 < i) w) follows rfl rfl ?_  -- d1 r8
   intro w8 g8
   replace hAl := hAl.grow g8
   replace hBl := hBl.grow g8
   replace O2 := O2.grow g8
   replace G := G.grow g8
   replace GL7 := GL7.grow g8
   replace B1 := B1.grow g8
   replace B3 := B3.grow g8
   replace B5 := B5.grow g8
   have zg8 := g8.size
   have GS8 := Mod.refl (fun i => i = b5 ∨ i = b3 ∨ i = b2 ∨ b5 < i) w8
   have hk2 : k < s.length := by omega
   obtain ⟨n2, hn2, hnN2, hng2⟩ := bnd_at hbd hk2
   obtain ⟨g2, o2, rfl, hp2, hc2⟩ := O2.r1.int hk2
   rw [hn2] at hc2
   obtain ⟨g3, o3, E3, d3, rfl, hp3, cc30, hE30⟩ := hAl0.cell hnN2
   have hz4 := hz3 n2 hnN2
   have cc3 := cc30.grow G
   have hE3 := hE30.grow G
   refine Dq (i := 0) rfl GS8 (fun _ _ => Y_move rfl) ?_
   refine Dq (i := 1) rfl GS8 (fun _ _ => Y_field Try.underlying32 rfl fz32_0 (by decide) rfl) ?_
   refine Dq (i := 2) rfl GS8 (fun _ hs => Y_load Try.underlying30 rfl rfl (by first | exact hs.cell (B1.at (by rfl)) (by intro h; first | omega | (dsimp only at h; omega)))) ?_
   refine Dq (i := 4) rfl GS8 (fun _ _ => Y_move rfl) ?_
   refine D_1 (i := 3) (by kernel_rfl) ?_
   refine E_val (i := 3) rfl (Y_load Try.underlying23 rfl rfl (B3.at (by rfl))) GS8 ?_
   refine Dq (i := 5) rfl GS8 (fun _ _ => Y_index Try.underlying23 sz3 rfl rfl (by first | assumption | omega)) ?_
   refine D_1 (i := 6) (by kernel_rfl) ?_
   refine E_val (i := 6) rfl (Y_load Try.underlying3 rfl rfl (by assumption)) GS8 ?_
   refine Dq (i := 7) rfl GS8 (fun _ _ => Y_index Try.underlying30 sz63 rfl rfl (by first | assumption | omega)) ?_
   refine Dq (i := 8) rfl GS8 (fun _ _ => Y_field Try.underlying63 rfl fz63_2 (by decide) rfl) ?_
   refine Dq (i := 9) rfl GS8 (fun _ hs => Y_load Try.underlying23 rfl rfl (by first | exact hs.cell (by assumption) (by intro h; first | omega | (dsimp only at h; omega)) | exact hs.cell (cc3.at (by rfl)) (by intro h; first | omega | (dsimp only at h; omega)) | exact hs.cell (B1.at (by rfl)) (by intro h; first | omega | (dsimp only at h; omega)) | exact hs.cell (B3.at (by rfl)) (by intro h; first | omega | (dsimp only at h; omega)) | exact hs.cell (B5.at (by rfl)) (by intro h; first | omega | (dsimp only at h; omega)))) ?_
   refine D_1 (i := 10) (by kernel_rfl) ?_
   refine E_callc rfl rfl rfl en110 (impl_metOrder_1_c _ _ _ h.cells.length w.heap.size b2 b5 b5 b3 _ _ _ _ _ _ hE3 (by omega) B5 B3 O2 hq2 ht2 (hl.refs hnN2) (by omega) hbd ⟨by omega, by omega, by omega, by omega, by omega, by omega, by omega, by omega, by omega, by omega⟩) ?_  -- k2
   rintro v11 w11 ⟨m3, q3, cap3, A3, hq3, ht3, X11, Y11, Z11, m11⟩
   replace B3 := Y11
   replace B5 := X11
   replace O2 := Z11
   clear X11 Y11 Z11
   replace G := G.abv m11
   replace GL7 := GL7.trn m11
   replace GS8 := GS8.trn m11
   replace hAl := hAl0.grow G
   replace hBl := hBl0.grow G
   replace cc3 := cc30.grow G
   replace hE3 := hE30.grow G
   replace B1 := B1.md m11
   have zm11 := m11.size
   refine ⟨GS8, ?_⟩
   refine D_en (by kernel_rfl) rfl rfl ?_
   refine ib_n ?_
   refine th_n (hK10 _ _ ?_)
   clear hK10 K10
   refine Sb 31 rfl ?_  -- 7
   refine S_val (Y_move rfl) ?_
   refine S_val (Y_inc rfl rfl (by omega)) ?_
   refine S_val (Y_assign rfl) ?_
   refine S_nl rfl rfl ?_
   refine th_n ?_
   go_roundw  -- e1 of L1
   case rel =>
    refine ⟨?_, GL7⟩
    exact ⟨k + 1, _, _, _, _, meet nn s h.cells[n2].refs, rfl, hq3, ht3, by rw [← refsOf_at hnN2]; exact ho2.next hng2, by rw [← refsOf_at hnN2, ← bfs_go (by omega) hng2]; exact hbf, B5, B3, O2⟩
   case measure =>
    exact dec_nat (by omega)
  · -- c1F
   replace hb1 := nb_tf hb1
   refine wp_exit ?_
   refine th_x ?_
   try clear GL7
   refine th_x ?_
   refine ib_e ?_
   refine th_n (hK6 _ _ ?_)
   clear hK8 K8 hK6 K6
   refine wp_seq_k fun K11 hK11 => ?_
   refine Sb 31 rfl ?_  -- 9
   refine S_val (Y_load Try.underlying23 rfl rfl (B3.at (by rfl))) ?_  -- l5
   refine S_val (Y_assign rfl) ?_
   refine S_nl rfl rfl ?_
   refine th_n (hK11 _ _ ?_)
   clear hK11 K11
   refine wp_ret ?_
   refine ret_r1 rfl rfl ?_  -- r1
   have he := hbf
   rw [bfs_end (by omega)] at he
   exact ⟨_, _, _, rfl, by rw [← he]; exact hq2, by rw [← he]; exact O2.weak (fun i hi => by first | omega | (dsimp only at hi; omega)), G⟩
end
/-! WalkI -/
section
open Go Go.RowKit
attribute [local irreducible] wpList wpAnyH Code.wp dOp
set_option maxHeartbeats 400000 in
set_option maxRecDepth 20000 in
theorem spec_l7Reach_c (Pr PF : Nat → Prop) (A B E : Option Addr) (h : LH) (fr : List Int) (c d e : Nat) (w : World) (hA : RC Pr w A h.cells) (hF : R1 PF w E (ints fr)) (hz : hsize h ≤ 1048576) (hfz : fr.length ≤ 1048576) (hl : Leads h.cells fr nn) :
    Calls Try.prog 116 #[.agg #[.slice A h.cells.length c, .slice B h.roots.length d], .slice E fr.length e] w (Ret fun v w' => ∃ b, v = .slice (some ⟨b, 0, none⟩) h.cells.length h.cells.length ∧ w.heap.size ≤ b ∧ Blk w' b 4 (bools (mB h.cells.length (orderL h.cells fr nn))).toArray ∧ Grow w w') := by
 have hz1 := hsize_cells h
 have hz3 : ∀ k (hk : k < h.cells.length), h.cells[k].refs.length ≤ hsize h := fun k hk => hsize_refs h hk
 refine enter Try.func116 rfl Try.ntmps116 (L := [_,_,_,_,_,_,_,_,_,_,_,_,_,_,_,_,_,_,_,_,_,_,_,_,_,_,_,_,_,_,_,_,_,_,_,_,_,_,_,_,_,_,_,_,_,_,_,_,_,_,_,_,_,_,_,_,_,_,_,_,_,_,_,_,_,_,_,_,_,_,_,_,_,_,_,_,_,_,_,_,_,_,_,_,_,_,_,_,_,_,_,_,_,_,_,_,_,_,_,_]) rfl ?_
 have G := Mod.refl No w
 have hA0 := hA
 have hF0 := hF
 refine wp_seq_k fun K1 hK1 => ?_
 refine Sb 100 rfl ?_  -- 0
 refine S_box (cs := [_, _]) rfl rfl ?_
 intro b1 w1 fb1 g1 B1
 have lb1 := B1.lt
 replace hA := hA.grow g1
 replace hF := hF.grow g1
 replace G := G.grow g1
 have zg1 := g1.size
 refine S_val (Y_assign rfl) ?_
 refine S_nl rfl rfl ?_
 refine th_n (hK1 _ _ ?_)
 clear hK1 K1
 refine wp_seq_k fun K2 hK2 => ?_
 refine Sb 100 rfl ?_  -- 1
 refine S_val (Y_field Try.underlying32 rfl fz32_0 (by decide) rfl) ?_
 refine S_val (Y_load Try.underlying30 rfl rfl (B1.at (by rfl))) ?_  -- l1
 refine S_val (Y_len Try.underlying30 rfl) ?_
 refine S_make (z := [.bool false]) Try.underlying27 zr4 sz4 by4 rfl rfl (by omega) (by omega) (by omega) ?_
 intro b2 w2 fb2 g2 B2
 have lb2 := B2.lt
 replace hA := hA.grow g2
 replace hF := hF.grow g2
 replace G := G.grow g2
 replace B1 := B1.grow g2
 have zg2 := g2.size
 replace B2 := Blk.eq B2 (mB_zero _)
 refine S_val (Y_assign rfl) ?_
 refine S_nl rfl rfl ?_
 refine th_n (hK2 _ _ ?_)
 clear hK2 K2
 refine wp_seq_k fun K3 hK3 => ?_
 refine Sb 100 rfl ?_  -- 2
 refine S_bs0 Try.underlying23 sz3 ?_
 intro b3 w3 fb3 g3 B3
 have lb3 := B3.lt
 replace hA := hA.grow g3
 replace hF := hF.grow g3
 replace G := G.grow g3
 replace B1 := B1.grow g3
 replace B2 := B2.grow g3
 have zg3 := g3.size
 refine S_val (Y_assign rfl) ?_
 refine S_nl rfl rfl ?_
 refine th_n (hK3 _ _ ?_)
 clear hK3 K3
 refine wp_seq_k fun K4 hK4 => ?_
 refine wp_seq_k fun K5 hK5 => ?_
 refine Sb 100 rfl ?_  -- 3
 refine S_val (Y_assign rfl) ?_
 refine S_nl rfl rfl ?_
 refine th_n (hK5 _ _ ?_)
 clear hK5 K5
 refine wp_block ?_
 have O3 : OW (fun i => b3 ≤ i) w3 3 1 (some ⟨b3, 0, none⟩) 0 0 (ints []) := OW.of_blk B3 rfl (by decide) (Nat.le_refl _)
 go_loopw [6, 7] (fun u6 u7 wr => (∃ (k q cap : Nat) (A1 : Option Addr) (s : List Int), u7 = .int .i64 k ∧ k ≤ fr.length ∧ s = meet nn [] (fr.take k) ∧ u6 = .slice A1 q cap ∧ q = s.length ∧ OW (fun i => b3 ≤ i) wr 3 1 A1 q cap (ints s) ∧ Blk wr b2 4 (bools (mB h.cells.length s)).toArray) ∧ Mod (fun i => i = b2 ∨ b3 ≤ i) w3 wr) (fun u6 u7 wr => fr.length - (intOf u7).toNat)  -- L1
 case atStart =>
  refine ⟨?_, Mod.refl _ _⟩
  exact ⟨0, 0, 0, _, [], rfl, by omega, rfl, rfl, rfl, O3, B2⟩
 case round =>
  obtain ⟨w4, rfl⟩ : ∃ x : World, x = wr := ⟨_, rfl⟩
  obtain ⟨hrel, g4⟩ := hrel
  clear B2
  clear O3
  replace G := G.abv g4
  replace hA := hA0.grow G
  replace hF := hF0.grow G
  replace B1 := B1.md g4
  have zg4 := g4.size
  obtain ⟨k, q, cap, A1, s, rfl, hk, hs, rfl, hq, O3, B2⟩ := hrel
  have hsl : s.length ≤ h.cells.length := by rw [hs]; exact ((Bnd.nil _).take hl.1).len
  have GL4 := g4
  refine wp_seq_k fun K6 hK6 => ?_
  refine wp_seq_k fun K7 hK7 => ?_
  refine Sb 100 rfl ?_  -- 4
  refine S_val (Y_move rfl) ?_
  refine S_val (Y_move rfl) ?_
  refine S_val (Y_len Try.underlying23 rfl) ?_
  refine S_val (Y_lss rfl rfl) ?_
  refine S_nl rfl rfl ?_
  refine th_n (hK7 _ _ ?_)
  clear hK7 K7
  refine S_if rfl (fun hb1 => ?_) (fun hb1 => ?_)  -- c1
  · -- c1T
   replace hb1 := nb_tt hb1
   have hk1 : k < fr.length := by omega
   obtain ⟨g1, o1, rfl, hp1, hc1⟩ := hF.int hk1
   refine wp_skip ?_
   refine th_n (hK6 _ _ ?_)
   clear hK6 K6
   refine wp_seq_k fun K8 hK8 => ?_
   refine wp_block ?_
   refine wp_seq_k fun K9 hK9 => ?_
   refine Sb 100 rfl ?_  -- 6
   refine S_val (Y_move rfl) ?_
   refine S_val (Y_move rfl) ?_
   refine S_val (Y_index Try.underlying23 sz3 rfl rfl (by first | assumption | omega)) ?_
   refine S_val (Y_load Try.underlying3 rfl rfl (by first | assumption | exact B1.at (by rfl) | exact B2.at (by rfl))) ?_  -- l2
   refine S_val (Y_geq rfl rfl) ?_
   refine S_val (Y_move rfl) ?_
   refine S_g 27 rfl (fun hb2 => ?_) (fun hb2 => ?_)  -- g1
   · -- g1T
    replace hb2 := nb_tt hb2
    obtain ⟨n, hn, hnN⟩ := ref_at hl.1 hk1 hb2
    rw [hn] at hc1
    rw [hn]
    have hcm : w4.cell? ⟨b2, 0 + n * 1, none⟩ = some (.bool (decide ((n : Int) ∈ s))) := by simpa using B2.at (mB_at hnN)
    refine S_on rfl rfl ?_
    refine S_val (Y_move rfl) ?_
    refine S_on rfl rfl ?_
    refine S_val (Y_move rfl) ?_
    refine S_on rfl rfl ?_
    refine S_val (Y_move rfl) ?_
    refine S_on rfl rfl ?_
    refine S_val (Y_index Try.underlying23 sz3 rfl rfl (by first | assumption | omega)) ?_
    refine S_on rfl rfl ?_
    refine S_val (Y_load Try.underlying3 rfl rfl (by first | assumption | exact B1.at (by rfl) | exact B2.at (by rfl))) ?_  -- l3
    refine S_on rfl rfl ?_
    refine S_val (Y_index Try.underlying27 sz4 rfl rfl (by first | assumption | omega)) ?_
    refine S_on rfl rfl ?_
    refine S_val (Y_load Try.underlying4 rfl rfl (by first | assumption | exact B1.at (by rfl) | exact B2.at (by rfl))) ?_  -- l4
    refine S_on rfl rfl ?_
    refine S_val (Y_not rfl) ?_
    refine S_val (Y_pickT rfl rfl) ?_
    refine S_nl rfl rfl ?_
    refine th_n (hK9 _ _ ?_)
    clear hK9 K9
    refine S_if rfl (fun hb3 => ?_) (fun hb3 => ?_)  -- c2
    · -- c2T
     first | with_reducible (replace hb3 := nb_nt hb3) | with_reducible (replace hb3 := nb_tt hb3) | with_reducible (replace hb3 := nb_bt hb3) | skip
     refine wp_seq_k fun K10 hK10 => ?_
     refine Sb 100 rfl ?_  -- 7
     refine S_val (Y_move rfl) ?_
     refine S_val (Y_move rfl) ?_
     refine S_val (Y_move rfl) ?_
     refine S_val (Y_index Try.underlying23 sz3 rfl rfl (by first | assumption | omega)) ?_
     refine S_val (Y_load Try.underlying3 rfl rfl (by first | assumption | exact B1.at (by rfl) | exact B2.at (by rfl))) ?_  -- l5
     refine S_val (Y_index Try.underlying27 sz4 rfl rfl (by first | assumption | omega)) ?_
     refine S_stM (pre := (bools (mB h.cells.length s)).take n) (old := [.bool (decide ((n : Int) ∈ s))]) (post := (bools (mB h.cells.length s)).drop (n + 1)) (vs := [_]) sz4 rfl rfl rfl rfl (by rw [← mB_split (N := h.cells.length) (n := n) (s := s) (by omega)]; exact B2) (by rw [List.length_take, bools_len, mB_len]; omega) rfl ?_
     intro w5 m5 X5
     replace B2 := Blk.eq X5 (mB_set (by omega))
     clear X5
     replace G := G.abv m5
     replace GL4 := GL4.trn m5
     replace hA := hA0.grow G
     replace hF := hF0.grow G
     replace O3 := O3.md m5
     replace B1 := B1.md m5
     have zm5 := m5.size
     obtain ⟨g5, o5, e5, hp5, hc5⟩ := hF.int hk1
     cases e5
     rw [hn] at hc5
     refine S_nl rfl rfl ?_
     refine th_n (hK10 _ _ ?_)
     clear hK10 K10
     refine Sb 100 rfl ?_  -- 8
     refine S_val (Y_move rfl) ?_
     refine S_val (Y_move rfl) ?_
     refine S_val (Y_move rfl) ?_
     refine S_val (Y_index Try.underlying23 sz3 rfl rfl (by first | assumption | omega)) ?_
     refine S_val (Y_load Try.underlying3 rfl rfl (by first | assumption | exact B1.at (by rfl) | exact B2.at (by rfl))) ?_  -- l6
     refine S_bs1 (cs := [_]) Try.underlying23 zr3 sz3 rfl rfl rfl ?_
     intro b6 w6 fb6 g6 B6
     have lb6 := B6.lt
     replace hA := hA.grow g6
     replace hF := hF.grow g6
     replace O3 := O3.grow g6
     replace G := G.grow g6
     replace GL4 := GL4.grow g6
     replace B1 := B1.grow g6
     replace B2 := B2.grow g6
     have zg6 := g6.size
     refine S_app Try.underlying23 zr3 sz3 by3 rfl rfl O3 rfl (Src.blk B6) (by simp [Value.oneCell']) (by omega) (Pr' := fun i => b3 ≤ i) (fun i hi => hi) (by omega) ?_
     intro A7 cap7 w7 X7 m7
     replace O3 := X7
     rw [ints_app] at O3
     clear X7
     replace G := G.abv m7
     replace GL4 := GL4.trn m7
     replace hA := hA0.grow G
     replace hF := hF0.grow G
     replace B1 := B1.md m7
     replace B2 := B2.md m7
     have zm7 := m7.size
     refine S_val (Y_assign rfl) ?_
     refine S_nl rfl rfl ?_
     refine ib_n ?_
     refine th_n (hK8 _ _ ?_)
     clear hK8 K8
     refine Sb 100 rfl ?_  -- 5
     refine S_val (Y_move rfl) ?_
     refine S_val (Y_inc rfl rfl (by omega)) ?_
     refine S_val (Y_assign rfl) ?_
     refine S_nl rfl rfl ?_
     refine th_n ?_
     go_roundw  -- e1 of L1
     case rel =>
      refine ⟨?_, GL4⟩
      exact ⟨k + 1, _, _, _, s ++ [(n : Int)], rfl, by omega, by rw [meet_succ hk1, ← hs, hn, meet1_new (nn_of (by omega)) hb3], rfl, by simp; omega, O3, B2⟩
     case measure =>
      exact dec_nat (by omega)
    · -- c2F
     first | with_reducible (replace hb3 := nb_nf hb3) | with_reducible (replace hb3 := nb_tf hb3) | with_reducible (replace hb3 := nb_bf hb3) | skip
     refine wp_skip ?_
     refine ib_n ?_
     refine th_n (hK8 _ _ ?_)
     clear hK8 K8
     refine Sb 100 rfl ?_  -- 5
     refine S_val (Y_move rfl) ?_
     refine S_val (Y_inc rfl rfl (by omega)) ?_
     refine S_val (Y_assign rfl) ?_
     refine S_nl rfl rfl ?_
     refine th_n ?_
     go_roundw  -- e2 of L1
     case rel =>
      refine ⟨?_, GL4⟩
      exact ⟨k + 1, _, _, _, s, rfl, by omega, by rw [meet_succ hk1, ← hs, hn, meet1_old hb3], rfl, hq, O3, B2⟩
     case measure =>
      exact dec_nat (by omega)
   · -- g1F
    replace hb2 := nb_tf hb2
    refine S_off rfl rfl ?_
    refine S_off rfl rfl ?_
    refine S_off rfl rfl ?_
    refine S_off rfl rfl ?_
    refine S_off rfl rfl ?_
    refine S_off rfl rfl ?_
    refine S_off rfl rfl ?_
    refine S_off rfl rfl ?_
    refine S_val (Y_pickF rfl rfl) ?_
    refine S_nl rfl rfl ?_
    refine th_n (hK9 _ _ ?_)
    clear hK9 K9
    refine S_ifF rfl ?_
    refine wp_skip ?_
    refine ib_n ?_
    refine th_n (hK8 _ _ ?_)
    clear hK8 K8
    refine Sb 100 rfl ?_  -- 5
    refine S_val (Y_move rfl) ?_
    refine S_val (Y_inc rfl rfl (by omega)) ?_
    refine S_val (Y_assign rfl) ?_
    refine S_nl rfl rfl ?_
    refine th_n ?_
    go_roundw  -- e3 of L1
    case rel =>
     refine ⟨?_, GL4⟩
     exact ⟨k + 1, _, _, _, s, rfl, by omega, by rw [meet_succ hk1, ← hs, meet1_not (nn_no hb2)], rfl, hq, O3, B2⟩
    case measure =>
     exact dec_nat (by omega)
  · -- c1F
   replace hb1 := nb_tf hb1
   refine wp_exit ?_
   refine th_x ?_
   try clear GL4
   refine th_x ?_
   refine ib_e ?_
   refine th_n (hK4 _ _ ?_)
   clear hK6 K6 hK4 K4
   refine wp_seq_k fun K11 hK11 => ?_
   refine wp_seq_k fun K12 hK12 => ?_
   refine Sb 100 rfl ?_  -- 9
   refine S_val (Y_assign rfl) ?_
   refine S_nl rfl rfl ?_
   refine th_n (hK12 _ _ ?_)
   clear hK12 K12
   refine wp_block ?_
   go_loopw [6, 8] (fun u6 u8 wr => (∃ (k q cap : Nat) (A1 : Option Addr) (s : List Int), u8 = .int .i64 k ∧ Ord h.cells fr nn k s ∧ bfs h.cells nn (h.cells.length - k) k s = orderL h.cells fr nn ∧ u6 = .slice A1 q cap ∧ q = s.length ∧ OW (fun i => b3 ≤ i) wr 3 1 A1 q cap (ints s) ∧ Blk wr b2 4 (bools (mB h.cells.length s)).toArray) ∧ Mod (fun i => i = b2 ∨ b3 ≤ i) w4 wr) (fun u6 u8 wr => h.cells.length - (intOf u8).toNat)  -- L2
   case atStart =>
    refine ⟨?_, Mod.refl _ _⟩
    exact ⟨0, q, cap, A1, s, rfl, by rw [hs, meet_all (by omega)]; exact Ord.start _ _ _, by rw [hs, meet_all (by omega)]; rfl, rfl, hq, O3, B2⟩
   case round =>
    obtain ⟨w8, rfl⟩ : ∃ x : World, x = wr := ⟨_, rfl⟩
    obtain ⟨hrel, g8⟩ := hrel
    clear B2
    clear O3
    replace G := G.abv g8
    replace hA := hA0.grow G
    replace hF := hF0.grow G
    replace B1 := B1.md g8
    have zg8 := g8.size
    obtain ⟨k2, q2, cap2, A2, s2, rfl, ho2, hbf, rfl, hq2, O3, B2⟩ := hrel
    have hbd := ho2.bnd hl
    have hsl2 := hbd.len
    have GL8 := g8
    refine wp_seq_k fun K13 hK13 => ?_
    refine wp_seq_k fun K14 hK14 => ?_
    refine Sb 100 rfl ?_  -- 10
    refine S_val (Y_move rfl) ?_
    refine S_val (Y_move rfl) ?_
    refine S_val (Y_len Try.underlying23 rfl) ?_
    refine S_val (Y_lss rfl rfl) ?_
    refine S_nl rfl rfl ?_
    refine th_n (hK14 _ _ ?_)
    clear hK14 K14
    refine S_if rfl (fun hb2 => ?_) (fun hb2 => ?_)  -- c3
    · -- c3T
     replace hb2 := nb_tt hb2
     refine wp_skip ?_
     refine th_n (hK13 _ _ ?_)
     clear hK13 K13
     refine wp_seq_k fun K15 hK15 => ?_
     refine wp_block ?_
     refine wp_seq_k fun K16 hK16 => ?_
     refine D_start 10 100 (fun w => Mod (No) w) follows rfl rfl ?_  -- d1 r12
     intro w9 g9
     replace hA := hA.grow g9
     replace hF := hF.grow g9
     replace O3 := O3.grow g9
     replace G := G.grow g9
     replace GL8 := GL8.grow g9
     replace B1 := B1.grow g9
     replace B2 := B2.grow g9
     have zg9 := g9.size
     have GS9 := Mod.refl (No) w9
     have hk2 : k2 < s2.length := by omega
     obtain ⟨n2, hn2, hnN2, hng2⟩ := bnd_at hbd hk2
     obtain ⟨g2, o2, rfl, hp2, hc2⟩ := O3.r1.int hk2
     rw [hn2] at hc2
     obtain ⟨g3, o3, E3, d3, rfl, hp3, cc30, hE30⟩ := hA0.cell hnN2
     have hz4 := hz3 n2 hnN2
     have cc3 := cc30.grow G
     have hE3 := hE30.grow G
     have B1d9 := B1
     refine Dq (i := 0) rfl GS9 (fun _ _ => Y_field Try.underlying32 rfl fz32_0 (by decide) rfl) ?_
     refine Dq (i := 1) rfl GS9 (fun _ hs => Y_load Try.underlying30 rfl rfl (hs.cell0 (B1.at (by rfl)))) ?_
     refine Dq (i := 2) rfl GS9 (fun _ _ => Y_move rfl) ?_
     refine Dq (i := 3) rfl GS9 (fun _ _ => Y_move rfl) ?_
     refine Dq (i := 4) rfl GS9 (fun _ _ => Y_index Try.underlying23 sz3 rfl rfl (by first | assumption | omega)) ?_
     refine Dq (i := 5) rfl GS9 (fun _ hs => Y_load Try.underlying3 rfl rfl (by first | exact hs.cell0 (by assumption) | exact hs.cell0 (cc3.at (by rfl)) | exact hs.cell0 (B1.at (by rfl)) | exact hs.cell0 (B2.at (by rfl)))) ?_
     refine Dq (i := 6) rfl GS9 (fun _ _ => Y_index Try.underlying30 sz63 rfl rfl (by first | assumption | omega)) ?_
     refine Dq (i := 7) rfl GS9 (fun _ _ => Y_field Try.underlying63 rfl fz63_2 (by decide) rfl) ?_
     refine Dq (i := 8) rfl GS9 (fun _ hs => Y_load Try.underlying23 rfl rfl (by first | exact hs.cell0 (by assumption) | exact hs.cell0 (cc3.at (by rfl)) | exact hs.cell0 (B1.at (by rfl)) | exact hs.cell0 (B2.at (by rfl)))) ?_
     refine Dq (i := 9) rfl GS9 (fun _ _ => Y_assign rfl) ?_
     refine D_en (by kernel_rfl) rfl rfl ?_
     refine th_n (hK16 _ _ ?_)
     clear hK16 K16
     refine wp_seq_k fun K17 hK17 => ?_
     refine Sb 100 rfl ?_  -- 13
     refine S_val (Y_assign rfl) ?_
     refine S_nl rfl rfl ?_
     refine th_n (hK17 _ _ ?_)
     clear hK17 K17
     refine wp_block ?_
     go_loopw [6, 10] (fun u6 u10 wr => (∃ (k q cap : Nat) (A1 : Option Addr) (s : List Int), u10 = .int .i64 k ∧ k ≤ h.cells[n2].refs.length ∧ s = meet nn s2 (h.cells[n2].refs.take k) ∧ u6 = .slice A1 q cap ∧ q = s.length ∧ OW (fun i => b3 ≤ i) wr 3 1 A1 q cap (ints s) ∧ Blk wr b2 4 (bools (mB h.cells.length s)).toArray) ∧ Mod (fun i => i = b2 ∨ b3 ≤ i) w9 wr) (fun u6 u10 wr => h.cells[n2].refs.length - (intOf u10).toNat)  -- L3
     case atStart =>
      refine ⟨?_, Mod.refl _ _⟩
      exact ⟨0, q2, cap2, _, s2, rfl, by omega, rfl, rfl, hq2, O3, B2⟩
     case round =>
      obtain ⟨w10, rfl⟩ : ∃ x : World, x = wr := ⟨_, rfl⟩
      obtain ⟨hrel, g10⟩ := hrel
      clear B2
      clear O3
      replace G := G.abv g10
      replace GL8 := GL8.trn g10
      replace hA := hA0.grow G
      replace hF := hF0.grow G
      replace cc3 := cc30.grow G
      replace hE3 := hE30.grow G
      replace B1 := B1.md g10
      have zg10 := g10.size
      obtain ⟨j, q3, cap3, A3, s3, rfl, hj, hs3, rfl, hq3, O3, B2⟩ := hrel
      have hsl3 : s3.length ≤ h.cells.length := by rw [hs3]; exact (hbd.take (hl.refs hnN2)).len
      have GL10 := g10
      refine wp_seq_k fun K18 hK18 => ?_
      refine wp_seq_k fun K19 hK19 => ?_
      refine Sb 100 rfl ?_  -- 14
      refine S_val (Y_move rfl) ?_
      refine S_val (Y_move rfl) ?_
      refine S_val (Y_len Try.underlying23 rfl) ?_
      refine S_val (Y_lss rfl rfl) ?_
      refine S_nl rfl rfl ?_
      refine th_n (hK19 _ _ ?_)
      clear hK19 K19
      refine S_if rfl (fun hb3 => ?_) (fun hb3 => ?_)  -- c4
      · -- c4T
       replace hb3 := nb_tt hb3
       have hj1 : j < h.cells[n2].refs.length := by omega
       obtain ⟨g4, o4, rfl, hp4, hc4⟩ := hE3.int hj1
       refine wp_skip ?_
       refine th_n (hK18 _ _ ?_)
       clear hK18 K18
       refine wp_seq_k fun K20 hK20 => ?_
       refine wp_block ?_
       refine wp_seq_k fun K21 hK21 => ?_
       refine Sb 100 rfl ?_  -- 16
       refine S_val (Y_move rfl) ?_
       refine S_val (Y_move rfl) ?_
       refine S_val (Y_index Try.underlying23 sz3 rfl rfl (by first | assumption | omega)) ?_
       refine S_val (Y_load Try.underlying3 rfl rfl (by first | assumption | exact cc3.at (by rfl) | exact B1.at (by rfl) | exact B2.at (by rfl))) ?_  -- l10
       refine S_val (Y_geq rfl rfl) ?_
       refine S_val (Y_move rfl) ?_
       refine S_g 76 rfl (fun hb4 => ?_) (fun hb4 => ?_)  -- g2
       · -- g2T
        replace hb4 := nb_tt hb4
        obtain ⟨n, hn, hnN⟩ := ref_at (hl.refs hnN2) hj1 hb4
        rw [hn] at hc4
        rw [hn]
        have hcm : w10.cell? ⟨b2, 0 + n * 1, none⟩ = some (.bool (decide ((n : Int) ∈ s3))) := by simpa using B2.at (mB_at hnN)
        refine S_on rfl rfl ?_
        refine S_val (Y_move rfl) ?_
        refine S_on rfl rfl ?_
        refine S_val (Y_move rfl) ?_
        refine S_on rfl rfl ?_
        refine S_val (Y_move rfl) ?_
        refine S_on rfl rfl ?_
        refine S_val (Y_index Try.underlying23 sz3 rfl rfl (by first | assumption | omega)) ?_
        refine S_on rfl rfl ?_
        refine S_val (Y_load Try.underlying3 rfl rfl (by first | assumption | exact cc3.at (by rfl) | exact B1.at (by rfl) | exact B2.at (by rfl))) ?_  -- l11
        refine S_on rfl rfl ?_
        refine S_val (Y_index Try.underlying27 sz4 rfl rfl (by first | assumption | omega)) ?_
        refine S_on rfl rfl ?_
        refine S_val (Y_load Try.underlying4 rfl rfl (by first | assumption | exact cc3.at (by rfl) | exact B1.at (by rfl) | exact B2.at (by rfl))) ?_  -- l12
        refine S_on rfl rfl ?_
        refine S_val (Y_not rfl) ?_
        refine S_val (Y_pickT rfl rfl) ?_
        refine S_nl rfl rfl ?_
        refine th_n (hK21 _ _ ?_)
        clear hK21 K21
        refine S_if rfl (fun hb5 => ?_) (fun hb5 => ?_)  -- c5
        · -- c5T
         first | with_reducible (replace hb5 := nb_nt hb5) | with_reducible (replace hb5 := nb_tt hb5) | with_reducible (replace hb5 := nb_bt hb5) | skip
         refine wp_seq_k fun K22 hK22 => ?_
         refine Sb 100 rfl ?_  -- 17
         refine S_val (Y_move rfl) ?_
         refine S_val (Y_move rfl) ?_
         refine S_val (Y_move rfl) ?_
         refine S_val (Y_index Try.underlying23 sz3 rfl rfl (by first | assumption | omega)) ?_
         refine S_val (Y_load Try.underlying3 rfl rfl (by first | assumption | exact cc3.at (by rfl) | exact B1.at (by rfl) | exact B2.at (by rfl))) ?_  -- l13
         refine S_val (Y_index Try.underlying27 sz4 rfl rfl (by first | assumption | omega)) ?_
         refine S_stM (pre := (bools (mB h.cells.length s3)).take n) (old := [.bool (decide ((n : Int) ∈ s3))]) (post := (bools (mB h.cells.length s3)).drop (n + 1)) (vs := [_]) sz4 rfl rfl rfl rfl (by rw [← mB_split (N := h.cells.length) (n := n) (s := s3) (by omega)]; exact B2) (by rw [List.length_take, bools_len, mB_len]; omega) rfl ?_
         intro w11 m11 X11
         replace B2 := Blk.eq X11 (mB_set (by omega))
         clear X11
         replace G := G.abv m11
         replace GL8 := GL8.trn m11
         replace GL10 := GL10.trn m11
         replace hA := hA0.grow G
         replace hF := hF0.grow G
         replace cc3 := cc30.grow G
         replace hE3 := hE30.grow G
         replace O3 := O3.md m11
         replace B1 := B1.md m11
         have zm11 := m11.size
         obtain ⟨g5, o5, e5, hp5, hc5⟩ := hE3.int hj1
         cases e5
         rw [hn] at hc5
         refine S_nl rfl rfl ?_
         refine th_n (hK22 _ _ ?_)
         clear hK22 K22
         refine Sb 100 rfl ?_  -- 18
         refine S_val (Y_move rfl) ?_
         refine S_val (Y_move rfl) ?_
         refine S_val (Y_move rfl) ?_
         refine S_val (Y_index Try.underlying23 sz3 rfl rfl (by first | assumption | omega)) ?_
         refine S_val (Y_load Try.underlying3 rfl rfl (by first | assumption | exact cc3.at (by rfl) | exact B1.at (by rfl) | exact B2.at (by rfl))) ?_  -- l14
         refine S_bs1 (cs := [_]) Try.underlying23 zr3 sz3 rfl rfl rfl ?_
         intro b12 w12 fb12 g12 B12
         have lb12 := B12.lt
         replace hA := hA.grow g12
         replace hF := hF.grow g12
         replace cc3 := cc3.grow g12
         replace hE3 := hE3.grow g12
         replace O3 := O3.grow g12
         replace G := G.grow g12
         replace GL8 := GL8.grow g12
         replace GL10 := GL10.grow g12
         replace B1 := B1.grow g12
         replace B2 := B2.grow g12
         have zg12 := g12.size
         refine S_app Try.underlying23 zr3 sz3 by3 rfl rfl O3 rfl (Src.blk B12) (by simp [Value.oneCell']) (by omega) (Pr' := fun i => b3 ≤ i) (fun i hi => hi) (by omega) ?_
         intro A13 cap13 w13 X13 m13
         replace O3 := X13
         rw [ints_app] at O3
         clear X13
         replace G := G.abv m13
         replace GL8 := GL8.trn m13
         replace GL10 := GL10.trn m13
         replace hA := hA0.grow G
         replace hF := hF0.grow G
         replace cc3 := cc30.grow G
         replace hE3 := hE30.grow G
         replace B1 := B1.md m13
         replace B2 := B2.md m13
         have zm13 := m13.size
         refine S_val (Y_assign rfl) ?_
         refine S_nl rfl rfl ?_
         refine ib_n ?_
         refine th_n (hK20 _ _ ?_)
         clear hK20 K20
         refine Sb 100 rfl ?_  -- 15
         refine S_val (Y_move rfl) ?_
         refine S_val (Y_inc rfl rfl (by omega)) ?_
         refine S_val (Y_assign rfl) ?_
         refine S_nl rfl rfl ?_
         refine th_n ?_
         go_roundw  -- e4 of L3
         case rel =>
          refine ⟨?_, GL10⟩
          exact ⟨j + 1, _, _, _, s3 ++ [(n : Int)], rfl, by omega, by rw [meet_succ hj1, ← hs3, hn, meet1_new (nn_of (by omega)) hb5], rfl, by simp; omega, O3, B2⟩
         case measure =>
          exact dec_nat (by omega)
        · -- c5F
         first | with_reducible (replace hb5 := nb_nf hb5) | with_reducible (replace hb5 := nb_tf hb5) | with_reducible (replace hb5 := nb_bf hb5) | skip
         refine wp_skip ?_
         refine ib_n ?_
         refine th_n (hK20 _ _ ?_)
         clear hK20 K20
         refine Sb 100 rfl ?_  -- 15
         refine S_val (Y_move rfl) ?_
         refine S_val (Y_inc rfl rfl (by omega)) ?_
         refine S_val (Y_assign rfl) ?_
         refine S_nl rfl rfl ?_
         refine th_n ?_
         go_roundw  -- e5 of L3
         case rel =>
          refine ⟨?_, GL10⟩
          exact ⟨j + 1, _, _, _, s3, rfl, by omega, by rw [meet_succ hj1, ← hs3, hn, meet1_old hb5], rfl, hq3, O3, B2⟩
         case measure =>
          exact dec_nat (by omega)
       · -- g2F
        replace hb4 := nb_tf hb4
        refine S_off rfl rfl ?_
        refine S_off rfl rfl ?_
        refine S_off rfl rfl ?_
        refine S_off rfl rfl ?_
        refine S_off rfl rfl ?_
        refine S_off rfl rfl ?_
        refine S_off rfl rfl ?_
        refine S_off rfl rfl ?_
        refine S_val (Y_pickF rfl rfl) ?_
        refine S_nl rfl rfl ?_
        refine th_n (hK21 _ _ ?_)
        clear hK21 K21
        refine S_ifF rfl ?_
        refine wp_skip ?_
        refine ib_n ?_
        refine th_n (hK20 _ _ ?_)
        clear hK20 K20
        refine Sb 100 rfl ?_  -- 15
        refine S_val (Y_move rfl) ?_
        refine S_val (Y_inc rfl rfl (by omega)) ?_
        refine S_val (Y_assign rfl) ?_
        refine S_nl rfl rfl ?_
        refine th_n ?_
        go_roundw  -- e6 of L3
        case rel =>
         refine ⟨?_, GL10⟩
         exact ⟨j + 1, _, _, _, s3, rfl, by omega, by rw [meet_succ hj1, ← hs3, meet1_not (nn_no hb4)], rfl, hq3, O3, B2⟩
        case measure =>
         exact dec_nat (by omega)
      · -- c4F
       replace hb3 := nb_tf hb3
       refine wp_exit ?_
       refine th_x ?_
       try clear GL10
       refine th_x ?_
       refine ib_e ?_
       refine ib_n ?_
       refine th_n (hK15 _ _ ?_)
       clear hK18 K18 hK15 K15
       refine Sb 100 rfl ?_  -- 11
       refine S_val (Y_move rfl) ?_
       refine S_val (Y_inc rfl rfl (by omega)) ?_
       refine S_val (Y_assign rfl) ?_
       refine S_nl rfl rfl ?_
       refine th_n ?_
       go_roundw  -- e7 of L2
       case rel =>
        refine ⟨?_, GL8⟩
        exact ⟨k2 + 1, q3, cap3, _, s3, rfl, by rw [hs3, meet_all (by omega), ← refsOf_at hnN2]; exact ho2.next hng2, by rw [hs3, meet_all (by omega), ← refsOf_at hnN2, ← bfs_go (by omega) hng2]; exact hbf, rfl, hq3, O3, B2⟩
       case measure =>
        exact dec_nat (by omega)
    · -- c3F
     replace hb2 := nb_tf hb2
     refine wp_exit ?_
     refine th_x ?_
     try clear GL8
     refine th_x ?_
     refine ib_e ?_
     refine th_n (hK11 _ _ ?_)
     clear hK13 K13 hK11 K11
     refine wp_seq_k fun K23 hK23 => ?_
     refine Sb 100 rfl ?_  -- 19
     refine S_val (Y_move rfl) ?_
     refine S_val (Y_assign rfl) ?_
     refine S_nl rfl rfl ?_
     refine th_n (hK23 _ _ ?_)
     clear hK23 K23
     refine wp_ret ?_
     refine ret_r1 rfl rfl ?_  -- r1
     have he := hbf
     rw [bfs_end (by omega)] at he
     exact ⟨_, rfl, by omega, by rw [← he]; exact B2, G⟩
end
/-! WalkJ -/
section
open Go Go.RowKit
attribute [local irreducible] wpList wpAnyH Code.wp dOp
theorem has_at {m N : Nat} {x : Int} (hW : ∀ i, m.testBit i = true → i < N) (h : hasB m x = true) : ∃ n : Nat, x = (n : Int) ∧ n < N := by
  unfold hasB at h
  simp only [Bool.and_eq_true, decide_eq_true_eq] at h
  exact ⟨x.toNat, by omega, hW _ h.2⟩
theorem has_bnd {m N : Nat} (hW : ∀ i, m.testBit i = true → i < N) : ∀ x, hasB m x = true → 0 ≤ x ∧ x < (N : Int) := fun x h => by
  obtain ⟨n, rfl, hn⟩ := has_at hW h
  omega
theorem last_snoc {wk : List Int} {q n : Nat} (hq : q = wk.length) (h0 : 0 < q) (h : wk[q - 1]? = some (n : Int)) : wk = wk.take (q - 1) ++ [(n : Int)] := by
  obtain ⟨h1, h2⟩ := List.getElem?_eq_some_iff.1 h
  have := List.take_succ_eq_append_getElem h1
  rw [h2, show q - 1 + 1 = wk.length by omega, List.take_length] at this
  exact this
set_option maxHeartbeats 400000 in
set_option maxRecDepth 20000 in
theorem impl_closure_1_c (E : Option Addr) (xs : List Int) (e N lo bl bx bw bm bo wi m q cap : Nat) (A : Option Addr) (s wk : List Int) (w : World) (hE : R1 (fun k => k < lo) w E (ints xs)) (hx : xs.length ≤ 1048576) (hwk : wk.length ≤ 1048576) (Bw : Blk w bw 78 [.int .u64 (wi : Int)].toArray) (Bm : Blk w bm 78 [.int .u64 (m : Int)].toArray) (Bo : Blk w bo 23 [.slice A q cap].toArray) (O : OW (fun i => i = bl ∨ bx < i) w 3 1 A q cap (ints wk)) (hq : q = wk.length) (hs : BitsOf m s) (hwi : wi < 2 ^ 64) (hW : ∀ i, wi.testBit i = true → i < N) (hN : N ≤ 64) (hb : Bnd N s) (h9 : lo ≤ bl ∧ lo ≤ bm ∧ lo ≤ bo ∧ bl ≤ bx ∧ bm ≤ bx ∧ bo ≤ bx ∧ bm ≠ bl ∧ bo ≠ bl ∧ bm ≠ bo ∧ bx < w.heap.size ∧ bw ≤ bx ∧ bw ≠ bm ∧ bw ≠ bo ∧ bw ≠ bl) :
    Calls Try.prog 123 #[.slice E xs.length e, .pointer (some ⟨bw, 0, none⟩), .pointer (some ⟨bm, 0, none⟩), .pointer (some ⟨bo, 0, none⟩)] w (Ret fun _v w' => ∃ m q cap A, q = (wk ++ (meet (hasB wi) s xs).drop s.length).length ∧ BitsOf m (meet (hasB wi) s xs) ∧ Blk w' bm 78 [.int .u64 (m : Int)].toArray ∧ Blk w' bo 23 [.slice A q cap].toArray ∧ OW (fun i => i = bl ∨ bx < i) w' 3 1 A q cap (ints (wk ++ (meet (hasB wi) s xs).drop s.length)) ∧ Mod (fun i => i = bm ∨ i = bo ∨ i = bl ∨ bx < i) w w') := by
 obtain ⟨p1, p2, p3, p4, p5, p6, p7, p8, p9, p10, p11, p12, p13, p14⟩ := h9
 have hbo := has_bnd hW
 refine enter Try.func123 rfl Try.ntmps123 (L := [_,_,_,_,_,_,_,_,_,_,_,_,_,_,_,_,_,_,_,_,_,_,_,_,_,_,_,_,_]) rfl ?_
 have G := Mod.refl (fun i => i = bm ∨ i = bo ∨ i = bl ∨ bx < i) w
 refine wp_seq_k fun K1 hK1 => ?_
 refine Sb 29 rfl ?_  -- 0
 refine S_val (Y_move rfl) ?_
 refine S_val (Y_len Try.underlying23 rfl) ?_
 refine S_val (Y_move rfl) ?_
 refine S_nl rfl rfl ?_
 refine th_n (hK1 _ _ ?_)
 clear hK1 K1
 refine wp_block ?_
 go_loopw [9] (fun u9 wr => (∃ (k m q cap : Nat) (A : Option Addr) (s1 : List Int), u9 = .int .i64 k ∧ k ≤ xs.length ∧ q = (wk ++ s1.drop s.length).length ∧ s1 = meet (hasB wi) s (xs.take k) ∧ BitsOf m s1 ∧ Blk wr bm 78 [.int .u64 (m : Int)].toArray ∧ Blk wr bo 23 [.slice A q cap].toArray ∧ OW (fun i => i = bl ∨ bx < i) wr 3 1 A q cap (ints (wk ++ s1.drop s.length))) ∧ Mod (fun i => i = bm ∨ i = bo ∨ i = bl ∨ bx < i) w wr) (fun u9 wr => xs.length - (intOf u9).toNat)  -- L1
 case atStart =>
  refine ⟨?_, Mod.refl _ _⟩
  exact ⟨0, m, q, cap, A, s, rfl, by omega, by simpa using hq, rfl, hs, Bm, Bo, by simpa using O⟩
 case round =>
  obtain ⟨w1, rfl⟩ : ∃ x : World, x = wr := ⟨_, rfl⟩
  obtain ⟨hrel, g1⟩ := hrel
  clear Bm
  clear Bo
  clear O
  replace G := Mod.trans' G g1 (fun _ h _ => h) (fun i h _ => by first | exact h | omega | (dsimp only at h ⊢; omega))
  replace hE := hE.md g1
  replace Bw := Bw.md g1
  have zg1 := g1.size
  obtain ⟨k, m1, q1, cap1, A1, s1, rfl, hk, hq1, hs1, ht1, Bm, Bo, O⟩ := hrel
  have hsl : s1.length ≤ N := by rw [hs1]; exact (hb.meetO hbo).len
  have hsl0 : s.length ≤ s1.length := by rw [hs1]; exact meet_len _ _ _
  have hqb : q1 ≤ wk.length + 64 := by rw [hq1, List.length_append, List.length_drop]; omega
  have hm1 := ht1.1
  have GL1 := g1
  refine wp_seq_k fun K2 hK2 => ?_
  refine Sb 29 rfl ?_  -- 1
  refine S_val (Y_lss rfl rfl) ?_
  refine S_nl rfl rfl ?_
  refine th_n (hK2 _ _ ?_)
  clear hK2 K2
  refine wp_seq_k fun K3 hK3 => ?_
  refine S_if rfl (fun hb1 => ?_) (fun hb1 => ?_)  -- c1
  · -- c1T
   replace hb1 := nb_tt hb1
   have hk1 : k < xs.length := by omega
   obtain ⟨g1, o1, rfl, hp1, hc1⟩ := hE.int hk1
   refine wp_skip ?_
   refine th_n (hK3 _ _ ?_)
   clear hK3 K3
   refine wp_seq_k fun K4 hK4 => ?_
   refine wp_block ?_
   refine wp_seq_k fun K5 hK5 => ?_
   refine Sb 29 rfl ?_  -- 2
   refine S_val (Y_index Try.underlying23 sz3 rfl rfl (by first | assumption | omega)) ?_
   refine S_val (Y_load Try.underlying3 rfl rfl (by first | assumption | exact Bw.at (by rfl) | exact Bm.at (by rfl) | exact Bo.at (by rfl))) ?_  -- l1
   refine S_val (Y_assign rfl) ?_
   refine S_nl rfl rfl ?_
   refine th_n (hK5 _ _ ?_)
   clear hK5 K5
   refine wp_seq_k fun K6 hK6 => ?_
   refine Sb 29 rfl ?_  -- 3
   refine S_val (Y_load Try.underlying78 rfl rfl (Bw.at (by rfl))) ?_  -- l2
   refine S_val (Y_move rfl) ?_
   refine S_call rfl en58 (impl_cellSet_has_c _ _ _ (by assumption)) ?_  -- k1 (impl.cellSet).has
   rintro v w' ⟨rfl, rfl⟩
   refine S_val (Y_move rfl) ?_
   refine S_g 16 rfl (fun hb2 => ?_) (fun hb2 => ?_)  -- g1
   · -- g1T
    first | with_reducible (replace hb2 := nb_nt hb2) | with_reducible (replace hb2 := nb_tt hb2) | with_reducible (replace hb2 := nb_bt hb2) | skip
    obtain ⟨n, hn, hnN⟩ := has_at hW hb2
    rw [hn]
    refine S_on rfl rfl ?_
    refine S_val (Y_load Try.underlying78 rfl rfl (Bm.at (by rfl))) ?_  -- l3
    refine S_on rfl rfl ?_
    refine S_val (Y_move rfl) ?_
    refine S_on rfl rfl ?_
    refine S_call rfl en58 (impl_cellSet_has_c _ _ _ (by assumption)) ?_  -- k2 (impl.cellSet).has
    rintro v w' ⟨rfl, rfl⟩
    refine S_on rfl rfl ?_
    refine S_val (Y_not rfl) ?_
    refine S_val (Y_pickT rfl rfl) ?_
    refine S_nl rfl rfl ?_
    refine th_n (hK6 _ _ ?_)
    clear hK6 K6
    refine S_if rfl (fun hb3 => ?_) (fun hb3 => ?_)  -- c2
    · -- c2T
     first | with_reducible (replace hb3 := nb_nt hb3) | with_reducible (replace hb3 := nb_tt hb3) | with_reducible (replace hb3 := nb_bt hb3) | skip
     rw [hasB_nat, ht1.2] at hb3
     refine wp_seq_k fun K7 hK7 => ?_
     refine Sb 29 rfl ?_  -- 4
     refine S_val (Y_move rfl) ?_
     refine S_call rfl en59 (impl_cellSet_add_c _ _ _ _ (by assumption) (by assumption) (by omega)) ?_  -- k3 (*impl.cellSet).add
     rintro v4 w4 ⟨X4, m4⟩
     replace Bm := X4
     clear X4
     replace G := Mod.trans' G m4 (fun _ h _ => h) (fun i h _ => by first | exact h | omega | (dsimp only at h ⊢; omega))
     replace GL1 := GL1.trn m4
     replace hE := hE.md m4
     replace O := O.md m4
     replace Bw := Bw.md m4
     replace Bo := Bo.md m4
     have zm4 := m4.size
     refine S_nl rfl rfl ?_
     refine th_n (hK7 _ _ ?_)
     clear hK7 K7
     refine Sb 29 rfl ?_  -- 5
     refine S_val (Y_load Try.underlying23 rfl rfl (Bo.at (by rfl))) ?_  -- l4
     refine S_val (Y_move rfl) ?_
     refine S_bs1 (cs := [_]) Try.underlying23 zr3 sz3 rfl rfl rfl ?_
     intro b5 w5 fb5 g5 B5
     have lb5 := B5.lt
     replace hE := hE.grow g5
     replace O := O.grow g5
     replace G := G.grow g5
     replace GL1 := GL1.grow g5
     replace Bw := Bw.grow g5
     replace Bm := Bm.grow g5
     replace Bo := Bo.grow g5
     have zg5 := g5.size
     refine S_app Try.underlying23 zr3 sz3 by3 rfl rfl O rfl (Src.blk B5) (by simp [Value.oneCell']) (by omega) (Pr' := fun i => i = bl ∨ bx < i) (fun i hi => hi) (by omega) ?_
     intro A6 cap6 w6 X6 m6
     replace O := X6
     rw [ints_app] at O
     clear X6
     replace G := Mod.trans' G m6 (fun _ h _ => h) (fun i h _ => by first | exact h | omega | (dsimp only at h ⊢; omega))
     replace GL1 := GL1.trn m6
     replace hE := hE.md m6
     replace Bw := Bw.md m6
     replace Bm := Bm.md m6
     replace Bo := Bo.md m6
     have zm6 := m6.size
     refine S_stM (pre := []) (old := [_]) (post := []) (vs := [_]) sz23 rfl rfl rfl (by first | rfl | assumption) Bo rfl rfl ?_
     intro w7 m7 X7
     replace Bo := Blk.eq (ys := [_]) X7 rfl
     clear X7
     replace G := Mod.trans' G m7 (fun _ h _ => h) (fun i h _ => by first | exact h | omega | (dsimp only at h ⊢; omega))
     replace GL1 := GL1.trn m7
     replace hE := hE.md m7
     replace O := O.md m7
     replace Bw := Bw.md m7
     replace Bm := Bm.md m7
     have zm7 := m7.size
     refine S_nl rfl rfl ?_
     refine ib_n ?_
     refine th_n (hK4 _ _ ?_)
     clear hK4 K4
     refine Sb 29 rfl ?_  -- 6
     refine S_val (Y_inc rfl rfl (by omega)) ?_
     refine S_val (Y_move rfl) ?_
     refine S_nl rfl rfl ?_
     refine th_n ?_
     go_roundw  -- e1 of L1
     case rel =>
      refine ⟨?_, GL1⟩
      refine ⟨k + 1, _, _, _, _, s1 ++ [(n : Int)], rfl, by omega, ?_, by rw [meet_succ hk1, ← hs1, hn, meet1_new (by rw [← hn]; exact hb2) (of_decide_eq_false hb3)], ht1.add (by omega), Bm, Bo, ?_⟩
      · rw [drop_snoc hsl0, ← List.append_assoc, List.length_append, ← hq1]
        rfl
      · rw [drop_snoc hsl0, ← List.append_assoc]
        exact O
     case measure =>
      exact dec_nat (by omega)
    · -- c2F
     first | with_reducible (replace hb3 := nb_nf hb3) | with_reducible (replace hb3 := nb_tf hb3) | with_reducible (replace hb3 := nb_bf hb3) | skip
     rw [hasB_nat, ht1.2] at hb3
     refine wp_skip ?_
     refine ib_n ?_
     refine th_n (hK4 _ _ ?_)
     clear hK4 K4
     refine Sb 29 rfl ?_  -- 6
     refine S_val (Y_inc rfl rfl (by omega)) ?_
     refine S_val (Y_move rfl) ?_
     refine S_nl rfl rfl ?_
     refine th_n ?_
     go_roundw  -- e2 of L1
     case rel =>
      refine ⟨?_, GL1⟩
      exact ⟨k + 1, _, _, _, _, s1, rfl, by omega, hq1, by rw [meet_succ hk1, ← hs1, hn, meet1_old (of_decide_eq_true hb3)], ht1, Bm, Bo, O⟩
     case measure =>
      exact dec_nat (by omega)
   · -- g1F
    first | with_reducible (replace hb2 := nb_nf hb2) | with_reducible (replace hb2 := nb_tf hb2) | with_reducible (replace hb2 := nb_bf hb2) | skip
    refine S_off rfl rfl ?_
    refine S_off rfl rfl ?_
    refine S_off rfl rfl ?_
    refine S_off rfl rfl ?_
    refine S_val (Y_pickF rfl rfl) ?_
    refine S_nl rfl rfl ?_
    refine th_n (hK6 _ _ ?_)
    clear hK6 K6
    refine S_ifF rfl ?_
    refine wp_skip ?_
    refine ib_n ?_
    refine th_n (hK4 _ _ ?_)
    clear hK4 K4
    refine Sb 29 rfl ?_  -- 6
    refine S_val (Y_inc rfl rfl (by omega)) ?_
    refine S_val (Y_move rfl) ?_
    refine S_nl rfl rfl ?_
    refine th_n ?_
    go_roundw  -- e3 of L1
    case rel =>
     refine ⟨?_, GL1⟩
     exact ⟨k + 1, _, _, _, _, s1, rfl, by omega, hq1, by rw [meet_succ hk1, ← hs1, meet1_not hb2], ht1, Bm, Bo, O⟩
    case measure =>
     exact dec_nat (by omega)
  · -- c1F
   replace hb1 := nb_tf hb1
   refine wp_exit ?_
   refine th_x ?_
   try clear GL1
   refine th_x ?_
   refine ib_e ?_
   clear hK3 K3
   refine ret_n0 rfl ?_  -- r1
   rw [meet_all (by omega)] at hs1
   subst hs1
   exact ⟨_, _, _, _, hq1, ht1, Bm, Bo, O, G⟩
set_option maxHeartbeats 400000 in
set_option maxRecDepth 20000 in
theorem impl_closure_c (Pr PF : Nat → Prop) (A B E : Option Addr) (h : LH) (fr : List Int) (c d e wi : Nat) (w : World) (hA : RC Pr w A h.cells) (hF : R1 PF w E (ints fr)) (hz : hsize h ≤ 1048576) (hfz : fr.length ≤ 1048576) (hwi : wi < 2 ^ 64) (hW : ∀ i, wi.testBit i = true → i < h.cells.length) (hN : h.cells.length ≤ 64) :
    Calls Try.prog 108 #[.agg #[.slice A h.cells.length c, .slice B h.roots.length d], .slice E fr.length e, .int .u64 (wi : Int)] w (Ret fun v w' => ∃ m : Nat, v = .int .u64 (m : Int) ∧ m < 2 ^ 64 ∧ (∀ n, m.testBit n = true ↔ Rch h.cells fr (hasB wi) n) ∧ Grow w w') := by
 have hz1 := hsize_cells h
 have hz3 : ∀ k (hk : k < h.cells.length), h.cells[k].refs.length ≤ hsize h := fun k hk => hsize_refs h hk
 have hAl := hA.below
 have hFl := hF.below
 have hbo := has_bnd hW
 refine enter Try.func108 rfl Try.ntmps108 (L := [_,_,_,_,_,_,_,_,_,_,_,_,_,_,_,_,_,_,_,_,_,_,_,_,_,_,_,_,_,_,_,_,_,_,_,_,_,_,_]) rfl ?_
 have G := Mod.refl No w
 have hAl0 := hAl
 have hFl0 := hFl
 refine wp_seq_k fun K1 hK1 => ?_
 refine Sb 39 rfl ?_  -- 0
 refine S_box (cs := [_, _]) rfl rfl ?_
 intro b1 w1 fb1 g1 B1
 have lb1 := B1.lt
 replace hAl := hAl.grow g1
 replace hFl := hFl.grow g1
 replace G := G.grow g1
 have zg1 := g1.size
 refine S_box (cs := [_]) rfl rfl ?_
 intro b2 w2 fb2 g2 B2
 have lb2 := B2.lt
 replace hAl := hAl.grow g2
 replace hFl := hFl.grow g2
 replace G := G.grow g2
 replace B1 := B1.grow g2
 have zg2 := g2.size
 refine S_val (Y_assign rfl) ?_
 refine S_nl rfl rfl ?_
 refine th_n (hK1 _ _ ?_)
 clear hK1 K1
 refine wp_seq_k fun K2 hK2 => ?_
 refine Sb 39 rfl ?_  -- 1
 refine S_alloc (cs := [_]) zr78 rfl ?_
 intro b3 w3 fb3 g3 B3
 have lb3 := B3.lt
 replace hAl := hAl.grow g3
 replace hFl := hFl.grow g3
 replace G := G.grow g3
 replace B1 := B1.grow g3
 replace B2 := B2.grow g3
 have zg3 := g3.size
 refine S_nl rfl rfl ?_
 refine th_n (hK2 _ _ ?_)
 clear hK2 K2
 refine wp_seq_k fun K3 hK3 => ?_
 refine Sb 39 rfl ?_  -- 2
 refine S_bs0 Try.underlying23 sz3 ?_
 intro b4 w4 fb4 g4 B4
 have lb4 := B4.lt
 replace hAl := hAl.grow g4
 replace hFl := hFl.grow g4
 replace G := G.grow g4
 replace B1 := B1.grow g4
 replace B2 := B2.grow g4
 replace B3 := B3.grow g4
 have zg4 := g4.size
 refine S_alloc (cs := [_]) zr23 rfl ?_
 intro b5 w5 fb5 g5 B5
 have lb5 := B5.lt
 replace hAl := hAl.grow g5
 replace hFl := hFl.grow g5
 replace G := G.grow g5
 replace B1 := B1.grow g5
 replace B2 := B2.grow g5
 replace B3 := B3.grow g5
 replace B4 := B4.grow g5
 have zg5 := g5.size
 have O4 : OW (fun i => i = b4 ∨ b5 < i) w5 3 1 (some ⟨b4, 0, none⟩) 0 0 (ints []) := OW.of_blk B4 rfl (by decide) (.inl rfl)
 refine S_stM (pre := []) (old := [_]) (post := []) (vs := [_]) sz23 rfl rfl rfl (by first | rfl | assumption) B5 rfl rfl ?_
 intro w6 m6 X6
 replace B5 := Blk.eq (ys := [_]) X6 rfl
 clear X6
 replace G := G.abv m6
 replace hAl := hAl0.grow G
 replace hFl := hFl0.grow G
 replace O4 := O4.md m6
 replace B1 := B1.md m6
 replace B2 := B2.md m6
 replace B3 := B3.md m6
 have zm6 := m6.size
 refine S_nl rfl rfl ?_
 refine th_n (hK3 _ _ ?_)
 clear hK3 K3
 refine wp_seq_k fun K4 hK4 => ?_
 refine Sb 39 rfl ?_  -- 3
 refine S_val (Y_makeFunc rfl rfl) ?_
 refine S_val (Y_assign rfl) ?_
 refine S_nl rfl rfl ?_
 refine th_n (hK4 _ _ ?_)
 clear hK4 K4
 refine wp_seq_k fun K5 hK5 => ?_
 refine Sb 39 rfl ?_  -- 4
 refine S_val (Y_move rfl) ?_
 refine S_val (Y_move rfl) ?_
 refine S_callc rfl rfl en123 (impl_closure_1_c _ _ _ h.cells.length w.heap.size b4 b5 b2 b3 b5 wi _ _ _ _ [] [] _ hFl (by omega) (by simp) B2 B3 B5 O4 rfl BitsOf.zero hwi hW (by omega) (Bnd.nil _) ⟨by omega, by omega, by omega, by omega, by omega, by omega, by omega, by omega, by omega, by omega, by omega, by omega, by omega, by omega⟩) ?_  -- k1
 rintro v7 w7 ⟨m1, q1, cap1, A1, hq1, ht1, X7, Y7, Z7, m7⟩
 replace B3 := X7
 replace B5 := Y7
 replace O4 := Z7
 clear X7 Y7 Z7
 replace G := G.abv m7
 replace hAl := hAl0.grow G
 replace hFl := hFl0.grow G
 replace B1 := B1.md m7
 replace B2 := B2.md m7
 have zm7 := m7.size
 rw [List.nil_append, List.length_nil, List.drop_zero] at hq1 O4
 refine S_nl rfl rfl ?_
 refine th_n (hK5 _ _ ?_)
 clear hK5 K5
 refine wp_seq_k fun K6 hK6 => ?_
 refine wp_block ?_
 go_loopw [10] (fun u10 wr => (∃ (m q cap : Nat) (A1 : Option Addr) (s wk : List Int), q = wk.length ∧ wk.length ≤ s.length ∧ BitsOf m s ∧ Dfs h.cells fr (hasB wi) s wk ∧ Blk wr b3 78 [.int .u64 (m : Int)].toArray ∧ Blk wr b5 23 [.slice A1 q cap].toArray ∧ OW (fun i => i = b4 ∨ b5 < i) wr 3 1 A1 q cap (ints wk)) ∧ Mod (fun i => i = b3 ∨ i = b5 ∨ i = b4 ∨ b5 < i) w7 wr) (fun u10 wr => 2 * (h.cells.length - popc h.cells.length (natAt wr b3)) + lenAt wr b5)  -- L1
 case atStart =>
  refine ⟨?_, Mod.refl _ _⟩
  exact ⟨m1, q1, cap1, A1, _, _, hq1, Nat.le_refl _, ht1, Dfs.start _ _ _, B3, B5, O4⟩
 case round =>
  obtain ⟨w8, rfl⟩ : ∃ x : World, x = wr := ⟨_, rfl⟩
  obtain ⟨hrel, g8⟩ := hrel
  clear B3
  clear B5
  clear O4
  replace G := G.abv g8
  replace hAl := hAl0.grow G
  replace hFl := hFl0.grow G
  replace B1 := B1.md g8
  replace B2 := B2.md g8
  have zg8 := g8.size
  obtain ⟨m2, q2, cap2, A2, s, wk, hq2, hws, ht2, ho2, B3, B5, O4⟩ := hrel
  have hbd : Bnd h.cells.length s := ⟨ho2.nodup, fun x hx => hbo x (ho2.okay x hx)⟩
  have hsl := hbd.len
  have hM := natAt_blk B3
  have hL := lenAt_blk B5
  have hP := popc_eq ht2.2 hbd
  have GL8 := g8
  refine wp_seq_k fun K7 hK7 => ?_
  refine wp_seq_k fun K8 hK8 => ?_
  refine Sb 39 rfl ?_  -- 5
  refine S_val (Y_load Try.underlying23 rfl rfl (B5.at (by rfl))) ?_  -- l1
  refine S_val (Y_len Try.underlying23 rfl) ?_
  refine S_val (Y_gtr rfl rfl) ?_
  refine S_nl rfl rfl ?_
  refine th_n (hK8 _ _ ?_)
  clear hK8 K8
  refine S_if rfl (fun hb1 => ?_) (fun hb1 => ?_)  -- c1
  · -- c1T
   replace hb1 := nb_tt hb1
   have hcap := O4.cap
   have h0 : 0 < q2 := by omega
   have hkk : q2 - 1 < wk.length := by omega
   obtain ⟨n, hn, hnN⟩ := has_at hW (ho2.okay _ (ho2.sub _ (List.getElem_mem hkk)))
   obtain ⟨g2, o2, rfl, hp2, hc2⟩ := O4.r1.int hkk
   rw [hn] at hc2
   have hw := last_snoc hq2 h0 (by rw [List.getElem?_eq_getElem hkk, hn])
   obtain ⟨g3, o3, E3, d3, rfl, hp3, cc30, hE30⟩ := hAl0.cell hnN
   have hz4 := hz3 n hnN
   have cc3 := cc30.grow G
   have hE3 := hE30.grow G
   have P4 : OW (fun i => i = b4 ∨ b5 < i) w8 3 1 (some ⟨g2, o2, none⟩) (q2 - 1) cap2 (ints (wk.take (q2 - 1))) := by simpa [ints, List.map_take] using O4.pop (m := q2 - 1) (by omega)
   refine wp_skip ?_
   refine th_n (hK7 _ _ ?_)
   clear hK7 K7
   refine wp_block ?_
   refine wp_seq_k fun K9 hK9 => ?_
   refine Sb 39 rfl ?_  -- 6
   refine S_val (Y_load Try.underlying23 rfl rfl (B5.at (by rfl))) ?_  -- l2
   refine S_val (Y_load Try.underlying23 rfl rfl (B5.at (by rfl))) ?_  -- l3
   refine S_val (Y_len Try.underlying23 rfl) ?_
   refine S_val (Y_sub (c := ((q2 - 1 : Nat) : Int)) rfl rfl (by omega) (by omega) (by omega)) ?_
   refine S_val (Y_index Try.underlying23 sz3 rfl rfl (by first | assumption | omega)) ?_
   refine S_val (Y_load Try.underlying3 rfl rfl (by first | assumption | exact cc3.at (by rfl) | exact B1.at (by rfl) | exact B2.at (by rfl) | exact B3.at (by rfl) | exact B5.at (by rfl))) ?_  -- l4
   refine S_val (Y_assign rfl) ?_
   refine S_nl rfl rfl ?_
   refine th_n (hK9 _ _ ?_)
   clear hK9 K9
   refine wp_seq_k fun K10 hK10 => ?_
   refine Sb 39 rfl ?_  -- 7
   refine S_val (Y_load Try.underlying23 rfl rfl (B5.at (by rfl))) ?_  -- l5
   refine S_val (Y_load Try.underlying23 rfl rfl (B5.at (by rfl))) ?_  -- l6
   refine S_val (Y_len Try.underlying23 rfl) ?_
   refine S_val (Y_sub (c := ((q2 - 1 : Nat) : Int)) rfl rfl (by omega) (by omega) (by omega)) ?_
   refine S_val (Y_sliceH Try.underlying23 sz3 rfl rfl (by omega)) ?_
   refine S_stM (pre := []) (old := [_]) (post := []) (vs := [_]) sz23 rfl rfl rfl (by first | rfl | assumption) B5 rfl rfl ?_
   intro w9 m9 X9
   replace B5 := Blk.eq (ys := [_]) X9 rfl
   clear X9
   replace G := G.abv m9
   replace GL8 := GL8.trn m9
   replace hAl := hAl0.grow G
   replace hFl := hFl0.grow G
   replace cc3 := cc30.grow G
   replace hE3 := hE30.grow G
   replace P4 := P4.md m9
   replace B1 := B1.md m9
   replace B2 := B2.md m9
   replace B3 := B3.md m9
   have zm9 := m9.size
   refine S_nl rfl rfl ?_
   refine th_n (hK10 _ _ ?_)
   clear hK10 K10
   refine Sb 39 rfl ?_  -- 8
   refine S_val (Y_move rfl) ?_
   refine S_val (Y_field Try.underlying32 rfl fz32_0 (by decide) rfl) ?_
   refine S_val (Y_load Try.underlying30 rfl rfl (B1.at (by rfl))) ?_  -- l7
   refine S_val (Y_move rfl) ?_
   refine S_val (Y_index Try.underlying30 sz63 rfl rfl (by first | assumption | omega)) ?_
   refine S_val (Y_field Try.underlying63 rfl fz63_2 (by decide) rfl) ?_
   refine S_val (Y_load Try.underlying23 rfl rfl (by first | assumption | exact cc3.at (by rfl) | exact B1.at (by rfl) | exact B2.at (by rfl) | exact B3.at (by rfl) | exact B5.at (by rfl))) ?_  -- l8
   refine S_callc rfl rfl en123 (impl_closure_1_c _ _ _ h.cells.length w.heap.size b4 b5 b2 b3 b5 wi _ _ _ _ s (wk.take (q2 - 1)) _ hE3 (by omega) (by rw [List.length_take]; omega) B2 B3 B5 P4 (by rw [List.length_take]; omega) ht2 hwi hW (by omega) hbd ⟨by omega, by omega, by omega, by omega, by omega, by omega, by omega, by omega, by omega, by omega, by omega, by omega, by omega, by omega⟩) ?_  -- k2
   rintro v10 w10 ⟨m3, q3, cap3, A3, hq3, ht3, X10, Y10, Z10, m10⟩
   replace B3 := X10
   replace B5 := Y10
   have O4 := Z10
   clear X10 Y10 Z10
   replace G := G.abv m10
   replace GL8 := GL8.trn m10
   replace hAl := hAl0.grow G
   replace hFl := hFl0.grow G
   replace cc3 := cc30.grow G
   replace hE3 := hE30.grow G
   replace B1 := B1.md m10
   replace B2 := B2.md m10
   have zm10 := m10.size
   have hbd3 : Bnd h.cells.length (meet (hasB wi) s h.cells[n].refs) := hbd.meetO hbo
   have hml := meet_len (hasB wi) s h.cells[n].refs
   have hbl3 := hbd3.len
   refine S_nl rfl rfl ?_
   refine ib_n ?_
   refine th_n ?_
   go_roundw  -- e1 of L1
   case rel =>
    refine ⟨?_, GL8⟩
    exact ⟨_, _, _, _, _, _, hq3, by rw [List.length_append, List.length_drop, List.length_take]; omega, ht3, by rw [← refsOf_at hnN]; rw [hw] at ho2; exact ho2.next, B3, B5, O4⟩
   case measure =>
    rw [hM, hL, natAt_blk B3, lenAt_blk B5, hP, popc_eq ht3.2 hbd3, hq3, List.length_append, List.length_drop, List.length_take]
    omega
  · -- c1F
   replace hb1 := nb_tf hb1
   refine wp_exit ?_
   refine th_x ?_
   try clear GL8
   refine th_x ?_
   refine ib_e ?_
   refine th_n (hK6 _ _ ?_)
   clear hK7 K7 hK6 K6
   refine wp_seq_k fun K11 hK11 => ?_
   refine Sb 39 rfl ?_  -- 9
   refine S_val (Y_load Try.underlying78 rfl rfl (B3.at (by rfl))) ?_  -- l9
   refine S_val (Y_assign rfl) ?_
   refine S_nl rfl rfl ?_
   refine th_n (hK11 _ _ ?_)
   clear hK11 K11
   refine wp_ret ?_
   refine ret_r1 rfl rfl ?_  -- r1
   have hwk : wk = [] := List.eq_nil_of_length_eq_zero (by omega)
   subst hwk
   exact ⟨_, rfl, ht2.1, fun i => by rw [ht2.2, decide_eq_true_eq]; exact ho2.all, G⟩
end
/-! WalkK -/
section
open Go Go.RowKit
attribute [local irreducible] wpList wpAnyH Code.wp dOp
theorem SetOf.wlt {m : Nat} {bs : List Bool} (h : SetOf m bs) : m < 2 ^ 64 := h.1
theorem SetOf.lt {m : Nat} {cs : List LC} (h : SetOf m (usedL cs)) : ∀ i, m.testBit i = true → i < cs.length := fun i hi => by
  rw [h.2] at hi
  by_cases hl : i < cs.length
  · exact hl
  · rw [List.getElem?_eq_none (by simp [usedL]; omega)] at hi
    cases hi
theorem usedL_list {m : Nat} {cs : List LC} (h : SetOf m (usedL cs)) : listB m cs.length = usedL cs := by
  apply List.ext_getElem?
  intro i
  by_cases hi : i < cs.length
  · have h1 := h.2 i
    simp only [listB, usedL, List.getElem?_map, List.getElem?_range hi, List.getElem?_eq_getElem hi, Option.map_some] at h1 ⊢
    rw [h1]
    cases cs[i].used <;> rfl
  · rw [List.getElem?_eq_none (by rw [listB_len]; omega), List.getElem?_eq_none (by simp [usedL]; omega)]
def reachV (h : LH) : List Bool := if validB h = true then mB h.cells.length (orderL h.cells h.roots nn) else []
theorem reachV_t {h : LH} (hv : validB h = true) : reachV h = mB h.cells.length (orderL h.cells h.roots nn) := if_pos hv
theorem reachV_f {h : LH} (hv : validB h = false) : reachV h = [] := if_neg (by simp [hv])
theorem reachV_len {h : LH} (hv : validB h = true) : (reachV h).length = h.cells.length := by rw [reachV_t hv, mB_len]
def usedV (h : LH) : Int × Int := if validB h = true then ((countB (usedL h.cells) : Int), (countB (reachV h) : Int)) else (-1, -1)
theorem usedV_t {h : LH} (hv : validB h = true) : usedV h = ((countB (usedL h.cells) : Int), (countB (reachV h) : Int)) := if_pos hv
theorem usedV_f {h : LH} (hv : validB h = false) : usedV h = (-1, -1) := if_neg (by simp [hv])
set_option maxHeartbeats 400000 in
set_option maxRecDepth 20000 in
theorem impl_reachable_c (Pr : Nat → Prop) (A B : Option Addr) (h : LH) (c d : Nat) (w : World) (hA : RC Pr w A h.cells) (hB : R1 Pr w B (ints h.roots)) (hz : hsize h ≤ 1048576) (va : Valid h) :
    Calls Try.prog 71 #[.agg #[.slice A h.cells.length c, .slice B h.roots.length d]] w (Ret fun v w' => ∃ m : Nat, v = .int .u64 (m : Int) ∧ m < 2 ^ 64 ∧ listB m h.cells.length = mB h.cells.length (orderL h.cells h.roots nn) ∧ Grow w w') := by
 have h40 := va.le
 have hr4 := va.roots4
 refine enter Try.func71 rfl Try.ntmps71 (L := [_,_,_,_,_,_,_,_,_]) rfl ?_
 have G := Mod.refl No w
 have hA0 := hA
 have hB0 := hB
 refine wp_seq_k fun K1 hK1 => ?_
 refine Sb 9 rfl ?_  -- 0
 refine S_box (cs := [_, _]) rfl rfl ?_
 intro b1 w1 fb1 g1 B1
 have lb1 := B1.lt
 replace hA := hA.grow g1
 replace hB := hB.grow g1
 replace G := G.grow g1
 have zg1 := g1.size
 refine S_val (Y_assign rfl) ?_
 refine S_nl rfl rfl ?_
 refine th_n (hK1 _ _ ?_)
 clear hK1 K1
 refine wp_seq_k fun K2 hK2 => ?_
 refine D_start 7 9 (fun w => Mod (No) w) follows rfl rfl ?_  -- d1 r1
 intro w2 g2
 replace hA := hA.grow g2
 replace hB := hB.grow g2
 replace G := G.grow g2
 replace B1 := B1.grow g2
 have zg2 := g2.size
 have GS2 := Mod.refl (No) w2
 have B1d2 := B1
 refine Dq (i := 0) rfl GS2 (fun _ hs => Y_loadS Try.underlying32 rfl sz32 rfl (by first | exact hs.cells0 (B1.row (by rfl)))) ?_
 refine Dq (i := 1) rfl GS2 (fun _ _ => Y_field Try.underlying32 rfl fz32_1 (by decide) rfl) ?_
 refine Dq (i := 2) rfl GS2 (fun _ hs => Y_load Try.underlying23 rfl rfl (hs.cell0 (B1.at (by rfl)))) ?_
 refine Dq (i := 3) rfl GS2 (fun _ hs => Y_loadS Try.underlying32 rfl sz32 rfl (by first | exact hs.cells0 (B1.row (by rfl)))) ?_
 refine D_1 (i := 4) (by kernel_rfl) ?_
 refine E_call rfl rfl en77 (impl_usedSet_c _ _ _ _ _ _ _ (by assumption) (by omega)) ?_  -- k1 impl.usedSet
 rintro v3 w3 ⟨s3, rfl, hs3, g3⟩
 replace hA := hA.grow g3
 replace hB := hB.grow g3
 replace G := G.grow g3
 replace GS2 := GS2.grow g3
 replace B1 := B1.grow g3
 have zg3 := g3.size
 refine ⟨GS2, ?_⟩
 refine D_1 (i := 5) (by kernel_rfl) ?_
 refine E_call rfl rfl en108 (impl_closure_c _ _ _ _ _ _ _ _ _ _ _ _ (by assumption) (by assumption) (by omega) (by omega) hs3.1 hs3.lt (by omega)) ?_  -- k2 impl.closure
 rintro v4 w4 ⟨s4, rfl, hs4, hr4, g4⟩
 replace hA := hA.grow g4
 replace hB := hB.grow g4
 replace G := G.grow g4
 replace GS2 := GS2.grow g4
 replace B1 := B1.grow g4
 have zg4 := g4.size
 refine ⟨GS2, ?_⟩
 refine Dq (i := 6) rfl GS2 (fun _ _ => Y_assign rfl) ?_
 refine D_en (by kernel_rfl) rfl rfl ?_
 refine th_n (hK2 _ _ ?_)
 clear hK2 K2
 refine wp_ret ?_
 refine ret_r1 rfl rfl ?_  -- r1
 exact ⟨_, rfl, hs4, list_eq va.leads va.leadsU hs3 hr4, G⟩
set_option maxHeartbeats 400000 in
set_option maxRecDepth 20000 in
theorem impl_Reachable_c (Pr : Nat → Prop) (A B : Option Addr) (h : LH) (c d : Nat) (w : World) (hA : RC Pr w A h.cells) (hB : R1 Pr w B (ints h.roots)) (hz : hsize h ≤ 1048576) :
    Calls Try.prog 23 #[.agg #[.slice A h.cells.length c, .slice B h.roots.length d]] w (Ret fun v w' => ∃ A1 q cap, v = .slice A1 q cap ∧ q = (reachV h).length ∧ OI (fun i => w.heap.size ≤ i) w' 4 A1 (bools (reachV h)) ∧ Grow w w') := by
 refine enter Try.func23 rfl Try.ntmps23 (L := [_,_,_,_,_,_,_,_,_,_,_,_]) rfl ?_
 have G := Mod.refl No w
 have hA0 := hA
 have hB0 := hB
 refine wp_seq_k fun K1 hK1 => ?_
 refine Sb 12 rfl ?_  -- 0
 refine S_box (cs := [_, _]) rfl rfl ?_
 intro b1 w1 fb1 g1 B1
 have lb1 := B1.lt
 replace hA := hA.grow g1
 replace hB := hB.grow g1
 replace G := G.grow g1
 have zg1 := g1.size
 refine S_val (Y_assign rfl) ?_
 refine S_nl rfl rfl ?_
 refine th_n (hK1 _ _ ?_)
 clear hK1 K1
 refine wp_seq_k fun K2 hK2 => ?_
 refine wp_seq_k fun K3 hK3 => ?_
 refine Sb 12 rfl ?_  -- 1
 refine S_val (Y_loadS Try.underlying32 rfl sz32 rfl (B1.row (by rfl))) ?_  -- l1
 refine S_call rfl en41 (impl_HeapValid_c _ _ _ _ _ _ _ (by assumption) (by assumption) (by omega)) ?_  -- k1 impl.HeapValid
 rintro v2 w2 ⟨rfl, g2⟩
 replace hA := hA.grow g2
 replace hB := hB.grow g2
 replace G := G.grow g2
 replace B1 := B1.grow g2
 have zg2 := g2.size
 refine S_val (Y_not rfl) ?_
 refine S_nl rfl rfl ?_
 refine th_n (hK3 _ _ ?_)
 clear hK3 K3
 refine S_if rfl (fun hb1 => ?_) (fun hb1 => ?_)  -- c1
 · -- c1T
  first | with_reducible (replace hb1 := nb_nt hb1) | with_reducible (replace hb1 := nb_tt hb1) | with_reducible (replace hb1 := nb_bt hb1) | skip
  refine wp_seq_k fun K4 hK4 => ?_
  refine Sb 12 rfl ?_  -- 2
  refine S_val (Y_assign rfl) ?_
  refine S_nl rfl rfl ?_
  refine th_n (hK4 _ _ ?_)
  clear hK4 K4
  refine wp_ret ?_
  refine th_r ?_
  clear hK2 K2
  refine ret_r1 rfl rfl ?_  -- r1
  exact ⟨_, _, _, rfl, by rw [reachV_f hb1]; rfl, by rw [reachV_f hb1]; exact OI.nil _ _ _ _, G⟩
 · -- c1F
  first | with_reducible (replace hb1 := nb_nf hb1) | with_reducible (replace hb1 := nb_tf hb1) | with_reducible (replace hb1 := nb_bf hb1) | skip
  have va := valid_iff.1 hb1
  have hl := va.leads
  have h40 := va.le
  have hr4 := va.roots4
  have hrl := reachV_len hb1
  refine wp_skip ?_
  refine th_n (hK2 _ _ ?_)
  clear hK2 K2
  refine wp_seq_k fun K5 hK5 => ?_
  refine D_start 7 12 (fun w => Mod (No) w) follows rfl rfl ?_  -- d1 r3
  intro w3 g3
  replace hA := hA.grow g3
  replace hB := hB.grow g3
  replace G := G.grow g3
  replace B1 := B1.grow g3
  have zg3 := g3.size
  have GS3 := Mod.refl (No) w3
  have B1d3 := B1
  refine Dq (i := 0) rfl GS3 (fun _ hs => Y_loadS Try.underlying32 rfl sz32 rfl (by first | exact hs.cells0 (B1.row (by rfl)))) ?_
  refine Dq (i := 2) rfl GS3 (fun _ _ => Y_field Try.underlying32 rfl fz32_0 (by decide) rfl) ?_
  refine Dq (i := 3) rfl GS3 (fun _ hs => Y_load Try.underlying30 rfl rfl (hs.cell0 (B1.at (by rfl)))) ?_
  refine Dq (i := 4) rfl GS3 (fun _ _ => Y_len Try.underlying30 rfl) ?_
  refine D_1 (i := 1) (by kernel_rfl) ?_
  refine E_call rfl rfl en71 (impl_reachable_c _ _ _ _ _ _ _ (by assumption) (by assumption) (by omega) (by assumption)) ?_  -- k2 impl.reachable
  rintro v4 w4 ⟨s4, rfl, hs4, hr4, g4⟩
  replace hA := hA.grow g4
  replace hB := hB.grow g4
  replace G := G.grow g4
  replace GS3 := GS3.grow g4
  replace B1 := B1.grow g4
  have zg4 := g4.size
  refine ⟨GS3, ?_⟩
  refine D_1 (i := 5) (by kernel_rfl) ?_
  refine E_call rfl rfl en62 (impl_cellSet_list_c _ _ _ (by first | assumption | exact SetOf.wlt (by assumption)) (by omega)) ?_  -- k3 (impl.cellSet).list
  rintro v5 w5 ⟨b5, rfl, fb5, B5, g5⟩
  replace hA := hA.grow g5
  replace hB := hB.grow g5
  replace G := G.grow g5
  replace GS3 := GS3.grow g5
  replace B1 := B1.grow g5
  have zg5 := g5.size
  have lb5 := B5.lt
  refine ⟨GS3, ?_⟩
  refine Dq (i := 6) rfl GS3 (fun _ _ => Y_assign rfl) ?_
  refine D_en (by kernel_rfl) rfl rfl ?_
  refine th_n (hK5 _ _ ?_)
  clear hK5 K5
  refine wp_ret ?_
  refine ret_r1 rfl rfl ?_  -- r2
  exact ⟨_, _, _, rfl, hrl.symm, by rw [reachV_t hb1, ← (by assumption : listB _ h.cells.length = mB h.cells.length (orderL h.cells h.roots nn))]; exact OI.of_blk' (by assumption) (by omega), G⟩
set_option maxHeartbeats 400000 in
set_option maxRecDepth 20000 in
theorem spec_Reachable_c (Pr : Nat → Prop) (A B : Option Addr) (h : LH) (c d : Nat) (w : World) (hA : RC Pr w A h.cells) (hB : R1 Pr w B (ints h.roots)) (hz : hsize h ≤ 1048576) :
    Calls Try.prog 92 #[.agg #[.slice A h.cells.length c, .slice B h.roots.length d]] w (Ret fun v w' => ∃ A1 q cap, v = .slice A1 q cap ∧ q = (reachV h).length ∧ OI (fun i => w.heap.size ≤ i) w' 4 A1 (bools (reachV h)) ∧ Grow w w') := by
 refine enter Try.func92 rfl Try.ntmps92 (L := [_,_,_,_,_,_,_,_,_,_,_]) rfl ?_
 have G := Mod.refl No w
 have hA0 := hA
 have hB0 := hB
 refine wp_seq_k fun K1 hK1 => ?_
 refine Sb 11 rfl ?_  -- 0
 refine S_box (cs := [_, _]) rfl rfl ?_
 intro b1 w1 fb1 g1 B1
 have lb1 := B1.lt
 replace hA := hA.grow g1
 replace hB := hB.grow g1
 replace G := G.grow g1
 have zg1 := g1.size
 refine S_val (Y_assign rfl) ?_
 refine S_nl rfl rfl ?_
 refine th_n (hK1 _ _ ?_)
 clear hK1 K1
 refine wp_seq_k fun K2 hK2 => ?_
 refine wp_seq_k fun K3 hK3 => ?_
 refine Sb 11 rfl ?_  -- 1
 refine S_val (Y_loadS Try.underlying32 rfl sz32 rfl (B1.row (by rfl))) ?_  -- l1
 refine S_call rfl en49 (spec_HeapValid_c _ _ _ _ _ _ _ (by assumption) (by assumption) (by omega)) ?_  -- k1 spec.HeapValid
 rintro v2 w2 ⟨rfl, g2⟩
 replace hA := hA.grow g2
 replace hB := hB.grow g2
 replace G := G.grow g2
 replace B1 := B1.grow g2
 have zg2 := g2.size
 refine S_val (Y_not rfl) ?_
 refine S_nl rfl rfl ?_
 refine th_n (hK3 _ _ ?_)
 clear hK3 K3
 refine S_if rfl (fun hb1 => ?_) (fun hb1 => ?_)  -- c1
 · -- c1T
  first | with_reducible (replace hb1 := nb_nt hb1) | with_reducible (replace hb1 := nb_tt hb1) | with_reducible (replace hb1 := nb_bt hb1) | skip
  refine wp_seq_k fun K4 hK4 => ?_
  refine Sb 11 rfl ?_  -- 2
  refine S_bs0 Try.underlying27 sz4 ?_
  intro b3 w3 fb3 g3 B3
  have lb3 := B3.lt
  replace hA := hA.grow g3
  replace hB := hB.grow g3
  replace G := G.grow g3
  replace B1 := B1.grow g3
  have zg3 := g3.size
  refine S_val (Y_assign rfl) ?_
  refine S_nl rfl rfl ?_
  refine th_n (hK4 _ _ ?_)
  clear hK4 K4
  refine wp_ret ?_
  refine th_r ?_
  clear hK2 K2
  refine ret_r1 rfl rfl ?_  -- r1
  exact ⟨_, _, _, rfl, by rw [reachV_f hb1]; rfl, by rw [reachV_f hb1]; exact OI.nil _ _ _ _, G⟩
 · -- c1F
  first | with_reducible (replace hb1 := nb_nf hb1) | with_reducible (replace hb1 := nb_tf hb1) | with_reducible (replace hb1 := nb_bf hb1) | skip
  have va := valid_iff.1 hb1
  have hl := va.leads
  have h40 := va.le
  have hr4 := va.roots4
  have hrl := reachV_len hb1
  refine wp_skip ?_
  refine th_n (hK2 _ _ ?_)
  clear hK2 K2
  refine wp_seq_k fun K5 hK5 => ?_
  refine Sb 11 rfl ?_  -- 3
  refine S_val (Y_loadS Try.underlying32 rfl sz32 rfl (B1.row (by rfl))) ?_  -- l2
  refine S_val (Y_field Try.underlying32 rfl fz32_1 (by decide) rfl) ?_
  refine S_val (Y_load Try.underlying23 rfl rfl (B1.at (by rfl))) ?_  -- l3
  refine S_call rfl en116 (spec_l7Reach_c _ _ _ _ _ _ _ _ _ _ _ (by assumption) (by assumption) (by omega) (by omega) (by assumption)) ?_  -- k2 spec.l7Reach
  rintro v4 w4 ⟨b4, rfl, fb4, B4, g4⟩
  replace hA := hA.grow g4
  replace hB := hB.grow g4
  replace G := G.grow g4
  replace B1 := B1.grow g4
  have zg4 := g4.size
  have lb4 := B4.lt
  refine S_val (Y_assign rfl) ?_
  refine S_nl rfl rfl ?_
  refine th_n (hK5 _ _ ?_)
  clear hK5 K5
  refine wp_ret ?_
  refine ret_r1 rfl rfl ?_  -- r2
  exact ⟨_, _, _, rfl, hrl.symm, by rw [reachV_t hb1]; exact OI.of_blk' (by assumption) (by omega), G⟩
set_option maxHeartbeats 400000 in
set_option maxRecDepth 20000 in
theorem impl_UsedCells_c (Pr : Nat → Prop) (A B : Option Addr) (h : LH) (c d : Nat) (w : World) (hA : RC Pr w A h.cells) (hB : R1 Pr w B (ints h.roots)) (hz : hsize h ≤ 1048576) :
    Calls Try.prog 28 #[.agg #[.slice A h.cells.length c, .slice B h.roots.length d]] w (Ret fun v w' => v = .tuple #[.int .i64 (usedV h).1, .int .i64 (usedV h).2] ∧ Grow w w') := by
 refine enter Try.func28 rfl Try.ntmps28 (L := [_,_,_,_,_,_,_,_,_,_,_,_,_,_,_,_,_]) rfl ?_
 have G := Mod.refl No w
 have hA0 := hA
 have hB0 := hB
 refine wp_seq_k fun K1 hK1 => ?_
 refine Sb 17 rfl ?_  -- 0
 refine S_box (cs := [_, _]) rfl rfl ?_
 intro b1 w1 fb1 g1 B1
 have lb1 := B1.lt
 replace hA := hA.grow g1
 replace hB := hB.grow g1
 replace G := G.grow g1
 have zg1 := g1.size
 refine S_val (Y_assign rfl) ?_
 refine S_val (Y_assign rfl) ?_
 refine S_nl rfl rfl ?_
 refine th_n (hK1 _ _ ?_)
 clear hK1 K1
 refine wp_seq_k fun K2 hK2 => ?_
 refine wp_seq_k fun K3 hK3 => ?_
 refine Sb 17 rfl ?_  -- 1
 refine S_val (Y_loadS Try.underlying32 rfl sz32 rfl (B1.row (by rfl))) ?_  -- l1
 refine S_call rfl en41 (impl_HeapValid_c _ _ _ _ _ _ _ (by assumption) (by assumption) (by omega)) ?_  -- k1 impl.HeapValid
 rintro v2 w2 ⟨rfl, g2⟩
 replace hA := hA.grow g2
 replace hB := hB.grow g2
 replace G := G.grow g2
 replace B1 := B1.grow g2
 have zg2 := g2.size
 refine S_val (Y_not rfl) ?_
 refine S_nl rfl rfl ?_
 refine th_n (hK3 _ _ ?_)
 clear hK3 K3
 refine S_if rfl (fun hb1 => ?_) (fun hb1 => ?_)  -- c1
 · -- c1T
  first | with_reducible (replace hb1 := nb_nt hb1) | with_reducible (replace hb1 := nb_tt hb1) | with_reducible (replace hb1 := nb_bt hb1) | skip
  refine wp_seq_k fun K4 hK4 => ?_
  refine Sb 17 rfl ?_  -- 2
  refine S_val (Y_assign rfl) ?_
  refine S_val (Y_assign rfl) ?_
  refine S_nl rfl rfl ?_
  refine th_n (hK4 _ _ ?_)
  clear hK4 K4
  refine wp_ret ?_
  refine th_r ?_
  clear hK2 K2
  refine ret_r2 rfl rfl rfl ?_  -- r1
  exact ⟨by rw [usedV_f hb1], G⟩
 · -- c1F
  first | with_reducible (replace hb1 := nb_nf hb1) | with_reducible (replace hb1 := nb_tf hb1) | with_reducible (replace hb1 := nb_bf hb1) | skip
  have va := valid_iff.1 hb1
  have hl := va.leads
  have h40 := va.le
  have hr4 := va.roots4
  have hrl := reachV_len hb1
  refine wp_skip ?_
  refine th_n (hK2 _ _ ?_)
  clear hK2 K2
  refine wp_seq_k fun K5 hK5 => ?_
  refine D_start 12 17 (fun w => Mod (No) w) follows rfl rfl ?_  -- d1 r3
  intro w3 g3
  replace hA := hA.grow g3
  replace hB := hB.grow g3
  replace G := G.grow g3
  replace B1 := B1.grow g3
  have zg3 := g3.size
  have GS3 := Mod.refl (No) w3
  have B1d3 := B1
  refine Dq (i := 0) rfl GS3 (fun _ hs => Y_loadS Try.underlying32 rfl sz32 rfl (by first | exact hs.cells0 (B1.row (by rfl)))) ?_
  refine Dq (i := 2) rfl GS3 (fun _ _ => Y_field Try.underlying32 rfl fz32_0 (by decide) rfl) ?_
  refine Dq (i := 3) rfl GS3 (fun _ hs => Y_load Try.underlying30 rfl rfl (hs.cell0 (B1.at (by rfl)))) ?_
  refine Dq (i := 4) rfl GS3 (fun _ _ => Y_len Try.underlying30 rfl) ?_
  refine Dq (i := 7) rfl GS3 (fun _ hs => Y_loadS Try.underlying32 rfl sz32 rfl (by first | exact hs.cells0 (B1.row (by rfl)))) ?_
  refine D_1 (i := 1) (by kernel_rfl) ?_
  refine E_call rfl rfl en77 (impl_usedSet_c _ _ _ _ _ _ _ (by assumption) (by omega)) ?_  -- k2 impl.usedSet
  rintro v4 w4 ⟨s4, rfl, hs4, g4⟩
  replace hA := hA.grow g4
  replace hB := hB.grow g4
  replace G := G.grow g4
  replace GS3 := GS3.grow g4
  replace B1 := B1.grow g4
  have zg4 := g4.size
  refine ⟨GS3, ?_⟩
  refine D_1 (i := 5) (by kernel_rfl) ?_
  refine E_call rfl rfl en62 (impl_cellSet_list_c _ _ _ (by first | assumption | exact SetOf.wlt (by assumption)) (by omega)) ?_  -- k3 (impl.cellSet).list
  rintro v5 w5 ⟨b5, rfl, fb5, B5, g5⟩
  replace hA := hA.grow g5
  replace hB := hB.grow g5
  replace G := G.grow g5
  replace GS3 := GS3.grow g5
  replace B1 := B1.grow g5
  have zg5 := g5.size
  have lb5 := B5.lt
  refine ⟨GS3, ?_⟩
  refine D_1 (i := 6) (by kernel_rfl) ?_
  refine E_call rfl rfl en76 (impl_count_c (fun _ => True) _ _ _ _ _ (by first | exact R1.of_blk0 (by assumption) | exact (OI.r1 (by assumption)).weak (fun _ _ => trivial)) (by first | exact listB_len _ _ | exact Eq.symm (by assumption)) (by omega)) ?_  -- k4 impl.count
  rintro v6 w6 ⟨rfl, g6⟩
  replace hA := hA.grow g6
  replace hB := hB.grow g6
  replace G := G.grow g6
  replace GS3 := GS3.grow g6
  replace B1 := B1.grow g6
  replace B5 := B5.grow g6
  have zg6 := g6.size
  refine ⟨GS3, ?_⟩
  refine D_1 (i := 8) (by kernel_rfl) ?_
  refine E_call rfl rfl en23 (impl_Reachable_c _ _ _ _ _ _ _ (by assumption) (by assumption) (by omega)) ?_  -- k5 impl.Reachable
  rintro v7 w7 ⟨A7, q7, cap7, rfl, hq7, O7, g7⟩
  replace hA := hA.grow g7
  replace hB := hB.grow g7
  replace G := G.grow g7
  replace GS3 := GS3.grow g7
  replace B1 := B1.grow g7
  replace B5 := B5.grow g7
  have zg7 := g7.size
  refine ⟨GS3, ?_⟩
  refine D_1 (i := 9) (by kernel_rfl) ?_
  refine E_call rfl rfl en76 (impl_count_c (fun _ => True) _ _ _ _ _ (by first | exact R1.of_blk0 (by assumption) | exact (OI.r1 (by assumption)).weak (fun _ _ => trivial)) (by first | exact listB_len _ _ | exact Eq.symm (by assumption)) (by omega)) ?_  -- k6 impl.count
  rintro v8 w8 ⟨rfl, g8⟩
  replace hA := hA.grow g8
  replace hB := hB.grow g8
  replace O7 := O7.grow g8
  replace G := G.grow g8
  replace GS3 := GS3.grow g8
  replace B1 := B1.grow g8
  replace B5 := B5.grow g8
  have zg8 := g8.size
  refine ⟨GS3, ?_⟩
  refine Dq (i := 10) rfl GS3 (fun _ _ => Y_assign rfl) ?_
  refine Dq (i := 11) rfl GS3 (fun _ _ => Y_assign rfl) ?_
  refine D_en (by kernel_rfl) rfl rfl ?_
  refine th_n (hK5 _ _ ?_)
  clear hK5 K5
  refine wp_ret ?_
  refine ret_r2 rfl rfl rfl ?_  -- r2
  exact ⟨by rw [usedV_t hb1, ← usedL_list (by assumption : SetOf _ (usedL h.cells))], G⟩
end
/-! Slide -/
section
open Go
theorem R1.of_blkE {w : World} {b : Nat} {e : TypeId} {us : List Value} (h : Blk w b e us.toArray) : R1 (fun i => i = b) w (some ⟨b, 0, none⟩) us := R1.of_blk (post := []) (by simpa using h) rfl
/-- Cell n can be reached. -/
def rB (h : LH) (n : Nat) : Bool := decide ((n : Int) ∈ orderL h.cells h.roots nn)
theorem rB_list {h : LH} {m n : Nat} (e : listB m h.cells.length = mB h.cells.length (orderL h.cells h.roots nn)) (hn : n < h.cells.length) : m.testBit n = rB h n := by
  have h1 : (listB m h.cells.length)[n]? = some (m.testBit n) := by simp [listB, hn]
  rw [e, mB_get hn] at h1
  exact (Option.some.inj h1).symm
theorem rB_reach {h : LH} {n : Nat} (hv : validB h = true) (hn : n < h.cells.length) : (reachV h)[n]? = some (rB h n) := by rw [reachV_t hv, mB_get hn]; rfl
theorem used_set {m : Nat} {cs : List LC} (hm : SetOf m (usedL cs)) (n : Nat) : m.testBit n = usedAt cs n := by
  rw [hm.2]
  unfold usedAt usedL
  cases hc : cs[n]? with
  | none => simp [hc]
  | some c => cases hu : c.used <;> simp [hc, hu]
theorem usedAt_at {cs : List LC} {n : Nat} (h : n < cs.length) : usedAt cs n = cs[n].used := by simp [usedAt, h]
def leakP (h : LH) (n : Nat) : Bool := usedAt h.cells n && !rB h n
def leakV (h : LH) : List Int := selL (reachV h).length (leakP h)
theorem leakV_t {h : LH} (hv : validB h = true) : leakV h = selL h.cells.length (leakP h) := by rw [leakV, reachV_len hv]
theorem leakV_f {h : LH} (hv : validB h = false) : leakV h = [] := by rw [leakV, reachV_f hv]; rfl
theorem leakV_len (h : LH) : (leakV h).length ≤ (reachV h).length := selL_le _ _
theorem nameIn_self {N k : Nat} {o : List Int} (hb : Bnd N o) (hk : k < o.length) : nameIn o o[k] = (k : Int) := by
  obtain ⟨n, hn, _, _⟩ := bnd_at hb hk
  rw [hn]
  exact nameIn_at hk (take_notMem hb hk hn) hn
end
/-! Cnt -/
section
open Go
/-- How often each of the first N numbers is in xs. -/
def cntL (N : Nat) (xs : List Int) : List Int := (List.range N).map fun (i : Nat) => ((xs.count (i : Int) : Nat) : Int)
theorem cntL_len (N : Nat) (xs : List Int) : (cntL N xs).length = N := by simp [cntL]
theorem cntL_get {N n : Nat} {xs : List Int} (h : n < N) : (cntL N xs)[n]? = some ((xs.count (n : Int) : Nat) : Int) := by simp [cntL, h]
theorem cntL_zero (N : Nat) : zeros [.int .i64 0] N = ints (cntL N []) := by
  apply List.ext_getElem?
  intro i
  by_cases hi : i < N
  · rw [zeros_get _ (by decide) N i (by simpa using hi), ints_get (cntL_get hi)]
    simp [Nat.mod_one]
  · rw [List.getElem?_eq_none (by rw [zeros_len]; simp; omega), List.getElem?_eq_none (by rw [ints_len, cntL_len]; omega)]
theorem cntL_split {N n : Nat} {xs : List Int} (h : n < N) : ints (cntL N xs) = (ints (cntL N xs)).take n ++ [.int .i64 ((xs.count (n : Int) : Nat) : Int)] ++ (ints (cntL N xs)).drop (n + 1) := split_at (ints_get (cntL_get h))
theorem cntL_set {N n : Nat} {xs : List Int} (h : n < N) : (ints (cntL N xs)).take n ++ [.int .i64 (((xs.count (n : Int) + 1 : Nat)) : Int)] ++ (ints (cntL N xs)).drop (n + 1) = ints (cntL N (xs ++ [(n : Int)])) := by
  apply List.ext_getElem?
  intro i
  have hl : ((ints (cntL N xs)).take n).length = n := by rw [List.length_take, ints_len, cntL_len]; omega
  by_cases h1 : i < n
  · rw [List.append_assoc, List.getElem?_append_left (by omega), List.getElem?_take, if_pos h1, ints_get (cntL_get (by omega)), ints_get (cntL_get (by omega)), List.count_append]
    have : ¬ ((n : Int) = (i : Int)) := by omega
    simp [this]
  · by_cases h2 : i = n
    · subst h2
      rw [List.append_assoc, List.getElem?_append_right (by omega), hl, Nat.sub_self, ints_get (cntL_get h), List.count_append]
      simp
    · rw [List.getElem?_append_right (by rw [List.length_append]; simp; omega), List.getElem?_drop, List.length_append, hl]
      simp only [List.length_cons, List.length_nil]
      rw [show n + 1 + (i - (n + (0 + 1))) = i by omega]
      by_cases h3 : i < N
      · rw [ints_get (cntL_get h3), ints_get (cntL_get h3), List.count_append]
        have : ¬ ((n : Int) = (i : Int)) := by omega
        simp [this]
      · rw [List.getElem?_eq_none (by rw [ints_len, cntL_len]; omega), List.getElem?_eq_none (by rw [ints_len, cntL_len]; omega)]
theorem cntL_neg {N : Nat} {xs : List Int} {x : Int} (h : ¬ 0 ≤ x) : cntL N (xs ++ [x]) = cntL N xs := by
  unfold cntL
  apply List.map_congr_left
  intro i _
  rw [List.count_append]
  have : ¬ (x = (i : Int)) := by omega
  simp [this]
theorem count_le (x : Int) (xs : List Int) : xs.count x ≤ xs.length := List.count_le_length
/-- The references of the first k cells, but those that sk leaves out. -/
def refsUp (cs : List LC) (sk : Nat → Bool) (k : Nat) : List Int := (List.range k).flatMap fun i => if sk i = true then [] else refsOf cs i
theorem refsUp_succ {cs : List LC} {sk : Nat → Bool} {k : Nat} (hk : k < cs.length) (h : sk k = false) : refsUp cs sk (k + 1) = refsUp cs sk k ++ cs[k].refs := by
  unfold refsUp
  rw [List.range_succ, List.flatMap_append]
  simp [h, refsOf_at hk]
theorem refsUp_skip {cs : List LC} {sk : Nat → Bool} {k : Nat} (h : sk k = true) : refsUp cs sk (k + 1) = refsUp cs sk k := by
  unfold refsUp
  rw [List.range_succ, List.flatMap_append]
  simp [h]
theorem refsUp_le {cs : List LC} {sk : Nat → Bool} : ∀ {k : Nat}, k ≤ cs.length → (refsUp cs sk k).length ≤ rsum cs k
  | 0, _ => by simp [refsUp]
  | k + 1, h => by
    have ih := refsUp_le (cs := cs) (sk := sk) (k := k) (by omega)
    cases hs : sk k with
    | true =>
      rw [refsUp_skip hs, rsum_succ (by omega)]
      omega
    | false =>
      rw [refsUp_succ (by omega) hs, rsum_succ (by omega), List.length_append]
      omega
/-- The references of the roots and of the cells, but those that sk leaves out. -/
def refsAll (h : LH) (sk : Nat → Bool) : List Int := h.roots ++ refsUp h.cells sk h.cells.length
def countsV (h : LH) : List Int := if validB h = true then cntL h.cells.length (refsAll h fun _ => false) else []
theorem countsV_t {h : LH} (hv : validB h = true) : countsV h = cntL h.cells.length (refsAll h fun _ => false) := if_pos hv
theorem countsV_f {h : LH} (hv : validB h = false) : countsV h = [] := if_neg (by simp [hv])
theorem countsV_len (h : LH) : (countsV h).length ≤ h.cells.length := by
  unfold countsV
  split
  · rw [cntL_len]; exact Nat.le_refl _
  · simp
end
/-! View -/
section
open Go
def cvalB (h : LH) (xs : List Int) : Bool := validB h && decide (xs = countsV h)
theorem cvalB_f {h : LH} {xs : List Int} (hv : validB h = false) : cvalB h xs = false := by simp [cvalB, hv]
theorem cvalB_t {h : LH} {xs : List Int} (hv : validB h = true) : cvalB h xs = decide (xs = countsV h) := by simp [cvalB, hv]
theorem leads_one {h : LH} {n : Nat} (v : Valid h) (hn : n < h.cells.length) : Leads h.cells [(n : Int)] nn := ⟨fun x hx _ => by simp at hx; omega, v.leads.2⟩
theorem leadsU_one {h : LH} {n : Nat} (v : Valid h) (hu : usedAt h.cells n = true) : LeadsU h.cells [(n : Int)] := ⟨fun x hx => by
  simp only [List.mem_singleton] at hx
  subst hx
  simp [leadsB, hu], v.leadsU.2⟩
/-- The view after k cells. -/
def viewK (cs : List LC) (roots o : List Int) (k : Nat) : List Int := roots.map (nameIn o) ++ (o.take k).flatMap (seen1 cs o)
theorem viewK_zero (cs : List LC) (roots o : List Int) : viewK cs roots o 0 = roots.map (nameIn o) := by simp [viewK]
theorem viewK_succ {cs : List LC} {roots o : List Int} {k n : Nat} (hk : k < o.length) (hn : o[k] = (n : Int)) (hN : n < cs.length) : viewK cs roots o (k + 1) = viewK cs roots o k ++ [cs[n].data, (cs[n].refs.length : Int)] ++ cs[n].refs.map (nameIn o) := by
  unfold viewK
  rw [List.take_succ_eq_append_getElem hk, List.flatMap_append, hn]
  simp [seen1_at hN]
theorem viewK_all {cs : List LC} {roots o : List Int} {k : Nat} (h : o.length ≤ k) : viewK cs roots o k = viewL cs roots o := by
  unfold viewK viewL
  rw [List.take_of_length_le h]
theorem viewK_len {h : LH} (v : Valid h) {o : List Int} (hb : Bnd h.cells.length o) : ∀ {k : Nat}, k ≤ o.length → (viewK h.cells h.roots o k).length ≤ 4 + 5 * k
  | 0, _ => by rw [viewK_zero, List.length_map, v.roots4]; omega
  | k + 1, hk => by
    obtain ⟨n, hn, hN, _⟩ := bnd_at hb (by omega : k < o.length)
    have := viewK_len v hb (k := k) (by omega)
    have h3 := v.refs3 hN
    rw [viewK_succ (by omega) hn hN]
    simp
    omega
theorem viewV_len (h : LH) : (viewV h).length ≤ 204 := by
  cases hv : validB h with
  | true =>
    have v := valid_iff.1 hv
    have hb := orderL_bnd v.leads
    have h1 := hb.len
    have h2 := v.le
    rw [viewV_t hv, ← viewK_all (Nat.le_refl _)]
    have := viewK_len v hb (Nat.le_refl _)
    omega
  | false => rw [viewV_f hv]; simp
theorem valid_refs {h : LH} (v : Valid h) {n : Nat} (hn : n < h.cells.length) : ∀ x ∈ h.cells[n].refs, x = -1 ∨ (0 ≤ x ∧ x < (h.cells.length : Int)) := fun x hx => by
  have h1 := v.refs hn x hx
  by_cases h0 : 0 ≤ x
  · exact .inr ⟨h0, leadsB_lt h1 h0⟩
  · left
    unfold leadsB at h1
    simp [h0] at h1
    exact h1
theorem valid_roots {h : LH} (v : Valid h) : ∀ x ∈ h.roots, x = -1 ∨ (0 ≤ x ∧ x < (h.cells.length : Int)) := fun x hx => by
  have h1 := v.roots x hx
  by_cases h0 : 0 ≤ x
  · exact .inr ⟨h0, leadsB_lt h1 h0⟩
  · left
    unfold leadsB at h1
    simp [h0] at h1
    exact h1
theorem app2 (xs : List Int) (a b : Int) : ints xs ++ [.int .i64 a, .int .i64 b] = ints (xs ++ [a, b]) := by simp [ints]
theorem ints_apps (xs ys : List Int) : ints xs ++ ints ys = ints (xs ++ ys) := by simp [ints]
def sameV (a b : LH) : Bool := validB a && (validB b && decide (viewV a = viewV b))
theorem sameV_t {a b : LH} (ha : validB a = true) (hb : validB b = true) : sameV a b = decide (viewV a = viewV b) := by simp [sameV, ha, hb]
theorem sameV_f1 {a b : LH} (ha : validB a = false) : sameV a b = false := by simp [sameV, ha]
theorem sameV_f2 {a b : LH} (hb : validB b = false) : sameV a b = false := by simp [sameV, hb]
end
/-! Grow -/
section
open Go Go.RowKit
section
variable {Pr Pr' S : Nat → Prop} {w w' : World} {e : TypeId} {s n cap : Nat} {A : Option Addr} {us : List Value}
theorem OW.self (h : OW Pr w e s A n cap us) : OW (fun i => A = some ⟨i, 0, none⟩) w e s A n cap us := by
  refine ⟨h.1, ?_⟩
  rcases h.2 with a | ⟨g, cur, h1, _, h3⟩
  · exact .inl a
  · exact .inr ⟨g, cur, h1, h1, h3⟩
theorem OW.pr (h : OW Pr w e s A n cap us) {b : Nat} (hA : A = some ⟨b, 0, none⟩) : Pr b := by
  rcases h.2 with ⟨h1, _⟩ | ⟨g, cur, h1, h2, _⟩
  · rw [hA] at h1; cases h1
  · rw [hA] at h1
    cases h1
    exact h2
theorem OW.isBlk (h : OW Pr w e s A n cap us) {b : Nat} (hA : A = some ⟨b, 0, none⟩) : ∃ cur, Blk w b e cur := by
  rcases h.2 with ⟨h1, _⟩ | ⟨g, cur, h1, _, h3, _⟩
  · rw [hA] at h1; cases h1
  · rw [hA] at h1
    cases h1
    exact ⟨cur, h3⟩
/-- A row that was made with room, and no element. -/
theorem OW.room {b : Nat} {z : List Value} (h : Blk w b e (zeros z cap).toArray) (hz : z.length = s) (hn : cap ≤ maxLen) (hp : Pr b) : OW Pr w e s (some ⟨b, 0, none⟩) 0 cap [] :=
  ⟨by simp, .inr ⟨b, _, rfl, hp, h, Nat.zero_le _, hn, by simp [zeros_len, hz], by simp⟩⟩
end
section
variable {P : Program} {ops : Array Oper} {Q : Exit → Act → World → Prop} {S : World → Prop} {rest : List Oper} {fuel : Nat} {lst : List Bool} {F : Fr} {D : List Deferred} {w : World}
  {d : Tmp} {ty : TypeId} {pos : String} {af : Array Edge} {e t : TypeId} {x y : Operand} {zv : Value} {s by_ n cap m c i : Nat} {A A2 : Option Addr} {us news : List Value} {Pr Pr' : Nat → Prop}
theorem Y_app2 (ht : P.underlying t = some (.slice e)) (hz : zr P e = some zv) (hs : sz P e = some s) (hb : byt P e = some by_) (hx : ev F x = some (.slice A n cap)) (hy : ev F y = some (.slice A2 m c))
    (O : OW Pr w e s A n cap us) (hl : news.length = m * s) (hsrc : Src w A2 m news) (h1 : ∀ u ∈ news, u.oneCell' = true) (hlen : n + m ≤ 1099511627776)
    (hp : ∀ k, Pr k → Pr' k) (hn : Pr' w.heap.size) (hzs : zv.cells.size = s) (h0 : 0 < s) (h9 : by_ ≤ 100) :
    ∃ A' cap' w', Yl P F (.call ⟨.builtin .append, #[x, y], #[t, t]⟩) (.slice A' (n + m) cap') w w' ∧ OW Pr' w' e s A' (n + m) cap' (us ++ news) ∧ Mod Pr w w' ∧ Mod (fun i => A = some ⟨i, 0, none⟩) w w' := by
  obtain ⟨A', cap', w', hy', ho, hm⟩ := Y_app (Pr' := fun i => A = some ⟨i, 0, none⟩ ∨ i = w.heap.size) ht hz hs hb hx hy O.self hl hsrc h1 hlen (fun _ h => .inl h) (.inr rfl) hzs h0 h9
  exact ⟨A', cap', w', hy', ho.weak (fun k hk => hk.elim (fun h => hp k (O.pr h)) (fun h => h ▸ hn)), hm.weak (fun k hk _ => O.pr hk), hm⟩
theorem S_app2 (ht : P.underlying t = some (.slice e)) (hz : zr P e = some zv) (hs : sz P e = some s) (hb : byt P e = some by_) (hx : ev F x = some (.slice A n cap)) (hy : ev F y = some (.slice A2 m c))
    (O : OW Pr w e s A n cap us) (hl : news.length = m * s) (hsrc : Src w A2 m news) (h1 : ∀ u ∈ news, u.oneCell' = true) (hlen : n + m ≤ 1099511627776)
    (hp : ∀ k, Pr k → Pr' k) (hn : Pr' w.heap.size)
    (k : ∀ A' cap' w', OW Pr' w' e s A' (n + m) cap' (us ++ news) → Mod Pr w w' → Mod (fun i => A = some ⟨i, 0, none⟩) w w' → wpList P ops Q rest ⟨(F.put d (.slice A' (n + m) cap')).list.toArray, D⟩ w') (hzs : zv.cells.size = s := by rfl) (h0 : 0 < s := by decide) (h9 : by_ ≤ 100 := by decide) :
    wpList P ops Q (⟨some d, .call ⟨.builtin .append, #[x, y], #[t, t]⟩, ty, pos, af, none⟩ :: rest) ⟨F.list.toArray, D⟩ w := by
  obtain ⟨A', cap', w', hy', ho, hm, hm2⟩ := Y_app2 ht hz hs hb hx hy O hl hsrc h1 hlen hp hn hzs h0 h9
  exact S_val hy' (k _ _ _ ho hm hm2)
theorem E_app2 (hi : ops[i]? = some ⟨some d, .call ⟨.builtin .append, #[x, y], #[t, t]⟩, ty, pos, af, none⟩) (ht : P.underlying t = some (.slice e)) (hz : zr P e = some zv) (hs : sz P e = some s) (hb : byt P e = some by_) (hx : ev F x = some (.slice A n cap)) (hy : ev F y = some (.slice A2 m c))
    (O : OW Pr w e s A n cap us) (hl : news.length = m * s) (hsrc : Src w A2 m news) (h1 : ∀ u ∈ news, u.oneCell' = true) (hlen : n + m ≤ 1099511627776)
    (hp : ∀ k, Pr k → Pr' k) (hn : Pr' w.heap.size)
    (k : ∀ A' cap' w', OW Pr' w' e s A' (n + m) cap' (us ++ news) → Mod Pr w w' → Mod (fun i => A = some ⟨i, 0, none⟩) w w' → S w' ∧ wpAnyH P .any ops Q S fuel (lst.set i true).toArray ⟨(F.put d (.slice A' (n + m) cap')).list.toArray, D⟩ w') (hzs : zv.cells.size = s := by rfl) (h0 : 0 < s := by decide) (h9 : by_ ≤ 100 := by decide) :
    dOp P ops Q S fuel lst ⟨F.list.toArray, D⟩ w i := by
  obtain ⟨A', cap', w', hy', ho, hm, hm2⟩ := Y_app2 ht hz hs hb hx hy O hl hsrc h1 hlen hp hn hzs h0 h9
  have h := k _ _ _ ho hm hm2
  exact E_val hi hy' h.1 h.2
end
section
variable {Pr Pr' Pc : Nat → Prop} {w w' : World} {eC eI : TypeId} {cs : List LC} {rs : List (Option Addr × Nat)} {s n cap : Nat} {A : Option Addr} {us : List Value}
/-- The row of cells was made longer: the rows of references are as before. -/
theorem ORs.app (h : ORs Pr w eI cs rs) (O : OW Pc w eC s A n cap us) (hne : eC ≠ eI) (m : Mod (fun i => A = some ⟨i, 0, none⟩) w w') : ORs Pr w' eI cs rs :=
  ⟨h.len, fun j x q hx hq hn => by
    obtain ⟨b, post, hA, hp, hB⟩ := h.own j x q hx hq hn
    exact ⟨b, post, hA, hp, hB.mod m (fun e0 => by
      obtain ⟨cur, hc⟩ := O.isBlk e0
      exact hc.ne hB hne rfl)⟩, h.far⟩
theorem OI.app {B : Option Addr} {xs : List Value} (h : OI Pr w eI B xs) (O : OW Pc w eC s A n cap us) (hne : eC ≠ eI) (m : Mod (fun i => A = some ⟨i, 0, none⟩) w w') : OI Pr w' eI B xs :=
  h.keep m (fun b hb hn e0 => by
    obtain ⟨cur, hc⟩ := O.isBlk e0
    obtain ⟨b', _, e1, _, hB⟩ := h hn
    rw [hb] at e1
    cases e1
    exact hc.ne hB hne rfl)
/-- One more cell. -/
theorem ORs.more {c : LC} {B : Option Addr} {q bc lo : Nat} (h : ORs Pr w eI cs rs) (hr : OW (fun i => lo ≤ i) w eI 1 B q bc (ints c.refs)) (hp : ∀ k, Pr k → k < lo) (hw : ∀ k, Pr k → Pr' k) (hl : ∀ k, lo ≤ k → Pr' k) : ORs Pr' w eI (cs ++ [c]) (rs ++ [(B, bc)]) :=
  h.snoc (hr.oi.weak hl) hw (fun k b hk hB e => by
    have h1 := hp k hk
    have h2 : lo ≤ b := hr.pr hB
    omega)
theorem flat_more {c : LC} {B : Option Addr} {bc : Nat} (h : rs.length = cs.length) : flatC cs rs ++ [.bool c.used, .int .i64 c.data, .slice B c.refs.length bc] = flatC (cs ++ [c]) (rs ++ [(B, bc)]) := by
  rw [flatC_app h]
  rfl
theorem OC.grown (O : OW Pc w eC 3 A cs.length cap (flatC cs rs)) (h : ORs Pr w eI cs rs) (h1 : ∀ k, Pc k → Pr' k) (h2 : ∀ k, Pr k → Pr' k) : OC Pr' w eC eI A cs rs :=
  ⟨h.weak h2, fun hn => by
    obtain ⟨b, post, hA, hp, hB⟩ := O.blk (fun e => by
      have := congrArg List.length e
      rw [flatC_len h.len] at this
      simp only [List.length_nil] at this
      exact hn (List.eq_nil_of_length_eq_zero (by omega)))
    exact ⟨b, post, hA, h1 b hp, hB⟩⟩
end
/-- The heap that has the cells o, in this order. -/
def gcell (cs : List LC) (o : List Int) (x : Int) : LC := match cs[x.toNat]? with
  | some c => ⟨true, c.data, c.refs.map (nameIn o)⟩
  | none => ⟨true, 0, []⟩
theorem gcell_at {cs : List LC} {o : List Int} {n : Nat} (h : n < cs.length) : gcell cs o (n : Int) = ⟨true, cs[n].data, cs[n].refs.map (nameIn o)⟩ := by simp [gcell, h]
def gathH (h : LH) (o : List Int) : LH := ⟨o.map (gcell h.cells o), h.roots.map (nameIn o)⟩
theorem gath_succ {h : LH} {o : List Int} {k n : Nat} (hk : k < o.length) (hn : o[k] = (n : Int)) (hN : n < h.cells.length) : (o.take (k + 1)).map (gcell h.cells o) = (o.take k).map (gcell h.cells o) ++ [⟨true, h.cells[n].data, h.cells[n].refs.map (nameIn o)⟩] := by
  rw [List.take_succ_eq_append_getElem hk, List.map_append, hn, List.map_singleton, gcell_at hN]
theorem rsum_le3 : ∀ (cs : List LC) (k : Nat), (∀ c ∈ cs, c.refs.length ≤ 3) → rsum cs k ≤ 3 * k
  | cs, 0, _ => by simp [rsum]
  | cs, k + 1, h => by
    have ih := rsum_le3 cs k h
    by_cases hk : k < cs.length
    · rw [rsum_succ hk]
      have := h cs[k] (List.getElem_mem hk)
      omega
    · have e : rsum cs (k + 1) = rsum cs k := by
        unfold rsum
        rw [List.take_of_length_le (by omega), List.take_of_length_le (by omega)]
      omega
theorem hsize_small {h : LH} (h1 : h.cells.length ≤ 40) (h2 : ∀ c ∈ h.cells, c.refs.length ≤ 3) (h3 : h.roots.length ≤ 4) : hsize h ≤ 200 := by
  have := rsum_le3 h.cells h.cells.length h2
  unfold hsize
  omega
theorem Valid.small {h : LH} (v : Valid h) : hsize h ≤ 200 := hsize_small v.le (fun c hc => by
  obtain ⟨n, hn, rfl⟩ := List.getElem_of_mem hc
  exact v.refs3 hn) (by rw [v.roots4]; omega)
theorem gath_small {h : LH} (v : Valid h) {o : List Int} (hb : Bnd h.cells.length o) : hsize (gathH h o) ≤ 200 := by
  have hl := hb.len
  have h40 := v.le
  refine hsize_small (by simp [gathH]; omega) (fun c hc => ?_) (by simp [gathH, v.roots4])
  simp only [gathH, List.mem_map] at hc
  obtain ⟨x, hx, rfl⟩ := hc
  have h0 := hb.2 x hx
  obtain ⟨n, rfl⟩ := Int.eq_ofNat_of_zero_le h0.1
  have hn : n < h.cells.length := by omega
  rw [gcell_at hn]
  simp
  exact v.refs3 hn
def nilH : LH := ⟨[], []⟩
theorem OH.nil (Pr : Nat → Prop) (w : World) (eC eI : TypeId) (A B : Option Addr) : OH Pr w eC eI A B nilH [] := ⟨OC.nil _ _ _ _ _, OI.nil _ _ _ _, fun i c r h => by simp [nilH] at h⟩
def copyV (h : LH) : LH := if validB h = true then gathH h (orderL h.cells h.roots nn) else nilH
theorem copyV_t {h : LH} (hv : validB h = true) : copyV h = gathH h (orderL h.cells h.roots nn) := if_pos hv
theorem copyV_f {h : LH} (hv : validB h = false) : copyV h = nilH := if_neg (by simp [hv])
theorem copyV_small (h : LH) : hsize (copyV h) ≤ 200 := by
  cases hv : validB h with
  | true => rw [copyV_t hv]; exact gath_small (valid_iff.1 hv) (orderL_bnd (valid_iff.1 hv).leads)
  | false => rw [copyV_f hv]; decide
end
/-! Trial -/
section
open Go
/-- The place says yes. -/
def inB (bs : List Bool) (i : Nat) : Bool := bs[i]? == some true
theorem inB_at {bs : List Bool} {k : Nat} (h : k < bs.length) : inB bs k = bs[k] := by
  unfold inB
  rw [List.getElem?_eq_getElem h]
  cases bs[k] <;> rfl
/-- The first k cells that are in the set are used. -/
def insU (cs : List LC) (bs : List Bool) (k : Nat) : Bool := (List.range k).all fun i => !inB bs i || usedAt cs i
theorem set_in {m : Nat} {bs : List Bool} (h : SetOf m bs) : (fun i => m.testBit i) = inB bs := by
  funext i
  rw [h.2]
  rfl
end
/-! Dead -/
section
open Go
def fromM (h : LH) (n : Nat) : List Bool := mB h.cells.length (orderL h.cells [(n : Int)] nn)
theorem fromM_len (h : LH) (n : Nat) : (fromM h n).length = h.cells.length := mB_len _ _
/-- A cell of the set is held from outside. -/
def heldP (h : LH) (n k : Nat) : Bool := inB (fromM h n) k && decide (0 < (((refsAll h (inB (fromM h n))).count (k : Int) : Nat) : Int))
def heldL (h : LH) (n : Nat) : List Int := selL h.cells.length (heldP h n)
def deadP (h : LH) (n k : Nat) : Bool := inB (fromM h n) k && !decide ((k : Int) ∈ orderL h.cells (heldL h n) nn)
theorem fromM_get {h : LH} {n i : Nat} (hi : i < h.cells.length) : (fromM h n)[i]? = some (decide ((i : Int) ∈ orderL h.cells [(n : Int)] nn)) := mB_get hi
theorem fromM_set {h : LH} {n m u : Nat} (va : Valid h) (hnN : n < h.cells.length) (hun : usedAt h.cells n = true) (hm : m < 2 ^ 64) (hu : SetOf u (usedL h.cells)) (hr : ∀ i, m.testBit i = true ↔ Rch h.cells [(n : Int)] (hasB u) i) : SetOf m (fromM h n) :=
  ⟨hm, fun i => by
    rw [Bool.eq_iff_iff, hr, rch_used (leadsU_one va hun) hu]
    by_cases hi : i < h.cells.length
    · rw [fromM_get hi, ← orderL_mem (leads_one va hnN)]
      simp
    · rw [List.getElem?_eq_none (by rw [fromM_len]; omega)]
      constructor
      · intro hh
        exact absurd (hh.lt (leads_one va hnN)) hi
      · intro hh
        cases hh⟩
theorem from_iff {h : LH} {n m : Nat} (va : Valid h) (hnN : n < h.cells.length) (hm : SetOf m (fromM h n)) (i : Nat) : m.testBit i = true ↔ Rch h.cells [(n : Int)] nn i := by
  rw [hm.2]
  by_cases hi : i < h.cells.length
  · rw [fromM_get hi, ← orderL_mem (leads_one va hnN)]
    simp
  · rw [List.getElem?_eq_none (by rw [fromM_len]; omega)]
    constructor
    · intro hh
      cases hh
    · intro hh
      exact absurd (hh.lt (leads_one va hnN)) hi
theorem from_lt {h : LH} {n m : Nat} (hm : SetOf m (fromM h n)) : ∀ i, m.testBit i = true → i < h.cells.length := fun i hi => by
  rw [hm.2] at hi
  by_cases hl : i < h.cells.length
  · exact hl
  · rw [List.getElem?_eq_none (by rw [fromM_len]; omega)] at hi
    cases hi
theorem heldL_leads {h : LH} (va : Valid h) (n : Nat) : Leads h.cells (heldL h n) nn := ⟨fun x hx _ => by
  obtain ⟨k, rfl, hk, _⟩ := selL_mem.1 hx
  omega, va.leads.2⟩
theorem Rch.good {cs : List LC} {fr : List Int} {ok : Int → Bool} {n : Nat} (h : Rch cs fr ok n) : ok (n : Int) = true := by
  cases h with
  | root _ h2 => exact h2
  | step _ _ h2 => exact h2
theorem held_rch {h : LH} {n m : Nat} (va : Valid h) (hnN : n < h.cells.length) (hm : SetOf m (fromM h n)) {i : Nat} : Rch h.cells (heldL h n) (hasB m) i ↔ Rch h.cells (heldL h n) nn i := by
  constructor
  · intro hh
    induction hh with
    | root h1 h2 => exact .root h1 (by simp [nn])
    | step _ h1 h2 ih => exact .step ih h1 (by simp [nn])
  · intro hh
    induction hh with
    | root h1 h2 =>
      refine .root h1 ?_
      obtain ⟨k, hk, _, hp⟩ := selL_mem.1 h1
      have hk' := Int.ofNat.inj hk
      subst hk'
      unfold heldP at hp
      rw [Bool.and_eq_true] at hp
      rw [hasB_nat, ← hp.1]
      exact congrFun (set_in hm) _
    | step _ h1 h2 ih =>
      refine .step ih h1 ?_
      have hg := ih.good
      rw [hasB_nat] at hg ⊢
      exact (from_iff va hnN hm _).2 (.step ((from_iff va hnN hm _).1 hg) h1 (by simp [nn]))
theorem dead_bits {h : LH} {n m m2 : Nat} (va : Valid h) (hnN : n < h.cells.length) (hm : SetOf m (fromM h n)) (h2 : m2 < 2 ^ 64) (hr : ∀ i, m2.testBit i = true ↔ Rch h.cells (heldL h n) (hasB m) i) (i : Nat) : (lessN m m2).testBit i = deadP h n i := by
  rw [lessN_bit hm.1 h2, congrFun (set_in hm) i]
  unfold deadP
  have : m2.testBit i = decide ((i : Int) ∈ orderL h.cells (heldL h n) nn) := by
    rw [Bool.eq_iff_iff, hr, held_rch va hnN hm, decide_eq_true_eq, orderL_mem (heldL_leads va n)]
  rw [this]
theorem from_insU {h : LH} {n : Nat} (va : Valid h) (hnN : n < h.cells.length) (hun : usedAt h.cells n = true) : insU h.cells (fromM h n) h.cells.length = true := by
  unfold insU
  rw [List.all_eq_true]
  intro i hi
  have hi' : i < h.cells.length := by simpa using hi
  cases hb : inB (fromM h n) i with
  | false => rfl
  | true =>
    have h1 : (i : Int) ∈ orderL h.cells [(n : Int)] nn := by
      unfold inB at hb
      rw [fromM_get hi'] at hb
      simpa using hb
    have h2 := (orderL_mem (leads_one va hnN)).1 h1
    have hl := leadsU_one va hun
    have h3 : usedAt h.cells i = true := by
      cases h2 with
      | root h4 _ => exact leadsB_used (hl.1 _ h4)
      | step _ h4 _ => exact leadsB_used (hl.2 _ _ h4)
    simp [h3]
end
/-! Sweep -/
section
open Go Go.RowKit
def emptyC : LC := ⟨false, 0, []⟩
/-- The cells of p are freed. -/
def dropC (cs : List LC) (p : Nat → Bool) : List LC := (List.range cs.length).map fun k => match cs[k]? with
  | some c => if p k = true then emptyC else c
  | none => emptyC
theorem dropC_len (cs : List LC) (p : Nat → Bool) : (dropC cs p).length = cs.length := by simp [dropC]
theorem dropC_get {cs : List LC} {p : Nat → Bool} {k : Nat} (hk : k < cs.length) : (dropC cs p)[k]? = some (if p k = true then emptyC else cs[k]) := by simp [dropC, hk]
theorem dropC_at {cs : List LC} {p : Nat → Bool} {k : Nat} (hk : k < (dropC cs p).length) : (dropC cs p)[k] = if p k = true then emptyC else cs[k]'(by rw [dropC_len] at hk; exact hk) := by
  have h1 : k < cs.length := by rw [dropC_len] at hk; exact hk
  have h2 := dropC_get (p := p) h1
  rw [List.getElem?_eq_getElem hk] at h2
  exact Option.some.inj h2
theorem dropC_ext {cs : List LC} {p q : Nat → Bool} (h : ∀ (k : Nat) (hk : k < cs.length), (if p k = true then emptyC else cs[k]) = (if q k = true then emptyC else cs[k])) : dropC cs p = dropC cs q := by
  apply List.ext_getElem?
  intro i
  by_cases hi : i < cs.length
  · rw [dropC_get hi, dropC_get hi, h i hi]
  · rw [List.getElem?_eq_none (by rw [dropC_len]; omega), List.getElem?_eq_none (by rw [dropC_len]; omega)]
theorem dropC_none {cs : List LC} {p : Nat → Bool} (h : ∀ k, k < cs.length → p k = false) : dropC cs p = cs := by
  apply List.ext_getElem?
  intro i
  by_cases hi : i < cs.length
  · rw [dropC_get hi, h i hi, List.getElem?_eq_getElem hi]
    rfl
  · rw [List.getElem?_eq_none (by rw [dropC_len]; omega), List.getElem?_eq_none (by omega)]
/-- The first k cells are looked at. -/
def dropK (cs : List LC) (p : Nat → Bool) (k : Nat) : List LC := dropC cs fun i => p i && decide (i < k)
theorem dropK_len (cs : List LC) (p : Nat → Bool) (k : Nat) : (dropK cs p k).length = cs.length := dropC_len _ _
theorem dropK_zero (cs : List LC) (p : Nat → Bool) : dropK cs p 0 = cs := dropC_none (by simp)
theorem dropK_all {cs : List LC} {p : Nat → Bool} {k : Nat} (hk : cs.length ≤ k) : dropK cs p k = dropC cs p := dropC_ext (fun i hi => by
  have : i < k := by omega
  simp [this])
theorem dropK_get {cs : List LC} {p : Nat → Bool} {k : Nat} (hk : k < cs.length) : (dropK cs p k)[k]? = some cs[k] := by
  unfold dropK
  rw [dropC_get hk]
  simp
theorem dropK_yes {cs : List LC} {p : Nat → Bool} {k : Nat} (hk : k < cs.length) (hp : p k = true) : (dropK cs p k).set k emptyC = dropK cs p (k + 1) := by
  apply List.ext_getElem?
  intro i
  rw [List.getElem?_set]
  by_cases hi : i < cs.length
  · by_cases h2 : k = i
    · subst h2
      rw [if_pos rfl, if_pos (by rw [dropK_len]; exact hk)]
      unfold dropK
      rw [dropC_get hi]
      simp [hp]
    · rw [if_neg h2]
      unfold dropK
      rw [dropC_get hi, dropC_get hi]
      have : (decide (i < k) : Bool) = decide (i < k + 1) := by
        rw [decide_eq_decide]
        omega
      rw [this]
  · rw [if_neg (by omega), List.getElem?_eq_none (by rw [dropK_len]; omega), List.getElem?_eq_none (by rw [dropK_len]; omega)]
theorem dropK_no {cs : List LC} {p : Nat → Bool} {k : Nat} (hp : p k = false) : dropK cs p (k + 1) = dropK cs p k := dropC_ext (fun i hi => by
  by_cases h2 : i = k
  · subst h2
    simp [hp]
  · have : (decide (i < k + 1) : Bool) = decide (i < k) := by
      rw [decide_eq_decide]
      omega
    rw [this])
def dropH (h : LH) (p : Nat → Bool) : LH := ⟨dropC h.cells p, h.roots⟩
theorem usedAt_drop {cs : List LC} {p : Nat → Bool} (n : Nat) : usedAt (dropC cs p) n = (usedAt cs n && !p n) := by
  by_cases hn : n < cs.length
  · unfold usedAt
    rw [dropC_get hn, List.getElem?_eq_getElem hn]
    cases hp : p n <;> simp [emptyC]
  · unfold usedAt
    rw [List.getElem?_eq_none (by rw [dropC_len]; omega), List.getElem?_eq_none (by omega)]
    rfl
theorem refsOf_drop {cs : List LC} {p : Nat → Bool} (n : Nat) : refsOf (dropC cs p) n = if p n = true then [] else refsOf cs n := by
  by_cases hn : n < cs.length
  · unfold refsOf
    rw [dropC_get hn, List.getElem?_eq_getElem hn]
    cases hp : p n <;> simp [emptyC]
  · unfold refsOf
    rw [List.getElem?_eq_none (by rw [dropC_len]; omega), List.getElem?_eq_none (by omega)]
    simp
theorem leadsB_drop {cs : List LC} {p : Nat → Bool} {r : Int} (hr : leadsB cs r = true) : leadsB (dropC cs p) r = true ↔ ¬ (0 ≤ r ∧ p r.toNat = true) := by
  unfold leadsB at *
  rw [usedAt_drop]
  by_cases h0 : 0 ≤ r
  · have h1 : ¬ r = -1 := by omega
    simp only [h1, h0, decide_false, decide_true, Bool.false_or, Bool.true_and] at hr ⊢
    rw [hr]
    cases p r.toNat <;> simp
  · simp only [h0, decide_false, Bool.false_and, Bool.or_false, decide_eq_true_eq] at hr ⊢
    simp [hr]
/-- No root, and no cell that stays, refers to a cell that is freed. -/
def Keeps (h : LH) (p : Nat → Bool) : Prop := (∀ r ∈ h.roots, ¬ (0 ≤ r ∧ p r.toNat = true)) ∧ ∀ n, p n = false → ∀ r ∈ refsOf h.cells n, ¬ (0 ≤ r ∧ p r.toNat = true)
theorem emptyC_ok (cs : List LC) : okP cs emptyC := ⟨fun h => (by cases h), fun _ => ⟨rfl, rfl⟩⟩
theorem valid_drop {h : LH} (v : Valid h) (p : Nat → Bool) : validB (dropH h p) = true ↔ Keeps h p := by
  rw [valid_iff]
  constructor
  · intro vd
    refine ⟨fun r hr => (leadsB_drop (v.roots r hr)).1 (vd.roots r hr), fun n hn r hr => ?_⟩
    have h1 := v.leadsU.2 n r hr
    have h2 := vd.leadsU.2 n r (by show r ∈ refsOf (dropC h.cells p) n; rw [refsOf_drop, if_neg (by simp [hn])]; exact hr)
    exact (leadsB_drop h1).1 h2
  · intro k
    refine ⟨by show (dropC h.cells p).length ≤ 40; rw [dropC_len]; exact v.le, v.roots4, fun n hn => ?_, fun r hr => (leadsB_drop (v.roots r hr)).2 (k.1 r hr)⟩
    have hn2 : n < (dropC h.cells p).length := hn
    have hn' : n < h.cells.length := by rwa [dropC_len] at hn2
    show okP (dropC h.cells p) ((dropC h.cells p)[n]'hn2)
    rw [dropC_at]
    split
    · exact emptyC_ok _
    · rename_i hp
      have ho := v.cells n hn'
      refine ⟨fun hu => ?_, ho.2⟩
      obtain ⟨h1, h2⟩ := ho.1 hu
      refine ⟨List.all_eq_true.2 fun r hr => ?_, h2⟩
      exact (leadsB_drop (List.all_eq_true.1 h1 r hr)).2 (k.2 n (by simpa using hp) r (by rw [refsOf_at hn']; exact hr))
theorem valid_empty {h : LH} (v : Valid h) {n : Nat} (hn : n < h.cells.length) (hu : h.cells[n].used = false) : h.cells[n] = emptyC := by
  have := (v.cells n hn).2 hu
  have h2 := List.eq_nil_of_length_eq_zero this.2
  revert hu this h2
  generalize h.cells[n] = c
  intro hu h1 h2
  cases c
  simp_all [emptyC]
/-- To free the unused ones too changes nothing. -/
theorem dropC_used {h : LH} (v : Valid h) (p : Nat → Bool) : dropC h.cells p = dropC h.cells fun i => usedAt h.cells i && p i := dropC_ext (fun k hk => by
  rw [usedAt_at hk]
  cases hu : h.cells[k].used with
  | true => simp
  | false => rw [valid_empty v hk hu]; simp)
/-- What was freed: how many of the first k. -/
def cntP (p : Nat → Bool) (k : Nat) : Nat := (List.range k).countP p
theorem cntP_yes {p : Nat → Bool} {k : Nat} (h : p k = true) : cntP p (k + 1) = cntP p k + 1 := by simp [cntP, List.range_succ, h]
theorem cntP_no {p : Nat → Bool} {k : Nat} (h : p k = false) : cntP p (k + 1) = cntP p k := by simp [cntP, List.range_succ, h]
theorem cntP_le (p : Nat → Bool) (k : Nat) : cntP p k ≤ k := by
  have := List.countP_le_length (p := p) (l := List.range k)
  simpa [cntP] using this
theorem cntP_congr {p q : Nat → Bool} {k : Nat} (h : ∀ i, i < k → p i = q i) : cntP p k = cntP q k := by
  unfold cntP
  apply List.countP_congr
  intro i hi
  rw [h i (by simpa using hi)]
/-- r leads to a used cell that is not in s. -/
def outR (cs : List LC) (s : Nat → Bool) (r : Int) : Bool := decide (0 ≤ r) && (usedAt cs r.toNat && !s r.toNat)
/-- The references of the cells of s among the first k. -/
def keptL (cs : List LC) (s : Nat → Bool) (k : Nat) : List (List Int) := (List.range k).flatMap fun i => if s i = true then [refsOf cs i] else []
theorem keptL_yes {cs : List LC} {s : Nat → Bool} {k : Nat} (h : s k = true) : keptL cs s (k + 1) = keptL cs s k ++ [refsOf cs k] := by simp [keptL, List.range_succ, h]
theorem keptL_no {cs : List LC} {s : Nat → Bool} {k : Nat} (h : s k = false) : keptL cs s (k + 1) = keptL cs s k := by simp [keptL, List.range_succ, h]
theorem keptL_len (cs : List LC) (s : Nat → Bool) : ∀ k, (keptL cs s k).length ≤ k
  | 0 => by simp [keptL]
  | k + 1 => by
    have := keptL_len cs s k
    cases h : s k with
    | true => rw [keptL_yes h]; simp; omega
    | false => rw [keptL_no h]; omega
theorem keptL_mem {cs : List LC} {s : Nat → Bool} {k : Nat} {xs : List Int} : xs ∈ keptL cs s k ↔ ∃ i, i < k ∧ s i = true ∧ xs = refsOf cs i := by
  unfold keptL
  rw [List.mem_flatMap]
  constructor
  · rintro ⟨i, hi, hx⟩
    split at hx
    · rename_i hs
      exact ⟨i, by simpa using hi, hs, by simpa using hx⟩
    · cases hx
  · rintro ⟨i, hi, hs, rfl⟩
    exact ⟨i, by simpa using hi, by simp [hs]⟩
def allL (h : LH) (s : Nat → Bool) : List (List Int) := h.roots :: keptL h.cells s h.cells.length
def outL (cs : List LC) (s : Nat → Bool) (L : List (List Int)) : Bool := L.any fun xs => xs.any (outR cs s)
def outB (h : LH) (s : Nat → Bool) : Bool := outL h.cells s (allL h s)
theorem out_has {cs : List LC} {u m : Nat} (hu : SetOf u (usedL cs)) (hm : m < 2 ^ 64) (r : Int) : outR cs (fun i => m.testBit i) r = hasB (lessN u m) r := by
  unfold outR hasB
  rw [lessN_bit hu.1 hm, used_set hu]
theorem any_take {α : Type} {p : α → Bool} {xs : List α} {i : Nat} {x : α} (hx : xs[i]? = some x) (h : (xs.take i).any p = false) (hp : p x = false) : (xs.take (i + 1)).any p = false := by
  obtain ⟨hl, he⟩ := List.getElem?_eq_some_iff.1 hx
  rw [List.take_succ_eq_append_getElem hl, List.any_append, h, he]
  simp [hp]
theorem out_hit {cs : List LC} {s : Nat → Bool} {L : List (List Int)} {xs : List Int} {j i : Nat} (hx : L[j]? = some xs) (hi : i < xs.length) (ho : outR cs s xs[i] = true) : outL cs s L = true :=
  List.any_eq_true.2 ⟨xs, List.mem_of_getElem? hx, List.any_eq_true.2 ⟨_, List.getElem_mem hi, ho⟩⟩
theorem outR_ok {h : LH} {s : Nat → Bool} {r : Int} (hl : leadsB h.cells r = true) : outR h.cells s r = false ↔ ¬ (0 ≤ r ∧ (!s r.toNat) = true) := by
  unfold outR
  unfold leadsB at hl
  by_cases h0 : 0 ≤ r
  · have h1 : ¬ r = -1 := by omega
    simp only [h1, h0, decide_false, decide_true, Bool.false_or, Bool.true_and] at hl ⊢
    rw [hl]
    cases s r.toNat <;> simp
  · simp [h0]
theorem out_keeps {h : LH} (v : Valid h) (s : Nat → Bool) : outB h s = false ↔ Keeps h (fun i => !s i) := by
  unfold outB outL allL
  rw [List.any_eq_false]
  constructor
  · intro ho
    have go : ∀ xs ∈ h.roots :: keptL h.cells s h.cells.length, (∀ r ∈ xs, leadsB h.cells r = true) → ∀ r ∈ xs, ¬ (0 ≤ r ∧ (!s r.toNat) = true) := fun xs hxs hl r hr => by
      have h1 := ho xs hxs
      rw [Bool.not_eq_true, List.any_eq_false] at h1
      exact (outR_ok (hl r hr)).1 (by simpa using h1 r hr)
    refine ⟨go h.roots (by simp) v.roots, fun n hn r hr => ?_⟩
    by_cases hN : n < h.cells.length
    · exact go (refsOf h.cells n) (List.mem_cons_of_mem _ (keptL_mem.2 ⟨n, hN, by simpa using hn, rfl⟩)) (v.leadsU.2 n) r hr
    · simp [refsOf, List.getElem?_eq_none (by omega : h.cells.length ≤ n)] at hr
  · intro hk xs hxs
    rw [Bool.not_eq_true, List.any_eq_false]
    intro r hr
    rw [Bool.not_eq_true]
    rcases List.mem_cons.1 hxs with rfl | hxs
    · exact (outR_ok (v.roots r hr)).2 (hk.1 r hr)
    · obtain ⟨i, _, hs, rfl⟩ := keptL_mem.1 hxs
      exact (outR_ok (v.leadsU.2 i r hr)).2 (hk.2 i (by simp [hs]) r hr)
theorem out_valid {h : LH} (v : Valid h) (s : Nat → Bool) : validB (dropH h fun i => !s i) = !outB h s := by
  have h1 := valid_drop v (fun i => !s i)
  have h2 := out_keeps v s
  cases ho : outB h s with
  | false => exact h1.2 (h2.1 ho)
  | true =>
    cases hv : validB (dropH h fun i => !s i) with
    | false => rfl
    | true =>
      have := h2.2 (h1.1 hv)
      rw [ho] at this
      cases this
def sweepP (ms : List Bool) (i : Nat) : Bool := !inB ms i
def sweepN (h : LH) (ms : List Bool) (i : Nat) : Bool := usedAt h.cells i && sweepP ms i
def sweepOk (h : LH) (ms : List Bool) : Bool := validB h && (decide (ms.length = h.cells.length) && validB (dropH h (sweepP ms)))
/-- Sweeping: the heap, and how many were freed. -/
def sweepV (h : LH) (ms : List Bool) : LH × Int := if sweepOk h ms = true then (dropH h (sweepP ms), ((cntP (sweepN h ms) h.cells.length : Nat) : Int)) else (nilH, -1)
theorem sweepV_t {h : LH} {ms : List Bool} (h1 : validB h = true) (h2 : ms.length = h.cells.length) (h3 : validB (dropH h (sweepP ms)) = true) : sweepV h ms = (dropH h (sweepP ms), ((cntP (sweepN h ms) h.cells.length : Nat) : Int)) := if_pos (by simp [sweepOk, h1, h2, h3])
theorem sweepV_f1 {h : LH} {ms : List Bool} (h1 : validB h = false) : sweepV h ms = (nilH, -1) := if_neg (by simp [sweepOk, h1])
theorem sweepV_f2 {h : LH} {ms : List Bool} (h1 : ¬ ms.length = h.cells.length) : sweepV h ms = (nilH, -1) := if_neg (by simp [sweepOk, h1])
theorem sweepV_f3 {h : LH} {ms : List Bool} (h1 : validB (dropH h (sweepP ms)) = false) : sweepV h ms = (nilH, -1) := if_neg (by simp [sweepOk, h1])
theorem drop_small {h : LH} (v : Valid h) (p : Nat → Bool) : hsize (dropH h p) ≤ 200 := hsize_small (by show (dropC h.cells p).length ≤ 40; rw [dropC_len]; exact v.le) (fun c hc => by
  obtain ⟨n, hn, rfl⟩ := List.getElem_of_mem hc
  have hn' : n < (dropC h.cells p).length := hn
  show (dropC h.cells p)[n].refs.length ≤ 3
  rw [dropC_at]
  split
  · simp [emptyC]
  · exact v.refs3 (by rw [dropC_len] at hn'; exact hn')) (by show h.roots.length ≤ 4; rw [v.roots4]; omega)
theorem sweep_small (h : LH) (ms : List Bool) : hsize (sweepV h ms).1 ≤ 200 := by
  unfold sweepV
  split
  · rename_i ho
    unfold sweepOk at ho
    rw [Bool.and_eq_true] at ho
    exact drop_small (valid_iff.1 ho.1) _
  · decide
theorem reachV_le (h : LH) : (reachV h).length ≤ h.cells.length := by
  cases hv : validB h with
  | true => rw [reachV_len hv]; exact Nat.le_refl _
  | false => rw [reachV_f hv]; simp
theorem bools_app (s : List Bool) (x : Bool) : bools s ++ [.bool x] = bools (s ++ [x]) := by simp [bools]
theorem inB_not {ms : List Bool} {i : Nat} (h : i < ms.length) : inB (ms.map (fun b => !b)) i = !inB ms i := by
  unfold inB
  rw [List.getElem?_map, List.getElem?_eq_getElem h]
  cases ms[i] <;> rfl
theorem drop_not {h : LH} {ms : List Bool} (hl : ms.length = h.cells.length) : dropH h (inB (ms.map (fun b => !b))) = dropH h (sweepP ms) := by
  unfold dropH
  exact congrArg (LH.mk · h.roots) (dropC_ext (fun k hk => by rw [inB_not (by omega)]; rfl))
section
variable {Pr Pr' S : Nat → Prop} {w w' : World} {e eC eI : TypeId} {cs : List LC} {rs : List (Option Addr × Nat)} {A B : Option Addr}
theorem flat_split {k : Nat} {c : LC} {r : Option Addr × Nat} {post : List Value} (hl : rs.length = cs.length) (hc : cs[k]? = some c) (hr : rs[k]? = some r) :
    flatC cs rs ++ post = flatC (cs.take k) (rs.take k) ++ [.bool c.used, .int .i64 c.data, .slice r.1 c.refs.length r.2] ++ (flatC (cs.drop (k + 1)) (rs.drop (k + 1)) ++ post) := by
  rw [flatC_at hl hc hr, List.append_assoc]
theorem flat_put {k : Nat} {c : LC} {r : Option Addr × Nat} {post : List Value} (hl : rs.length = cs.length) (hk : k < cs.length) :
    flatC (cs.take k) (rs.take k) ++ [.bool c.used, .int .i64 c.data, .slice r.1 c.refs.length r.2] ++ (flatC (cs.drop (k + 1)) (rs.drop (k + 1)) ++ post) = flatC (cs.set k c) (rs.set k r) ++ post := by
  have h := flat_split (cs := cs.set k c) (rs := rs.set k r) (k := k) (c := c) (r := r) (post := post) (by simp [hl]) (by simp [hk]) (by simp [hl, hk])
  rw [h, List.take_set_of_le (Nat.le_refl _), List.drop_set_of_lt (by omega), List.take_set_of_le (Nat.le_refl _), List.drop_set_of_lt (by omega)]
/-- A cell becomes one without references. -/
theorem ORs.free (h : ORs Pr w e cs rs) (k : Nat) {c : LC} (hc : c.refs = []) (r : Option Addr × Nat) : ORs Pr w e (cs.set k c) (rs.set k r) := by
  refine ⟨by simp [h.len], fun j x q hx hq => ?_, fun i j x y q q' hx hy hq hq' hij h1 h2 => ?_⟩
  · rcases set_get hx with ⟨e1, e2⟩ | ⟨hij, hx⟩
    · rw [e2, hc]; exact OI.nil _ _ _ _
    · rcases set_get hq with ⟨e1, _⟩ | ⟨_, hq⟩
      · exact absurd e1 hij
      · exact h.own j x q hx hq
  · rcases set_get hx with ⟨e1, e2⟩ | ⟨hi, hx⟩
    · exact absurd (by rw [e2, hc]) h1
    · rcases set_get hy with ⟨e1, e2⟩ | ⟨hj, hy⟩
      · exact absurd (by rw [e2, hc]) h2
      · rcases set_get hq with ⟨e1, _⟩ | ⟨_, hq⟩
        · exact absurd e1 hi
        · rcases set_get hq' with ⟨e1, _⟩ | ⟨_, hq'⟩
          · exact absurd e1 hj
          · exact h.far i j x y q q' hx hy hq hq' hij h1 h2
theorem OI.modT {g : Nat} {arr us : List Value} (h : OI Pr w e A us) (B : Blk w g eC arr.toArray) (hne : eC ≠ e) (m : Mod (fun i => i = g) w w') : OI Pr w' e A us := h.keep m (fun b hb hn e0 => by
  obtain ⟨b', _, e1, _, hB⟩ := h hn
  rw [hb] at e1
  cases e1
  subst e0
  exact B.ne hB hne rfl)
/-- What cells with references are left lie where they lay. -/
def SubC (cs' : List LC) (rs' : List (Option Addr × Nat)) (cs : List LC) (rs : List (Option Addr × Nat)) : Prop := ∀ (i : Nat) (c : LC) (r : Option Addr × Nat), cs'[i]? = some c → rs'[i]? = some r → c.refs ≠ [] → cs[i]? = some c ∧ rs[i]? = some r
theorem SubC.refl (cs : List LC) (rs : List (Option Addr × Nat)) : SubC cs rs cs rs := fun _ _ _ h1 h2 _ => ⟨h1, h2⟩
theorem SubC.free {cs' : List LC} {rs' : List (Option Addr × Nat)} (h : SubC cs' rs' cs rs) (k : Nat) (c : LC) (hc : c.refs = []) (r : Option Addr × Nat) : SubC (cs'.set k c) (rs'.set k r) cs rs := fun i x q hx hq hn => by
  rcases set_get hx with ⟨_, e2⟩ | ⟨hi, hx⟩
  · exact absurd (by rw [e2, hc]) hn
  · rcases set_get hq with ⟨e1, _⟩ | ⟨_, hq⟩
    · exact absurd e1 hi
    · exact h i x q hx hq hn
theorem SubC.cast {cs' cs2 : List LC} {rs' : List (Option Addr × Nat)} (h : SubC cs' rs' cs rs) (e : cs' = cs2) : SubC cs2 rs' cs rs := e ▸ h
theorem OC.cast {cs2 : List LC} (h : OC Pr w eC eI A cs rs) (e : cs = cs2) : OC Pr w eC eI A cs2 rs := e ▸ h
theorem OH.freed {Pr2 : Nat → Prop} {h : LH} {cs' : List LC} {rs' : List (Option Addr × Nat)} (o : OH Pr w eC eI A B h rs) (c : OC Pr' w' eC eI A cs' rs') (sub : SubC cs' rs' h.cells rs) (r : OI Pr2 w' eI B (ints h.roots)) (h1 : ∀ k, Pr' k → S k) (h2 : ∀ k, Pr2 k → S k) : OH S w' eC eI A B ⟨cs', h.roots⟩ rs' :=
  ⟨c.weak h1, r.weak h2, fun i x q hx hq hn hr => by
    obtain ⟨a, b⟩ := sub i x q hx hq hn
    exact o.far i x q a b hn hr⟩
end
def slv : List (List Int) → List (Option Addr × Nat) → List Value
  | x :: L, r :: rs => .slice r.1 x.length r.2 :: slv L rs
  | _, _ => []
theorem slv_snoc : ∀ {L : List (List Int)} {rs : List (Option Addr × Nat)} (_ : rs.length = L.length) (x : List Int) (r : Option Addr × Nat), slv L rs ++ [.slice r.1 x.length r.2] = slv (L ++ [x]) (rs ++ [r])
  | [], [], _, x, r => rfl
  | y :: L, q :: rs, h, x, r => by
    have := slv_snoc (L := L) (rs := rs) (by simpa using h) x r
    simp only [slv, List.cons_append, this]
  | [], _ :: _, h, _, _ => by simp at h
  | _ :: _, [], h, _, _ => by simp at h
theorem slv_get : ∀ {L : List (List Int)} {rs : List (Option Addr × Nat)} {i : Nat} {x : List Int} {r : Option Addr × Nat}, L[i]? = some x → rs[i]? = some r → (slv L rs)[i]? = some (.slice r.1 x.length r.2)
  | y :: L, q :: rs, 0, x, r, h1, h2 => by
    simp at h1 h2
    subst h1
    subst h2
    rfl
  | y :: L, q :: rs, i + 1, x, r, h1, h2 => by
    simp at h1 h2
    simpa [slv] using slv_get h1 h2
  | [], _, _, _, _, h1, _ => by simp at h1
  | _ :: _, [], _, _, _, _, h2 => by simp at h2
structure RSs (Pr : Nat → Prop) (w : World) (L : List (List Int)) (rs : List (Option Addr × Nat)) : Prop where
  len : rs.length = L.length
  r1 : ∀ (i : Nat) (xs : List Int) (r : Option Addr × Nat), L[i]? = some xs → rs[i]? = some r → R1 Pr w r.1 (ints xs)
section
variable {Pr S : Nat → Prop} {w w' : World} {L : List (List Int)} {rs : List (Option Addr × Nat)}
theorem RSs.mod (h : RSs Pr w L rs) (m : Mod S w w') (hd : ∀ k, Pr k → ¬ S k) : RSs Pr w' L rs := ⟨h.len, fun i x r h1 h2 => (h.r1 i x r h1 h2).mod m hd⟩
theorem RSs.md (h : RSs Pr w L rs) (m : Mod S w w') (hd : ∀ k, Pr k → ¬ S k := by intro k hk h; first | omega | (dsimp only at hk h; omega) | (dsimp only at hk; omega)) : RSs Pr w' L rs := h.mod m hd
theorem RSs.grow (h : RSs Pr w L rs) (m : Grow w w') : RSs Pr w' L rs := h.mod m (fun _ _ h => h)
theorem RSs.one {A : Option Addr} {xs : List Int} {c : Nat} (h : R1 Pr w A (ints xs)) : RSs Pr w [xs] [(A, c)] := ⟨rfl, fun i x r h1 h2 => by
  cases i with
  | zero =>
    simp at h1 h2
    subst h1
    subst h2
    exact h
  | succ i => simp at h1⟩
theorem RSs.snoc (h : RSs Pr w L rs) {A : Option Addr} {xs : List Int} {c : Nat} (hA : R1 Pr w A (ints xs)) : RSs Pr w (L ++ [xs]) (rs ++ [(A, c)]) := ⟨by simp [h.len], fun i x r h1 h2 => by
  have hl := h.len
  by_cases hi : i < L.length
  · rw [List.getElem?_append_left hi] at h1
    rw [List.getElem?_append_left (by omega)] at h2
    exact h.r1 i x r h1 h2
  · have hlt := (List.getElem?_eq_some_iff.1 h1).1
    simp only [List.length_append, List.length_cons, List.length_nil] at hlt
    have e0 : i = L.length := by omega
    subst e0
    rw [List.getElem?_append_right (Nat.le_refl _)] at h1
    rw [List.getElem?_append_right (by omega)] at h2
    simp at h1
    simp [hl] at h2
    subst h1
    subst h2
    exact hA⟩
end
section
variable {P : Program} {ops : Array Oper} {Q : Exit → Act → World → Prop} {S : World → Prop} {fuel : Nat} {lst : List Bool} {F : Fr} {D : List Deferred} {w : World} {i : Nat}
  {d : Tmp} {ty : TypeId} {pos : String} {af : Array Edge} {e t : TypeId} {x y : Operand}
theorem E_make {n l : Nat} {zv : Value} {z : List Value} {by_ : Nat} (hi : ops[i]? = some ⟨some d, .makeSlice t x y, ty, pos, af, none⟩) (hu : P.underlying t = some (.slice e)) (hz : zr P e = some zv) (hs : sz P e = some z.length) (hb : byt P e = some by_) (hx : ev F x = some (.int .i64 (l : Int))) (hy : ev F y = some (.int .i64 (n : Int))) (hl : l ≤ n) (hn : n * by_ ≤ 281474976710656) (hn2 : n ≤ 9223372036854775807)
    (k : ∀ b w', w.heap.size ≤ b → Grow w w' → Blk w' b e (zeros z n).toArray → S w' ∧ wpAnyH P .any ops Q S fuel (lst.set i true).toArray ⟨(F.put d (.slice (some ⟨b, 0, none⟩) l n)).list.toArray, D⟩ w') (hzc : zv.cells = z.toArray := by rfl) (h0 : 0 < z.length := by decide) :
    dOp P ops Q S fuel lst ⟨F.list.toArray, D⟩ w i :=
  have hk := k _ _ (Nat.le_refl _) (grow_alloc _ _) (Blk.new _ _ _)
  E_val hi (Y_make hu hz hzc hs hb h0 hx hy hl hn hn2) hk.1 hk.2
end
section
variable {P : Program} {ops : Array Oper} {Q : Exit → Act → World → Prop} {S : World → Prop} {rest : List Oper} {fuel : Nat} {lst : List Bool} {F : Fr} {D : List Deferred} {w : World}
  {d : Tmp} {ty : TypeId} {pos : String} {af : Array Edge} {e t : TypeId} {x y : Operand} {zv : Value} {s by_ cap m c i : Nat} {A A2 : Option Addr} {news : List Value} {Pr Pr' : Nat → Prop}
/-- Append to a slice that has no element. -/
theorem S_app0 (ht : P.underlying t = some (.slice e)) (hz : zr P e = some zv) (hs : sz P e = some s) (hb : byt P e = some by_) (hx : ev F x = some (.slice A 0 cap)) (hy : ev F y = some (.slice A2 m c))
    (O : OW Pr w e s A 0 cap []) (hl : news.length = m * s) (hsrc : Src w A2 m news) (h1 : ∀ u ∈ news, u.oneCell' = true) (hlen : m ≤ 1099511627776)
    (hp : ∀ k, Pr k → Pr' k) (hn : Pr' w.heap.size)
    (k : ∀ A' cap' w', OW Pr' w' e s A' m cap' news → Mod Pr w w' → wpList P ops Q rest ⟨(F.put d (.slice A' m cap')).list.toArray, D⟩ w') (hzs : zv.cells.size = s := by rfl) (h0 : 0 < s := by decide) (h9 : by_ ≤ 100 := by decide) :
    wpList P ops Q (⟨some d, .call ⟨.builtin .append, #[x, y], #[t, t]⟩, ty, pos, af, none⟩ :: rest) ⟨F.list.toArray, D⟩ w := by
  refine S_app ht hz hs hb hx hy O hl hsrc h1 (by omega) hp hn (fun A' cap' w' o mm => ?_) hzs h0 h9
  rw [List.nil_append] at o
  have h := k A' cap' w'
  rw [Nat.zero_add] at o ⊢
  exact h o mm
theorem E_app0 (hi : ops[i]? = some ⟨some d, .call ⟨.builtin .append, #[x, y], #[t, t]⟩, ty, pos, af, none⟩) (ht : P.underlying t = some (.slice e)) (hz : zr P e = some zv) (hs : sz P e = some s) (hb : byt P e = some by_) (hx : ev F x = some (.slice A 0 cap)) (hy : ev F y = some (.slice A2 m c))
    (O : OW Pr w e s A 0 cap []) (hl : news.length = m * s) (hsrc : Src w A2 m news) (h1 : ∀ u ∈ news, u.oneCell' = true) (hlen : m ≤ 1099511627776)
    (hp : ∀ k, Pr k → Pr' k) (hn : Pr' w.heap.size)
    (k : ∀ A' cap' w', OW Pr' w' e s A' m cap' news → Mod Pr w w' → S w' ∧ wpAnyH P .any ops Q S fuel (lst.set i true).toArray ⟨(F.put d (.slice A' m cap')).list.toArray, D⟩ w') (hzs : zv.cells.size = s := by rfl) (h0 : 0 < s := by decide) (h9 : by_ ≤ 100 := by decide) :
    dOp P ops Q S fuel lst ⟨F.list.toArray, D⟩ w i := by
  refine E_app hi ht hz hs hb hx hy O hl hsrc h1 (by omega) hp hn (fun A' cap' w' o mm => ?_) hzs h0 h9
  rw [List.nil_append] at o
  have h := k A' cap' w'
  rw [Nat.zero_add] at o ⊢
  exact h o mm
end
end
/-! Of -/
section
open Go Go.RowKit
/-- The cells that a list of numbers tells, one after the other. -/
def parseF : Nat → List Int → Option (List LC)
  | _, [] => some []
  | _, [_] => none
  | 0, _ :: _ :: _ => none
  | f + 1, d :: n :: r => if 0 ≤ n ∧ n ≤ (r.length : Int) then (parseF f (r.drop n.toNat)).map (⟨true, d, r.take n.toNat⟩ :: ·) else none
theorem parseF_eq : ∀ (f g : Nat) (xs : List Int), xs.length ≤ f → xs.length ≤ g → parseF f xs = parseF g xs
  | _, _, [], _, _ => by simp [parseF]
  | _, _, [_], _, _ => by simp [parseF]
  | 0, _, _ :: _ :: _, h, _ => by simp at h
  | _ + 1, 0, _ :: _ :: _, _, h => by simp at h
  | f + 1, g + 1, d :: n :: r, h1, h2 => by
    simp only [List.length_cons] at h1 h2
    unfold parseF
    split
    · rw [parseF_eq f g (r.drop n.toNat) (by rw [List.length_drop]; omega) (by rw [List.length_drop]; omega)]
    · rfl
def parse (xs : List Int) : Option (List LC) := parseF xs.length xs
theorem parse_cons {d : Int} {m : Nat} {r : List Int} (h : m ≤ r.length) : parse (d :: (m : Int) :: r) = (parse (r.drop m)).map (⟨true, d, r.take m⟩ :: ·) := by
  have e : (d :: (m : Int) :: r).length = (r.length + 1) + 1 := rfl
  show parseF (d :: (m : Int) :: r).length (d :: (m : Int) :: r) = _
  rw [e]
  show (if 0 ≤ (m : Int) ∧ (m : Int) ≤ (r.length : Int) then (parseF (r.length + 1) (r.drop (m : Int).toNat)).map (⟨true, d, r.take (m : Int).toNat⟩ :: ·) else none) = _
  rw [if_pos (by omega), Int.toNat_natCast]
  unfold parse
  rw [parseF_eq (r.length + 1) (r.drop m).length _ (by rw [List.length_drop]; omega) (Nat.le_refl _)]
section
variable {xs : List Int} {p : Nat}
theorem drop_two (h : p + 1 < xs.length) : xs.drop p = xs[p] :: xs[p + 1] :: xs.drop (p + 2) := by
  rw [List.drop_eq_getElem_cons (by omega), List.drop_eq_getElem_cons h]
theorem parse_at (h : p + 1 < xs.length) {m : Nat} (hm : xs[p + 1] = (m : Int)) (hl : p + 2 + m ≤ xs.length) : parse (xs.drop p) = (parse (xs.drop (p + 2 + m))).map (⟨true, xs[p], (xs.drop (p + 2)).take m⟩ :: ·) := by
  rw [drop_two h, hm, parse_cons (by rw [List.length_drop]; omega), List.drop_drop]
/-- The cells cs were read, up to the place p. -/
def PI (xs : List Int) (cs : List LC) (p : Nat) : Prop := parse (xs.drop 4) = (parse (xs.drop p)).map (cs ++ ·)
theorem PI.start (xs : List Int) : PI xs [] 4 := by
  unfold PI
  cases parse (xs.drop 4) <;> simp
variable {cs : List LC}
theorem PI.next (hp : PI xs cs p) (h : p + 1 < xs.length) {m : Nat} (hm : xs[p + 1] = (m : Int)) (hl : p + 2 + m ≤ xs.length) : PI xs (cs ++ [⟨true, xs[p], (xs.drop (p + 2)).take m⟩]) (p + 2 + m) := by
  unfold PI at *
  rw [hp, parse_at h hm hl]
  cases parse (xs.drop (p + 2 + m)) <;> simp
end
theorem Yl.eq {P : Program} {F : Fr} {op : Op} {v v' : Value} {w w' : World} (e : v = v') (h : Yl P F op v w w') : Yl P F op v' w w' := e ▸ h
section
variable {Pr : Nat → Prop} {w : World} {A : Option Addr} {xs : List Int} {p n m cap : Nat}
theorem ints_drop (xs : List Int) (k : Nat) : (ints xs).drop k = ints (xs.drop k) := by simp [ints]
theorem ints_take (xs : List Int) (k : Nat) : (ints xs).take k = ints (xs.take k) := by simp [ints]
theorem R1.sub (h : R1 Pr w A (ints (xs.drop p))) (hl : p + n = xs.length) (hm : 2 + m ≤ n) (hc : n ≤ cap) : ∃ A', sliced A 2 (2 + m) cap 1 = .slice A' ((xs.drop (p + 2)).take m).length (cap - 2) ∧ R1 Pr w A' (ints ((xs.drop (p + 2)).take m)) := by
  obtain ⟨A', e, hr⟩ := h.part (cap := cap) (j := 2) (k := 2 + m) (by omega) (by omega)
  refine ⟨A', ?_, ?_⟩
  · rw [e, List.length_take, List.length_drop, show min m (xs.length - (p + 2)) = 2 + m - 2 by omega]
  · rw [ints_take, ints_drop] at hr
    rw [List.drop_take, List.drop_drop, show 2 + m - 2 = m by omega] at hr
    exact hr
theorem R1.rest {j : Nat} (h : R1 Pr w A (ints (xs.drop p))) (hl : p + n = xs.length) (hm : j ≤ n) (hc : n ≤ cap) : ∃ A', sliced A j n cap 1 = .slice A' (n - j) (cap - j) ∧ R1 Pr w A' (ints (xs.drop (p + j))) := by
  obtain ⟨A', e, hr⟩ := h.part (cap := cap) (j := j) (k := n) (by omega) (by omega)
  refine ⟨A', e, ?_⟩
  rw [ints_take, ints_drop, List.drop_take, List.drop_drop] at hr
  rw [List.take_of_length_le (by rw [List.length_drop]; omega)] at hr
  exact hr
end
end
/-! WalkDr -/
section
open Go Go.RowKit
attribute [local irreducible] wpList wpAnyH Code.wp dOp
/-- A reader at the place p. -/
def Rd (w : World) (bR p : Nat) : Prop := ∃ (AR : Option Addr) (bs : List Int) (cR : Nat), Blk w bR 118 [.slice AR bs.length cR, .int .i64 (p : Int)].toArray ∧ R1 (fun k => k < bR) w AR (u8s bs) ∧ (∀ x ∈ bs, 0 ≤ x ∧ x ≤ 255) ∧ bs.length ≤ 2000
theorem Rd.mod {S : Nat → Prop} {w w' : World} {bR p : Nat} (h : Rd w bR p) (m : Mod S w w') (hn : ∀ k, k ≤ bR → ¬ S k) : Rd w' bR p := by
  obtain ⟨AR, bs, cR, h1, h2, h3, h4⟩ := h
  exact ⟨AR, bs, cR, h1.mod m (hn _ (Nat.le_refl _)), h2.mod m (fun k hk => hn k (Nat.le_of_lt hk)), h3, h4⟩
theorem Rd.md {S : Nat → Prop} {w w' : World} {bR p : Nat} (h : Rd w bR p) (m : Mod S w w') (hn : ∀ k, k ≤ bR → ¬ S k := by intro k hk h; first | omega | (dsimp only at h; omega)) : Rd w' bR p := h.mod m hn
theorem Rd.grow {w w' : World} {bR p : Nat} (h : Rd w bR p) (m : Grow w w') : Rd w' bR p := h.mod m (fun _ _ h => h)
theorem Rd.lt {w : World} {bR p : Nat} (h : Rd w bR p) : bR < w.heap.size := by
  obtain ⟨AR, bs, cR, h1, h2, h3, h4⟩ := h
  exact h1.lt
theorem R1.takeU {Pr : Nat → Prop} {w : World} {A : Option Addr} {us : List Value} {k : Nat} (h : R1 Pr w A us) : R1 Pr w A (us.take k) := fun i u hu => by
  have hl := (List.getElem?_eq_some_iff.1 hu).1
  rw [List.length_take] at hl
  rw [List.getElem?_take, if_pos (by omega)] at hu
  exact h i u hu
set_option maxHeartbeats 400000 in
set_option maxRecDepth 20000 in
theorem spec_l20Open_c (Pr : Nat → Prop) (A : Option Addr) (xs : List Int) (c : Nat) (w : World) (hA : R1 Pr w A (u8s xs)) (hx : xs.length ≤ 1048576) (hc : xs.length ≤ c) (hr : ∀ x ∈ xs, 0 ≤ x ∧ x ≤ 255) :
    Calls Try.prog 67 #[.slice A xs.length c] w (Ret fun v w' => ∃ b, v = .pointer (some ⟨b, 0, none⟩) ∧ w.heap.size ≤ b ∧ Rd w' b 0 ∧ Grow w w') := by
 have hAl := hA.below
 refine enter Try.func67 rfl Try.ntmps67 (L := [_,_,_,_,_,_,_,_,_,_,_]) rfl ?_
 have G := Mod.refl No w
 have hAl0 := hAl
 refine wp_seq_k fun K1 hK1 => ?_
 refine Sb 11 rfl ?_  -- 0
 refine S_val (Y_assign rfl) ?_
 refine S_nl rfl rfl ?_
 refine th_n (hK1 _ _ ?_)
 clear hK1 K1
 refine wp_seq_k fun K2 hK2 => ?_
 refine wp_seq_k fun K3 hK3 => ?_
 refine Sb 11 rfl ?_  -- 1
 refine S_val (Y_move rfl) ?_
 refine S_val (Y_len Try.underlying39 rfl) ?_
 refine S_val (Y_gtr rfl rfl) ?_
 refine S_nl rfl rfl ?_
 refine th_n (hK3 _ _ ?_)
 clear hK3 K3
 refine S_if rfl (fun hb1 => ?_) (fun hb1 => ?_)  -- c1
 · -- c1T
  replace hb1 := nb_tt hb1
  refine Sb 11 rfl ?_  -- 2
  refine S_val (Y_move rfl) ?_
  refine S_val (Y_sliceH Try.underlying39 sz5 rfl (j := 2000) rfl (by omega)) ?_
  refine S_val (Y_assign rfl) ?_
  refine S_nl rfl rfl ?_
  refine th_n (hK2 _ _ ?_)
  clear hK2 K2
  refine wp_seq_k fun K4 hK4 => ?_
  refine Sb 11 rfl ?_  -- 3
  refine S_val (Y_move rfl) ?_
  refine S_val (Y_build (cs := [_, _]) zr118 pc118 rfl rfl) ?_
  refine S_box (cs := [_, _]) rfl rfl ?_
  intro b1 w1 fb1 g1 B1
  have lb1 := B1.lt
  replace hAl := hAl.grow g1
  replace G := G.grow g1
  have zg1 := g1.size
  refine S_val (Y_assign rfl) ?_
  refine S_nl rfl rfl ?_
  refine th_n (hK4 _ _ ?_)
  clear hK4 K4
  refine wp_ret ?_
  refine ret_r1 rfl rfl ?_  -- r1
  have hAt := (hAl.takeU (k := 2000)).weak (Pr' := fun k => k < b1) (fun k hk => by omega)
  rw [show (u8s xs).take 2000 = u8s (xs.take 2000) by simp [u8s]] at hAt
  exact ⟨_, rfl, by omega, ⟨A, xs.take 2000, c, Blk.eq B1 (by rw [List.length_take, Nat.min_eq_left (by omega)]; rfl), hAt, fun x hx => hr x (List.mem_of_mem_take hx), by rw [List.length_take]; omega⟩, G⟩
 · -- c1F
  replace hb1 := nb_tf hb1
  refine wp_skip ?_
  refine th_n (hK2 _ _ ?_)
  clear hK2 K2
  refine wp_seq_k fun K5 hK5 => ?_
  refine Sb 11 rfl ?_  -- 3
  refine S_val (Y_move rfl) ?_
  refine S_val (Y_build (cs := [_, _]) zr118 pc118 rfl rfl) ?_
  refine S_box (cs := [_, _]) rfl rfl ?_
  intro b2 w2 fb2 g2 B2
  have lb2 := B2.lt
  replace hAl := hAl.grow g2
  replace G := G.grow g2
  have zg2 := g2.size
  refine S_val (Y_assign rfl) ?_
  refine S_nl rfl rfl ?_
  refine th_n (hK5 _ _ ?_)
  clear hK5 K5
  refine wp_ret ?_
  refine ret_r1 rfl rfl ?_  -- r2
  exact ⟨_, rfl, by omega, ⟨A, xs, c, B2, hAl.weak (fun k hk => by omega), hr, by omega⟩, G⟩
set_option maxHeartbeats 400000 in
set_option maxRecDepth 20000 in
theorem spec_l20Rd_pick_c (bR p : Nat) (n : Int) (w : World) (RD : Rd w bR p) (hp : p ≤ 1000000) (hn : n ≤ 9223372036854775807) :
    Calls Try.prog 69 #[.pointer (some ⟨bR, 0, none⟩), .int .i64 n] w (Ret fun v w' => ∃ k : Nat, v = .int .i64 (k : Int) ∧ (1 ≤ n → (k : Int) < n) ∧ Rd w' bR (p + 1) ∧ Mod (fun i => i = bR) w w') := by
 obtain ⟨AR, bs, cR, BR, hS, hbs, hbl⟩ := RD
 refine enter Try.func69 rfl Try.ntmps69 (L := [_,_,_,_,_,_,_,_,_,_,_,_,_,_,_,_,_,_,_,_,_,_,_,_,_,_,_,_,_,_,_,_,_,_,_,_,_,_,_,_,_,_,_,_,_,_,_,_,_,_,_,_,_,_,_,_,_,_,_,_,_,_,_,_,_,_,_,_,_,_,_,_,_,_,_,_,_,_,_,_,_,_,_,_,_,_,_,_,_,_,_,_,_,_,_,_,_,_,_]) rfl ?_
 have G := Mod.refl (fun i => i = bR) w
 refine wp_seq_k fun K1 hK1 => ?_
 refine Sb 99 rfl ?_  -- 0
 refine S_val (Y_assign rfl) ?_
 refine S_nl rfl rfl ?_
 refine th_n (hK1 _ _ ?_)
 clear hK1 K1
 refine wp_seq_k fun K2 hK2 => ?_
 refine Sb 99 rfl ?_  -- 1
 refine S_val (Y_move rfl) ?_
 refine S_val (Y_move rfl) ?_
 refine S_val (Y_nil rfl) ?_
 refine S_val (Y_field Try.underlying118 rfl fz118_1 (by decide) rfl) ?_
 refine S_val (Y_load Try.underlying3 rfl rfl (BR.at (by rfl))) ?_  -- l1
 refine S_val (Y_add (c := ((p + 1 : Nat) : Int)) rfl rfl (by omega) (by omega) (by omega)) ?_
 refine S_val (Y_nil rfl) ?_
 refine S_val (Y_field Try.underlying118 rfl fz118_1 (by decide) rfl) ?_
 refine S_stM (pre := [_]) (old := [_]) (post := []) (vs := [_]) sz3 rfl rfl rfl (by first | rfl | assumption) BR rfl rfl ?_
 intro w1 m1 X1
 replace BR := Blk.eq (ys := [_, _]) X1 rfl
 clear X1
 replace G := Mod.trans' G m1 (fun _ h _ => h) (fun i h hl => by first | exact h | omega | (dsimp only at h; omega))
 replace hS := hS.md m1
 have zm1 := m1.size
 refine S_nl rfl rfl ?_
 refine th_n (hK2 _ _ ?_)
 clear hK2 K2
 refine wp_seq_k fun K3 hK3 => ?_
 refine wp_seq_k fun K4 hK4 => ?_
 refine Sb 99 rfl ?_  -- 2
 refine S_val (Y_move rfl) ?_
 refine S_val (Y_lss rfl rfl) ?_
 refine S_val (Y_move rfl) ?_
 refine S_g 17 rfl (fun hb1 => ?_) (fun hb1 => ?_)  -- g1
 · -- g1T
  replace hb1 := nb_tt hb1
  refine S_off rfl rfl ?_
  refine S_off rfl rfl ?_
  refine S_off rfl rfl ?_
  refine S_off rfl rfl ?_
  refine S_off rfl rfl ?_
  refine S_off rfl rfl ?_
  refine S_val (Y_pickT rfl rfl) ?_
  refine S_nl rfl rfl ?_
  refine th_n (hK4 _ _ ?_)
  clear hK4 K4
  refine S_ifT rfl ?_
  refine wp_seq_k fun K5 hK5 => ?_
  refine Sb 99 rfl ?_  -- 3
  refine S_val (Y_assign rfl) ?_
  refine S_nl rfl rfl ?_
  refine th_n (hK5 _ _ ?_)
  clear hK5 K5
  refine wp_ret ?_
  refine th_r ?_
  clear hK3 K3
  refine ret_r1 rfl rfl ?_  -- r1
  exact ⟨0, rfl, fun h => absurd h (by omega), ⟨_, bs, cR, BR, hS, hbs, hbl⟩, G⟩
 · -- g1F
  replace hb1 := nb_tf hb1
  refine S_on rfl rfl ?_
  refine S_val (Y_move rfl) ?_
  refine S_on rfl rfl ?_
  refine S_val (Y_nil rfl) ?_
  refine S_on rfl rfl ?_
  refine S_val (Y_field Try.underlying118 rfl fz118_0 (by decide) rfl) ?_
  refine S_on rfl rfl ?_
  refine S_val (Y_load Try.underlying39 rfl rfl (BR.at (by rfl))) ?_  -- l2
  refine S_on rfl rfl ?_
  refine S_val (Y_len Try.underlying39 rfl) ?_
  refine S_on rfl rfl ?_
  refine S_val (Y_eql rfl rfl) ?_
  refine S_val (Y_pickF rfl rfl) ?_
  refine S_nl rfl rfl ?_
  refine th_n (hK4 _ _ ?_)
  clear hK4 K4
  refine S_if rfl (fun hb2 => ?_) (fun hb2 => ?_)  -- c1
  · -- c1T
   first | with_reducible (replace hb2 := nb_nt hb2) | with_reducible (replace hb2 := nb_tt hb2) | with_reducible (replace hb2 := nb_bt hb2) | skip
   refine wp_seq_k fun K6 hK6 => ?_
   refine Sb 99 rfl ?_  -- 3
   refine S_val (Y_assign rfl) ?_
   refine S_nl rfl rfl ?_
   refine th_n (hK6 _ _ ?_)
   clear hK6 K6
   refine wp_ret ?_
   refine th_r ?_
   clear hK3 K3
   refine ret_r1 rfl rfl ?_  -- r2
   exact ⟨0, rfl, fun h => by omega, ⟨_, bs, cR, BR, hS, hbs, hbl⟩, G⟩
  · -- c1F
   first | with_reducible (replace hb2 := nb_nf hb2) | with_reducible (replace hb2 := nb_tf hb2) | with_reducible (replace hb2 := nb_bf hb2) | skip
   have h0 : 0 < bs.length := by omega
   refine wp_skip ?_
   refine th_n (hK3 _ _ ?_)
   clear hK3 K3
   refine wp_seq_k fun K7 hK7 => ?_
   refine Sb 99 rfl ?_  -- 4
   refine S_val (Y_move rfl) ?_
   refine S_val (Y_nil rfl) ?_
   refine S_val (Y_field Try.underlying118 rfl fz118_1 (by decide) rfl) ?_
   refine S_val (Y_load Try.underlying3 rfl rfl (BR.at (by rfl))) ?_  -- l3
   refine S_val (Y_sub (c := (p : Int)) rfl rfl (by omega) (by omega) (by omega)) ?_
   refine S_val (Y_assign rfl) ?_
   refine S_nl rfl rfl ?_
   refine th_n (hK7 _ _ ?_)
   clear hK7 K7
   refine wp_seq_k fun K8 hK8 => ?_
   refine wp_seq_k fun K9 hK9 => ?_
   refine Sb 99 rfl ?_  -- 5
   refine S_val (Y_move rfl) ?_
   refine S_val (Y_move rfl) ?_
   refine S_val (Y_nil rfl) ?_
   refine S_val (Y_field Try.underlying118 rfl fz118_0 (by decide) rfl) ?_
   refine S_val (Y_load Try.underlying39 rfl rfl (BR.at (by rfl))) ?_  -- l4
   refine S_val (Y_len Try.underlying39 rfl) ?_
   refine S_val (Y_lss rfl rfl) ?_
   refine S_nl rfl rfl ?_
   refine th_n (hK9 _ _ ?_)
   clear hK9 K9
   refine S_if rfl (fun hb3 => ?_) (fun hb3 => ?_)  -- c2
   · -- c2T
    replace hb3 := nb_tt hb3
    have hk1 : p < bs.length := by omega
    obtain ⟨g1, o1, rfl, hp1, hc1⟩ := hS _ _ (u8s_get (List.getElem?_eq_getElem hk1))
    have hb1r := hbs _ (List.getElem_mem hk1)
    refine wp_seq_k fun K10 hK10 => ?_
    refine Sb 99 rfl ?_  -- 6
    refine S_val (Y_move rfl) ?_
    refine S_val (Y_nil rfl) ?_
    refine S_val (Y_field Try.underlying118 rfl fz118_0 (by decide) rfl) ?_
    refine S_val (Y_load Try.underlying39 rfl rfl (BR.at (by rfl))) ?_  -- l5
    refine S_val (Y_move rfl) ?_
    refine S_val (Y_index Try.underlying39 sz5 rfl rfl (by first | assumption | omega)) ?_
    refine S_val (Y_load Try.underlying5 rfl rfl (by first | assumption | exact BR.at (by rfl))) ?_  -- l6
    refine S_val (Y_conv8 Try.underlying5 Try.underlying3 rfl (by omega) (by omega)) ?_
    refine S_val (Y_move rfl) ?_
    refine S_val (Y_rem rfl rfl (by omega) (by omega) rfl) ?_
    refine S_val (Y_assign rfl) ?_
    refine S_nl rfl rfl ?_
    refine th_n (hK10 _ _ ?_)
    clear hK10 K10
    refine wp_ret ?_
    refine th_r ?_
    clear hK8 K8
    refine ret_r1 rfl rfl ?_  -- r3
    exact ⟨(bs[p] % n).toNat, by rw [Int.toNat_of_nonneg (Int.emod_nonneg _ (by omega))], fun h => by rw [Int.toNat_of_nonneg (Int.emod_nonneg _ (by omega))]; exact Int.emod_lt_of_pos _ (by omega), ⟨_, bs, cR, BR, hS, hbs, hbl⟩, G⟩
   · -- c2F
    replace hb3 := nb_tf hb3
    refine wp_skip ?_
    refine th_n (hK8 _ _ ?_)
    clear hK8 K8
    refine wp_seq_k fun K11 hK11 => ?_
    refine D_start 46 99 (fun w => Mod (No) w) follows rfl rfl ?_  -- d1 r7
    intro w2 g2
    replace hS := hS.grow g2
    replace G := G.grow g2
    replace BR := BR.grow g2
    have zg2 := g2.size
    have GS2 := Mod.refl (No) w2
    have hm1 : p % bs.length < bs.length := Nat.mod_lt _ (by omega)
    have hm2 : (p * 7 + 3) % bs.length < bs.length := Nat.mod_lt _ (by omega)
    obtain ⟨g1, o1, rfl, hp1, hc1⟩ := hS _ _ (u8s_get (List.getElem?_eq_getElem hm1))
    obtain ⟨g2, o2, e2, hp2, hc2⟩ := hS _ _ (u8s_get (List.getElem?_eq_getElem hm2))
    cases e2
    have hr1 := hbs _ (List.getElem_mem hm1)
    have hr2 := hbs _ (List.getElem_mem hm2)
    have hq := Nat.div_le_self p bs.length
    have hq0 : (0 : Int) ≤ ((p / bs.length : Nat) : Int) := Int.natCast_nonneg _
    have BRd2 := BR
    refine Dq (i := 0) rfl GS2 (fun _ _ => Y_move rfl) ?_
    refine Dq (i := 1) rfl GS2 (fun _ _ => Y_nil rfl) ?_
    refine Dq (i := 2) rfl GS2 (fun _ _ => Y_field Try.underlying118 rfl fz118_0 (by decide) rfl) ?_
    refine Dq (i := 3) rfl GS2 (fun _ hs => Y_load Try.underlying39 rfl rfl (hs.cell0 (BR.at (by rfl)))) ?_
    refine Dq (i := 4) rfl GS2 (fun _ _ => Y_move rfl) ?_
    refine Dq (i := 5) rfl GS2 (fun _ _ => Y_move rfl) ?_
    refine Dq (i := 6) rfl GS2 (fun _ _ => Y_nil rfl) ?_
    refine Dq (i := 7) rfl GS2 (fun _ _ => Y_field Try.underlying118 rfl fz118_0 (by decide) rfl) ?_
    refine Dq (i := 8) rfl GS2 (fun _ hs => Y_load Try.underlying39 rfl rfl (hs.cell0 (BR.at (by rfl)))) ?_
    refine Dq (i := 9) rfl GS2 (fun _ _ => Y_len Try.underlying39 rfl) ?_
    refine Dq (i := 10) rfl GS2 (fun _ _ => Y_rem (c := ((p % bs.length : Nat) : Int)) rfl rfl (by omega) (by omega) cast_mod) ?_
    refine Dq (i := 11) rfl GS2 (fun _ _ => Y_index Try.underlying39 sz5 rfl rfl (by first | assumption | omega)) ?_
    refine Dq (i := 12) rfl GS2 (fun _ hs => Y_load Try.underlying5 rfl rfl (by first | exact hs.cell0 (by assumption) | exact hs.cell0 (BR.at (by rfl)))) ?_
    refine Dq (i := 13) rfl GS2 (fun _ _ => Y_conv8 Try.underlying5 Try.underlying3 rfl (by omega) (by omega)) ?_
    refine Dq (i := 14) rfl GS2 (fun _ _ => Y_mul rfl rfl rfl (by omega) (by omega)) ?_
    refine Dq (i := 15) rfl GS2 (fun _ _ => Y_move rfl) ?_
    refine Dq (i := 16) rfl GS2 (fun _ _ => Y_nil rfl) ?_
    refine Dq (i := 17) rfl GS2 (fun _ _ => Y_field Try.underlying118 rfl fz118_0 (by decide) rfl) ?_
    refine Dq (i := 18) rfl GS2 (fun _ hs => Y_load Try.underlying39 rfl rfl (hs.cell0 (BR.at (by rfl)))) ?_
    refine Dq (i := 19) rfl GS2 (fun _ _ => Y_move rfl) ?_
    refine Dq (i := 20) rfl GS2 (fun _ _ => Y_mul (c := ((p * 7 : Nat) : Int)) rfl rfl (by omega) (by omega) (by omega)) ?_
    refine Dq (i := 21) rfl GS2 (fun _ _ => Y_add (c := ((p * 7 + 3 : Nat) : Int)) rfl rfl (by omega) (by omega) (by omega)) ?_
    refine Dq (i := 22) rfl GS2 (fun _ _ => Y_move rfl) ?_
    refine Dq (i := 23) rfl GS2 (fun _ _ => Y_nil rfl) ?_
    refine Dq (i := 24) rfl GS2 (fun _ _ => Y_field Try.underlying118 rfl fz118_0 (by decide) rfl) ?_
    refine Dq (i := 25) rfl GS2 (fun _ hs => Y_load Try.underlying39 rfl rfl (hs.cell0 (BR.at (by rfl)))) ?_
    refine Dq (i := 26) rfl GS2 (fun _ _ => Y_len Try.underlying39 rfl) ?_
    refine Dq (i := 27) rfl GS2 (fun _ _ => Y_rem (c := (((p * 7 + 3) % bs.length : Nat) : Int)) rfl rfl (by omega) (by omega) cast_mod) ?_
    refine Dq (i := 28) rfl GS2 (fun _ _ => Y_index Try.underlying39 sz5 rfl rfl (by first | assumption | omega)) ?_
    refine Dq (i := 29) rfl GS2 (fun _ hs => Y_load Try.underlying5 rfl rfl (by first | exact hs.cell0 (by assumption) | exact hs.cell0 (BR.at (by rfl)))) ?_
    refine Dq (i := 30) rfl GS2 (fun _ _ => Y_conv8 Try.underlying5 Try.underlying3 rfl (by omega) (by omega)) ?_
    refine Dq (i := 31) rfl GS2 (fun _ _ => Y_mul rfl rfl rfl (by omega) (by omega)) ?_
    refine Dq (i := 32) rfl GS2 (fun _ _ => Y_add rfl rfl rfl (by omega) (by omega)) ?_
    refine Dq (i := 33) rfl GS2 (fun _ _ => Y_move rfl) ?_
    refine Dq (i := 34) rfl GS2 (fun _ _ => Y_mul rfl rfl rfl (by omega) (by omega)) ?_
    refine Dq (i := 35) rfl GS2 (fun _ _ => Y_add rfl rfl rfl (by omega) (by omega)) ?_
    refine Dq (i := 36) rfl GS2 (fun _ _ => Y_move rfl) ?_
    refine Dq (i := 37) rfl GS2 (fun _ _ => Y_move rfl) ?_
    refine Dq (i := 38) rfl GS2 (fun _ _ => Y_nil rfl) ?_
    refine Dq (i := 39) rfl GS2 (fun _ _ => Y_field Try.underlying118 rfl fz118_0 (by decide) rfl) ?_
    refine Dq (i := 40) rfl GS2 (fun _ hs => Y_load Try.underlying39 rfl rfl (hs.cell0 (BR.at (by rfl)))) ?_
    refine Dq (i := 41) rfl GS2 (fun _ _ => Y_len Try.underlying39 rfl) ?_
    refine Dq (i := 42) rfl GS2 (fun _ _ => Y_quo (c := ((p / bs.length : Nat) : Int)) rfl rfl (by omega) (by omega) (by omega) cast_div) ?_
    refine Dq (i := 43) rfl GS2 (fun _ _ => Y_mul rfl rfl rfl (by omega) (by omega)) ?_
    refine Dq (i := 44) rfl GS2 (fun _ _ => Y_add rfl rfl rfl (by omega) (by omega)) ?_
    refine Dq (i := 45) rfl GS2 (fun _ _ => Y_assign rfl) ?_
    refine D_en (by kernel_rfl) rfl rfl ?_
    refine th_n (hK11 _ _ ?_)
    clear hK11 K11
    refine wp_seq_k fun K12 hK12 => ?_
    refine Sb 99 rfl ?_  -- 8
    refine S_val (Y_move rfl) ?_
    refine S_val (Y_move rfl) ?_
    refine S_val (Y_quo rfl rfl (by omega) (by omega) (by decide) rfl) ?_
    refine S_val (Y_xor rfl rfl (by omega) (by omega) (by omega) (by omega)) ?_
    refine S_val (Y_assign rfl) ?_
    refine S_nl rfl rfl ?_
    refine th_n (hK12 _ _ ?_)
    clear hK12 K12
    refine wp_seq_k fun K13 hK13 => ?_
    refine Sb 99 rfl ?_  -- 9
    refine S_val (Y_move rfl) ?_
    refine S_val (Y_move rfl) ?_
    refine S_val (Y_rem rfl rfl (by omega) (by omega) rfl) ?_
    refine S_val (Y_assign rfl) ?_
    refine S_nl rfl rfl ?_
    refine th_n (hK13 _ _ ?_)
    clear hK13 K13
    refine wp_ret ?_
    refine ret_r1 rfl rfl ?_  -- r4
    exact ⟨(_ % n).toNat, by rw [Int.toNat_of_nonneg (Int.emod_nonneg _ (by omega))], fun h => by rw [Int.toNat_of_nonneg (Int.emod_nonneg _ (by omega))]; exact Int.emod_lt_of_pos _ (by omega), ⟨_, bs, cR, BR, hS, hbs, hbl⟩, G⟩
set_option maxHeartbeats 400000 in
set_option maxRecDepth 20000 in
theorem spec_l20Rd_odd_c (bR p : Nat) (n : Int) (w : World) (RD : Rd w bR p) (hp : p ≤ 1000000) (hn : n ≤ 9223372036854775807) :
    Calls Try.prog 73 #[.pointer (some ⟨bR, 0, none⟩), .int .i64 n] w (Ret fun v w' => ∃ (r : Bool) (p2 : Nat), v = .bool r ∧ (n ≤ 0 → r = false) ∧ p2 ≤ p + 1 ∧ Rd w' bR p2 ∧ Mod (fun i => i = bR) w w') := by
 refine enter Try.func73 rfl Try.ntmps73 (L := [_,_,_,_,_,_,_,_,_,_,_,_,_,_,_]) rfl ?_
 have G := Mod.refl (fun i => i = bR) w
 refine wp_seq_k fun K1 hK1 => ?_
 refine Sb 15 rfl ?_  -- 0
 refine S_val (Y_assign rfl) ?_
 refine S_nl rfl rfl ?_
 refine th_n (hK1 _ _ ?_)
 clear hK1 K1
 refine wp_seq_k fun K2 hK2 => ?_
 refine Sb 15 rfl ?_  -- 1
 refine S_val (Y_move rfl) ?_
 refine S_val (Y_gtr rfl rfl) ?_
 refine S_val (Y_move rfl) ?_
 refine S_g 7 rfl (fun hb1 => ?_) (fun hb1 => ?_)  -- g1
 · -- g1T
  replace hb1 := nb_tt hb1
  refine S_on rfl rfl ?_
  refine S_val (Y_move rfl) ?_
  refine S_on rfl rfl ?_
  refine S_val (Y_move rfl) ?_
  refine S_on rfl rfl ?_
  refine S_call rfl en69 (spec_l20Rd_pick_c _ _ _ _ RD (by omega) (by omega)) ?_  -- k1 (*spec.l20Rd).pick
  rintro v1 w1 ⟨k1, rfl, hk1, RD1, m1⟩
  replace RD := RD1
  clear RD1
  replace G := Mod.trans' G m1 (fun _ h _ => h) (fun i h hl => by first | exact h | omega | (dsimp only at h; omega))
  have zm1 := m1.size
  refine S_on rfl rfl ?_
  refine S_val (Y_move rfl) ?_
  refine S_on rfl rfl ?_
  refine S_val (Y_sub rfl rfl rfl (by omega) (by omega)) ?_
  refine S_on rfl rfl ?_
  refine S_val (Y_eql rfl rfl) ?_
  refine S_val (Y_pickT rfl rfl) ?_
  refine S_val (Y_assign rfl) ?_
  refine S_nl rfl rfl ?_
  refine th_n (hK2 _ _ ?_)
  clear hK2 K2
  refine wp_ret ?_
  refine ret_r1 rfl rfl ?_  -- r1
  exact ⟨_, _, rfl, fun h => by omega, by omega, RD, G⟩
 · -- g1F
  replace hb1 := nb_tf hb1
  refine S_off rfl rfl ?_
  refine S_off rfl rfl ?_
  refine S_off rfl rfl ?_
  refine S_off rfl rfl ?_
  refine S_off rfl rfl ?_
  refine S_off rfl rfl ?_
  refine S_val (Y_pickF rfl rfl) ?_
  refine S_val (Y_assign rfl) ?_
  refine S_nl rfl rfl ?_
  refine th_n (hK2 _ _ ?_)
  clear hK2 K2
  refine wp_ret ?_
  refine ret_r1 rfl rfl ?_  -- r2
  exact ⟨_, _, rfl, fun _ => rfl, by omega, RD, G⟩
end
end Go.Proofs.Ytikgflhepclfgac
