/-
  Walks: cells that are lost.
  Conditions: those that each theorem states.
-/
import Derived.Test.YtjmfdmndchoplaaTy
import Derived.Test.YtjmfdmndchoplaaWalkZ
import Derived.Test.YtjmfdmndchoplaaDead
namespace Go.Proofs.Ytjmfdmndchoplaa
open Go Go.RowKit
attribute [local irreducible] wpList wpAnyH Code.wp dOp

set_option maxHeartbeats 400000 in
set_option maxRecDepth 20000 in
theorem impl_deadCycle_c (Pr : Nat → Prop) (A B : Option Addr) (h : LH) (n c d : Nat) (w : World) (hA : RC Pr w A h.cells) (hB : R1 Pr w B (ints h.roots)) (hz : hsize h ≤ 1048576) (va : Valid h) (hnN : n < h.cells.length) (hun : usedAt h.cells n = true) :
    Calls Try.prog 76 #[.agg #[.slice A h.cells.length c, .slice B h.roots.length d], .int .i64 (n : Int)] w (Ret fun v w' => ∃ m : Nat, v = .int .u64 (m : Int) ∧ m < 2 ^ 64 ∧ (∀ i, m.testBit i = deadP h n i) ∧ Grow w w') := by
 have hz1 := hsize_cells h
 have hz2 := hsize_roots h
 have h40 := va.le
 have hl := va.leads
 refine enter Try.func76 rfl Try.ntmps76 (L := [_,_,_,_,_,_,_,_,_,_,_,_,_,_,_,_,_,_,_,_,_,_,_,_,_,_,_,_,_,_,_,_,_,_,_,_,_,_,_,_]) rfl ?_
 have G := Mod.refl No w
 have hA0 := hA
 have hB0 := hB
 refine wp_seq_k fun K1 hK1 => ?_
 refine Sb 40 rfl ?_  -- 0
 refine S_box (cs := [_, _]) rfl rfl ?_
 intro b1 w1 fb1 g1 B1
 have lb1 := B1.lt
 replace hA := hA.grow g1
 replace hB := hB.grow g1
 replace G := G.grow g1
 have zg1 := g1.size
 refine S_val (Y_assign rfl) ?_
 refine S_nl rfl rfl ?_
 refine th_n (hK1 _ _ ?_)
 clear hK1 K1
 refine wp_seq_k fun K2 hK2 => ?_
 refine Sb 40 rfl ?_  -- 1
 refine S_val (Y_loadS Try.underlying25 rfl sz25 rfl (B1.row (by rfl))) ?_  -- l1
 refine S_val (Y_move rfl) ?_
 refine S_call rfl en96 (impl_cellsFrom_c _ _ _ _ _ _ _ _ (by assumption) (by assumption) (by omega) (by assumption)) ?_  -- k1 impl.cellsFrom
 rintro v2 w2 ⟨m2, u2, rfl, hs2, hu2, hr2, g2⟩
 replace hA := hA.grow g2
 replace hB := hB.grow g2
 replace G := G.grow g2
 replace B1 := B1.grow g2
 have zg2 := g2.size
 have hM := fromM_set va hnN hun hs2 hu2 hr2
 refine S_val (Y_assign rfl) ?_
 refine S_nl rfl rfl ?_
 refine th_n (hK2 _ _ ?_)
 clear hK2 K2
 refine wp_seq_k fun K3 hK3 => ?_
 refine Sb 40 rfl ?_  -- 2
 refine S_bs0 Try.underlying22 sz3 ?_
 intro b3 w3 fb3 g3 B3
 have lb3 := B3.lt
 replace hA := hA.grow g3
 replace hB := hB.grow g3
 replace G := G.grow g3
 replace B1 := B1.grow g3
 have zg3 := g3.size
 refine S_val (Y_assign rfl) ?_
 refine S_nl rfl rfl ?_
 refine th_n (hK3 _ _ ?_)
 clear hK3 K3
 refine wp_seq_k fun K4 hK4 => ?_
 refine wp_seq_k fun K5 hK5 => ?_
 refine Sb 40 rfl ?_  -- 3
 refine S_val (Y_loadS Try.underlying25 rfl sz25 rfl (B1.row (by rfl))) ?_  -- l2
 refine S_val (Y_move rfl) ?_
 refine S_call rfl en97 (impl_refCounts_c _ _ _ h _ _ _ _ hA hB (by omega) hl hM.1) ?_  -- k2 impl.refCounts
 rintro v4 w4 ⟨b4, rfl, fb4, B4, g4⟩
 replace hA := hA.grow g4
 replace hB := hB.grow g4
 replace G := G.grow g4
 replace B1 := B1.grow g4
 replace B3 := B3.grow g4
 have zg4 := g4.size
 have lb4 := B4.lt
 rw [set_in hM] at B4
 have hRc := R1.of_blkE B4
 refine S_val (Y_len Try.underlying22 rfl) ?_
 refine S_val (Y_move rfl) ?_
 refine S_nl rfl rfl ?_
 refine th_n (hK5 _ _ ?_)
 clear hK5 K5
 refine wp_block ?_
 obtain ⟨wz, hwz⟩ : ∃ x, x = w4.heap.size := ⟨_, rfl⟩
 have O1 : OW (fun i => i = b3 ∨ wz ≤ i) w4 3 1 (some ⟨b3, 0, none⟩) 0 0 (ints []) := OW.of_blk B3 rfl (by decide) (.inl rfl)
 go_loopw [6, 17] (fun u6 u17 wr => (∃ (k q cap : Nat) (A1 : Option Addr), u17 = .int .i64 k ∧ u6 = .slice A1 q cap ∧ k ≤ h.cells.length ∧ q = (selL k (heldP h n)).length ∧ OW (fun i => i = b3 ∨ wz ≤ i) wr 3 1 A1 q cap (ints (selL k (heldP h n)))) ∧ Mod (fun i => i = b3 ∨ wz ≤ i) w4 wr) (fun u6 u17 wr => h.cells.length - (intOf u17).toNat)  -- L1
 case atStart =>
  refine ⟨?_, Mod.refl _ _⟩
  exact ⟨0, 0, 0, _, rfl, rfl, by omega, rfl, O1⟩
 case round =>
  obtain ⟨w5, rfl⟩ : ∃ x : World, x = wr := ⟨_, rfl⟩
  obtain ⟨hrel, g5⟩ := hrel
  clear O1
  replace G := G.abv g5
  replace hA := hA0.grow G
  replace hB := hB0.grow G
  replace hRc := hRc.md g5
  replace B1 := B1.md g5
  replace B4 := B4.md g5
  have zg5 := g5.size
  obtain ⟨k, q1, cap1, A1, rfl, rfl, hk, hq1, O1⟩ := hrel
  have hsl := selL_le k (heldP h n)
  have GL5 := g5
  refine wp_seq_k fun K6 hK6 => ?_
  refine Sb 40 rfl ?_  -- 4
  refine S_val (Y_lss rfl rfl) ?_
  refine S_nl rfl rfl ?_
  refine th_n (hK6 _ _ ?_)
  clear hK6 K6
  refine wp_seq_k fun K7 hK7 => ?_
  refine S_if rfl (fun hb1 => ?_) (fun hb1 => ?_)  -- c1
  · -- c1T
   replace hb1 := nb_tt hb1
   have hk1 : k < h.cells.length := by omega
   have hin : inB (fromM h n) k = hasB m2 k := by rw [hasB_nat]; exact (congrFun (set_in hM) k).symm
   have hk3 : k < (cntL h.cells.length (refsAll h (inB (fromM h n)))).length := by rw [cntL_len]; exact hk1
   obtain ⟨g4, o4, e4, hp4, hc4⟩ := hRc.int hk3
   cases e4
   have hme : (cntL h.cells.length (refsAll h (inB (fromM h n))))[k] = (((refsAll h (inB (fromM h n))).count (k : Int) : Nat) : Int) := by simp [cntL]
   rw [hme] at hc4
   refine wp_skip ?_
   refine th_n (hK7 _ _ ?_)
   clear hK7 K7
   refine wp_seq_k fun K8 hK8 => ?_
   refine wp_block ?_
   refine wp_seq_k fun K9 hK9 => ?_
   refine Sb 40 rfl ?_  -- 5
   refine S_val (Y_move rfl) ?_
   refine S_val (Y_index Try.underlying22 sz3 rfl rfl (by first | assumption | omega)) ?_
   refine S_val (Y_load Try.underlying3 rfl rfl (by first | assumption | exact B1.at (by rfl) | exact B4.at (by rfl))) ?_  -- l3
   refine S_val (Y_assign rfl) ?_
   refine S_val (Y_assign rfl) ?_
   refine S_nl rfl rfl ?_
   refine th_n (hK9 _ _ ?_)
   clear hK9 K9
   refine wp_seq_k fun K10 hK10 => ?_
   refine Sb 40 rfl ?_  -- 6
   refine S_val (Y_move rfl) ?_
   refine S_val (Y_move rfl) ?_
   refine S_call rfl en61 (impl_cellSet_has_c _ _ _ (by assumption)) ?_  -- k3 (impl.cellSet).has
   rintro v w' ⟨rfl, rfl⟩
   refine S_val (Y_move rfl) ?_
   refine S_g 25 rfl (fun hb2 => ?_) (fun hb2 => ?_)  -- g1
   · -- g1T
    first | with_reducible (replace hb2 := nb_nt hb2) | with_reducible (replace hb2 := nb_tt hb2) | with_reducible (replace hb2 := nb_bt hb2) | skip
    refine S_on rfl rfl ?_
    refine S_val (Y_move rfl) ?_
    refine S_on rfl rfl ?_
    refine S_val (Y_gtr rfl rfl) ?_
    refine S_val (Y_pickT rfl rfl) ?_
    refine S_nl rfl rfl ?_
    refine th_n (hK10 _ _ ?_)
    clear hK10 K10
    refine S_if rfl (fun hb3 => ?_) (fun hb3 => ?_)  -- c2
    · -- c2T
     first | with_reducible (replace hb3 := nb_nt hb3) | with_reducible (replace hb3 := nb_tt hb3) | with_reducible (replace hb3 := nb_bt hb3) | skip
     refine Sb 40 rfl ?_  -- 7
     refine S_val (Y_move rfl) ?_
     refine S_val (Y_move rfl) ?_
     refine S_bs1 (cs := [_]) Try.underlying22 zr3 sz3 rfl rfl rfl ?_
     intro b7 w7 fb7 g7 B7
     have lb7 := B7.lt
     replace hA := hA.grow g7
     replace hB := hB.grow g7
     replace hRc := hRc.grow g7
     replace O1 := O1.grow g7
     replace G := G.grow g7
     replace GL5 := GL5.grow g7
     replace B1 := B1.grow g7
     replace B4 := B4.grow g7
     have zg7 := g7.size
     refine S_app Try.underlying22 zr3 sz3 by3 rfl rfl O1 rfl (Src.blk B7) (by simp [Value.oneCell']) (by omega) (Pr' := fun i => i = b3 ∨ wz ≤ i) (fun i hi => hi) (by omega) ?_
     intro A8 cap8 w8 X8 m8
     replace O1 := X8
     rw [ints_app] at O1
     clear X8
     replace G := G.abv m8
     replace GL5 := GL5.trn m8
     replace hA := hA0.grow G
     replace hB := hB0.grow G
     replace hRc := hRc.md m8
     replace B1 := B1.md m8
     replace B4 := B4.md m8
     have zm8 := m8.size
     refine S_val (Y_assign rfl) ?_
     refine S_nl rfl rfl ?_
     refine ib_n ?_
     refine th_n (hK8 _ _ ?_)
     clear hK8 K8
     refine Sb 40 rfl ?_  -- 8
     refine S_val (Y_inc rfl rfl (by omega)) ?_
     refine S_val (Y_move rfl) ?_
     refine S_nl rfl rfl ?_
     refine th_n ?_
     go_roundw  -- e1 of L1
     case rel =>
      refine ⟨?_, GL5⟩
      have hP : heldP h n k = true := by unfold heldP; rw [hin, hb2, decide_eq_true hb3]; rfl
      exact ⟨k + 1, _, _, _, rfl, rfl, by omega, by rw [selL_yes hP, List.length_append, ← hq1]; rfl, by rw [selL_yes hP]; exact O1⟩
     case measure =>
      exact dec_nat (by omega)
    · -- c2F
     first | with_reducible (replace hb3 := nb_nf hb3) | with_reducible (replace hb3 := nb_tf hb3) | with_reducible (replace hb3 := nb_bf hb3) | skip
     refine wp_skip ?_
     refine ib_n ?_
     refine th_n (hK8 _ _ ?_)
     clear hK8 K8
     refine Sb 40 rfl ?_  -- 8
     refine S_val (Y_inc rfl rfl (by omega)) ?_
     refine S_val (Y_move rfl) ?_
     refine S_nl rfl rfl ?_
     refine th_n ?_
     go_roundw  -- e2 of L1
     case rel =>
      refine ⟨?_, GL5⟩
      have hP : heldP h n k = false := by unfold heldP; rw [hin, hb2, decide_eq_false hb3]; rfl
      exact ⟨k + 1, _, _, _, rfl, rfl, by omega, by rw [selL_no hP]; exact hq1, by rw [selL_no hP]; exact O1⟩
     case measure =>
      exact dec_nat (by omega)
   · -- g1F
    first | with_reducible (replace hb2 := nb_nf hb2) | with_reducible (replace hb2 := nb_tf hb2) | with_reducible (replace hb2 := nb_bf hb2) | skip
    refine S_off rfl rfl ?_
    refine S_off rfl rfl ?_
    refine S_val (Y_pickF rfl rfl) ?_
    refine S_nl rfl rfl ?_
    refine th_n (hK10 _ _ ?_)
    clear hK10 K10
    refine S_ifF rfl ?_
    refine wp_skip ?_
    refine ib_n ?_
    refine th_n (hK8 _ _ ?_)
    clear hK8 K8
    refine Sb 40 rfl ?_  -- 8
    refine S_val (Y_inc rfl rfl (by omega)) ?_
    refine S_val (Y_move rfl) ?_
    refine S_nl rfl rfl ?_
    refine th_n ?_
    go_roundw  -- e3 of L1
    case rel =>
     refine ⟨?_, GL5⟩
     have hP : heldP h n k = false := by unfold heldP; rw [hin, hb2]; rfl
     exact ⟨k + 1, _, _, _, rfl, rfl, by omega, by rw [selL_no hP]; exact hq1, by rw [selL_no hP]; exact O1⟩
    case measure =>
     exact dec_nat (by omega)
  · -- c1F
   replace hb1 := nb_tf hb1
   have hkN : k = h.cells.length := by omega
   subst hkN
   subst hq1
   have hRh := O1.oi.r1
   refine wp_exit ?_
   refine th_x ?_
   try clear GL5
   refine th_x ?_
   refine ib_e ?_
   refine th_n (hK4 _ _ ?_)
   clear hK7 K7 hK4 K4
   refine wp_seq_k fun K11 hK11 => ?_
   refine Sb 40 rfl ?_  -- 9
   refine S_val (Y_move rfl) ?_
   refine S_val (Y_loadS Try.underlying25 rfl sz25 rfl (B1.row (by rfl))) ?_  -- l4
   refine S_val (Y_move rfl) ?_
   refine S_val (Y_move rfl) ?_
   refine S_call rfl en98 (impl_closure_c _ _ _ _ _ h (heldL h n) _ _ _ _ _ hA hRh (by omega) (Nat.le_trans hsl (by omega)) hM.1 (from_lt hM) (by omega)) ?_  -- k4 impl.closure
   rintro v9 w9 ⟨s9, rfl, hs9, hr9, g9⟩
   replace hA := hA.grow g9
   replace hB := hB.grow g9
   replace hRc := hRc.grow g9
   replace O1 := O1.grow g9
   replace hRh := hRh.grow g9
   replace G := G.grow g9
   replace B1 := B1.grow g9
   replace B4 := B4.grow g9
   have zg9 := g9.size
   have hs9 := hs9
   have hD := dead_bits va hnN hM hs9 hr9
   refine S_val (Y_andNot rfl rfl (by first | assumption | exact SetOf.wlt (by assumption)) (by first | assumption | exact SetOf.wlt (by assumption))) ?_
   refine S_val (Y_assign rfl) ?_
   refine S_nl rfl rfl ?_
   refine th_n (hK11 _ _ ?_)
   clear hK11 K11
   refine wp_ret ?_
   refine ret_r1 rfl rfl ?_  -- r1
   exact ⟨_, rfl, lessN_lt hM.1, hD, G⟩

set_option maxHeartbeats 400000 in
set_option maxRecDepth 20000 in
theorem impl_DeadCycle_c (Pr : Nat → Prop) (A B : Option Addr) (h : LH) (c d : Nat) (x : Int) (w : World) (hA : RC Pr w A h.cells) (hB : R1 Pr w B (ints h.roots)) (hz : hsize h ≤ 1048576) :
    Calls Try.prog 29 #[.agg #[.slice A h.cells.length c, .slice B h.roots.length d], .int .i64 x] w (Ret fun v w' => ∃ A1 q cap, v = .slice A1 q cap ∧ q = (deadV h x).length ∧ OI (fun i => w.heap.size ≤ i) w' 4 A1 (bools (deadV h x)) ∧ Grow w w') := by
 have hz1 := hsize_cells h
 have hz2 := hsize_roots h
 refine enter Try.func29 rfl Try.ntmps29 (L := [_,_,_,_,_,_,_,_,_,_,_,_,_,_,_,_]) rfl ?_
 have G := Mod.refl No w
 have hA0 := hA
 have hB0 := hB
 refine wp_seq_k fun K1 hK1 => ?_
 refine Sb 16 rfl ?_  -- 0
 refine S_box (cs := [_, _]) rfl rfl ?_
 intro b1 w1 fb1 g1 B1
 have lb1 := B1.lt
 replace hA := hA.grow g1
 replace hB := hB.grow g1
 replace G := G.grow g1
 have zg1 := g1.size
 refine S_val (Y_assign rfl) ?_
 refine S_nl rfl rfl ?_
 refine th_n (hK1 _ _ ?_)
 clear hK1 K1
 refine wp_seq_k fun K2 hK2 => ?_
 refine wp_seq_k fun K3 hK3 => ?_
 refine Sb 16 rfl ?_  -- 1
 refine S_val (Y_loadS Try.underlying25 rfl sz25 rfl (B1.row (by rfl))) ?_  -- l1
 refine S_val (Y_move rfl) ?_
 refine S_call rfl en75 (impl_isUsed_c _ _ _ _ _ _ _ _ (by assumption) (by assumption) (by omega)) ?_  -- k1 impl.isUsed
 rintro v2 w2 ⟨rfl, g2⟩
 replace hA := hA.grow g2
 replace hB := hB.grow g2
 replace G := G.grow g2
 replace B1 := B1.grow g2
 have zg2 := g2.size
 refine S_val (Y_not rfl) ?_
 refine S_nl rfl rfl ?_
 refine th_n (hK3 _ _ ?_)
 clear hK3 K3
 refine S_if rfl (fun hb1 => ?_) (fun hb1 => ?_)  -- c1
 · -- c1T
  first | with_reducible (replace hb1 := nb_nt hb1) | with_reducible (replace hb1 := nb_tt hb1) | with_reducible (replace hb1 := nb_bt hb1) | skip
  refine wp_seq_k fun K4 hK4 => ?_
  refine Sb 16 rfl ?_  -- 2
  refine S_val (Y_assign rfl) ?_
  refine S_nl rfl rfl ?_
  refine th_n (hK4 _ _ ?_)
  clear hK4 K4
  refine wp_ret ?_
  refine th_r ?_
  clear hK2 K2
  refine ret_r1 rfl rfl ?_  -- r1
  exact ⟨_, _, _, rfl, by rw [deadV_f hb1]; rfl, by rw [deadV_f hb1]; exact OI.nil _ _ _ _, G⟩
 · -- c1F
  first | with_reducible (replace hb1 := nb_nf hb1) | with_reducible (replace hb1 := nb_tf hb1) | with_reducible (replace hb1 := nb_bf hb1) | skip
  obtain ⟨n, rfl, hnN, hv, hun⟩ := usedR_lt hb1
  have va := valid_iff.1 hv
  have h40 := va.le
  refine wp_skip ?_
  refine th_n (hK2 _ _ ?_)
  clear hK2 K2
  refine wp_seq_k fun K5 hK5 => ?_
  refine D_start 8 16 (fun w => Mod (No) w) follows rfl rfl ?_  -- d1 r3
  intro w3 g3
  replace hA := hA.grow g3
  replace hB := hB.grow g3
  replace G := G.grow g3
  replace B1 := B1.grow g3
  have zg3 := g3.size
  have GS3 := Mod.refl (No) w3
  have B1d3 := B1
  refine Dq (i := 0) rfl GS3 (fun _ hs => Y_loadS Try.underlying25 rfl sz25 rfl (by first | exact hs.cells0 (B1.row (by rfl)))) ?_
  refine Dq (i := 1) rfl GS3 (fun _ _ => Y_move rfl) ?_
  refine Dq (i := 3) rfl GS3 (fun _ _ => Y_field Try.underlying25 rfl fz25_0 (by decide) rfl) ?_
  refine Dq (i := 4) rfl GS3 (fun _ hs => Y_load Try.underlying23 rfl rfl (hs.cell0 (B1.at (by rfl)))) ?_
  refine Dq (i := 5) rfl GS3 (fun _ _ => Y_len Try.underlying23 rfl) ?_
  refine D_1 (i := 2) (by kernel_rfl) ?_
  refine E_call rfl rfl en76 (impl_deadCycle_c _ _ _ _ _ _ _ _ (by assumption) (by assumption) (by omega) (by assumption) (by assumption) (by assumption)) ?_  -- k2 impl.deadCycle
  rintro v4 w4 ⟨m4, rfl, hs4, hr4, g4⟩
  replace hA := hA.grow g4
  replace hB := hB.grow g4
  replace G := G.grow g4
  replace GS3 := GS3.grow g4
  replace B1 := B1.grow g4
  have zg4 := g4.size
  have hD := hr4
  refine ⟨GS3, ?_⟩
  refine D_1 (i := 6) (by kernel_rfl) ?_
  refine E_call rfl rfl en65 (impl_cellSet_list_c _ _ _ (by first | assumption | exact SetOf.wlt (by assumption)) (by omega)) ?_  -- k3 (impl.cellSet).list
  rintro v5 w5 ⟨b5, rfl, fb5, B5, g5⟩
  replace hA := hA.grow g5
  replace hB := hB.grow g5
  replace G := G.grow g5
  replace GS3 := GS3.grow g5
  replace B1 := B1.grow g5
  have zg5 := g5.size
  have lb5 := B5.lt
  refine ⟨GS3, ?_⟩
  refine Dq (i := 7) rfl GS3 (fun _ _ => Y_assign rfl) ?_
  refine D_en (by kernel_rfl) rfl rfl ?_
  refine th_n (hK5 _ _ ?_)
  clear hK5 K5
  refine wp_ret ?_
  refine ret_r1 rfl rfl ?_  -- r2
  exact ⟨_, _, _, rfl, by rw [deadV_t hb1, deadL_len], by rw [deadV_t hb1, ← dead_list hD]; exact OI.of_blk' (by assumption) (by omega), G⟩

set_option maxHeartbeats 4000000 in
set_option maxRecDepth 20000 in
theorem spec_DeadCycle_c (Pr : Nat → Prop) (A B : Option Addr) (h : LH) (c d : Nat) (x : Int) (w : World) (hA : RC Pr w A h.cells) (hB : R1 Pr w B (ints h.roots)) (hz : hsize h ≤ 1048576) (hx : -9223372036854775808 ≤ x ∧ x ≤ 9223372036854775807) :
    Calls Try.prog 28 #[.agg #[.slice A h.cells.length c, .slice B h.roots.length d], .int .i64 x] w (Ret fun v w' => ∃ A1 q cap, v = .slice A1 q cap ∧ q = (deadV h x).length ∧ OI (fun i => w.heap.size ≤ i) w' 4 A1 (bools (deadV h x)) ∧ Grow w w') := by
 have hz1 := hsize_cells h
 have hz2 := hsize_roots h
 have hfl := fromV_len h x
 have htl := triV_len h (fromV h x)
 refine enter Try.func28 rfl Try.ntmps28 (L := [_,_,_,_,_,_,_,_,_,_,_,_,_,_,_,_,_,_,_,_,_,_,_,_,_,_,_,_,_,_,_,_,_,_,_,_,_,_,_,_,_,_,_,_,_,_,_,_,_,_,_,_,_,_,_,_,_,_,_,_,_,_,_,_,_,_]) rfl ?_
 have G := Mod.refl No w
 have hA0 := hA
 have hB0 := hB
 refine wp_seq_k fun K1 hK1 => ?_
 refine Sb 66 rfl ?_  -- 0
 refine S_box (cs := [_, _]) rfl rfl ?_
 intro b1 w1 fb1 g1 B1
 have lb1 := B1.lt
 replace hA := hA.grow g1
 replace hB := hB.grow g1
 replace G := G.grow g1
 have zg1 := g1.size
 refine S_val (Y_assign rfl) ?_
 refine S_nl rfl rfl ?_
 refine th_n (hK1 _ _ ?_)
 clear hK1 K1
 refine wp_seq_k fun K2 hK2 => ?_
 refine Sb 66 rfl ?_  -- 1
 refine S_val (Y_loadS Try.underlying25 rfl sz25 rfl (B1.row (by rfl))) ?_  -- l1
 refine S_val (Y_move rfl) ?_
 refine S_call rfl en72 (spec_CellsFrom_c _ _ _ _ _ _ _ _ (by assumption) (by assumption) (by omega) (by assumption)) ?_  -- k1 spec.CellsFrom
 rintro v2 w2 ⟨A2, q2, cap2, rfl, hq2, O2, g2⟩
 replace hA := hA.grow g2
 replace hB := hB.grow g2
 replace G := G.grow g2
 replace B1 := B1.grow g2
 have zg2 := g2.size
 subst hq2
 replace O2 := O2.lt
 have OXs := O2
 have hRs := OXs.r1
 refine S_val (Y_assign rfl) ?_
 refine S_nl rfl rfl ?_
 refine th_n (hK2 _ _ ?_)
 clear hK2 K2
 refine wp_seq_k fun K3 hK3 => ?_
 refine Sb 66 rfl ?_  -- 2
 refine S_val (Y_loadS Try.underlying25 rfl sz25 rfl (B1.row (by rfl))) ?_  -- l2
 refine S_val (Y_move rfl) ?_
 refine S_call rfl en73 (spec_TrialCounts_c _ _ _ _ _ h (fromV h x) _ _ _ _ hA hB hRs (by omega) (by omega)) ?_  -- k2 spec.TrialCounts
 rintro v3 w3 ⟨A3, q3, cap3, rfl, hq3, O3, g3⟩
 replace hA := hA.grow g3
 replace hB := hB.grow g3
 replace OXs := OXs.grow g3
 replace hRs := hRs.grow g3
 replace G := G.grow g3
 replace B1 := B1.grow g3
 have zg3 := g3.size
 subst hq3
 replace O3 := O3.lt
 have OXt := O3
 have hRt := OXt.r1
 refine S_val (Y_assign rfl) ?_
 refine S_nl rfl rfl ?_
 refine th_n (hK3 _ _ ?_)
 clear hK3 K3
 refine wp_seq_k fun K4 hK4 => ?_
 refine Sb 66 rfl ?_  -- 3
 refine S_bs0 Try.underlying22 sz3 ?_
 intro b4 w4 fb4 g4 B4
 have lb4 := B4.lt
 replace hA := hA.grow g4
 replace hB := hB.grow g4
 replace OXs := OXs.grow g4
 replace hRs := hRs.grow g4
 replace OXt := OXt.grow g4
 replace hRt := hRt.grow g4
 replace G := G.grow g4
 replace B1 := B1.grow g4
 have zg4 := g4.size
 refine S_val (Y_assign rfl) ?_
 refine S_nl rfl rfl ?_
 refine th_n (hK4 _ _ ?_)
 clear hK4 K4
 refine wp_seq_k fun K5 hK5 => ?_
 refine wp_seq_k fun K6 hK6 => ?_
 refine Sb 66 rfl ?_  -- 4
 refine S_val (Y_assign rfl) ?_
 refine S_nl rfl rfl ?_
 refine th_n (hK6 _ _ ?_)
 clear hK6 K6
 refine wp_block ?_
 obtain ⟨wz, hwz⟩ : ∃ x, x = w4.heap.size := ⟨_, rfl⟩
 have O1 : OW (fun i => i = b4 ∨ wz ≤ i) w4 3 1 (some ⟨b4, 0, none⟩) 0 0 (ints []) := OW.of_blk B4 rfl (by decide) (.inl rfl)
 go_loopw [7, 8] (fun u7 u8 wr => (∃ (k q cap : Nat) (A1 : Option Addr), u8 = .int .i64 k ∧ u7 = .slice A1 q cap ∧ k ≤ (triV h (fromV h x)).length ∧ q = (selL k (heldP h x.toNat)).length ∧ OW (fun i => i = b4 ∨ wz ≤ i) wr 3 1 A1 q cap (ints (selL k (heldP h x.toNat)))) ∧ Mod (fun i => i = b4 ∨ wz ≤ i) w4 wr) (fun u7 u8 wr => (triV h (fromV h x)).length - (intOf u8).toNat)  -- L1
 case atStart =>
  refine ⟨?_, Mod.refl _ _⟩
  exact ⟨0, 0, 0, _, rfl, rfl, by omega, rfl, O1⟩
 case round =>
  obtain ⟨w5, rfl⟩ : ∃ x : World, x = wr := ⟨_, rfl⟩
  obtain ⟨hrel, g5⟩ := hrel
  clear O1
  replace G := G.abv g5
  replace hA := hA0.grow G
  replace hB := hB0.grow G
  replace OXs := OXs.md g5
  replace hRs := hRs.md g5
  replace OXt := OXt.md g5
  replace hRt := hRt.md g5
  replace B1 := B1.md g5
  have zg5 := g5.size
  obtain ⟨k, q1, cap1, A1, rfl, rfl, hk, hq1, O1⟩ := hrel
  have hsl := selL_le k (heldP h x.toNat)
  have GL5 := g5
  refine wp_seq_k fun K7 hK7 => ?_
  refine wp_seq_k fun K8 hK8 => ?_
  refine Sb 66 rfl ?_  -- 5
  refine S_val (Y_move rfl) ?_
  refine S_val (Y_move rfl) ?_
  refine S_val (Y_len Try.underlying22 rfl) ?_
  refine S_val (Y_lss rfl rfl) ?_
  refine S_val (Y_move rfl) ?_
  refine S_g 22 rfl (fun hb1 => ?_) (fun hb1 => ?_)  -- g1
  · -- g1T
   replace hb1 := nb_tt hb1
   refine S_on rfl rfl ?_
   refine S_val (Y_move rfl) ?_
   refine S_on rfl rfl ?_
   refine S_val (Y_len Try.underlying38 rfl) ?_
   refine S_on rfl rfl ?_
   refine S_val (Y_gtr rfl rfl) ?_
   refine S_val (Y_pickT rfl rfl) ?_
   refine S_nl rfl rfl ?_
   refine th_n (hK8 _ _ ?_)
   clear hK8 K8
   refine S_if rfl (fun hb2 => ?_) (fun hb2 => ?_)  -- c1
   · -- c1T
    first | with_reducible (replace hb2 := nb_nt hb2) | with_reducible (replace hb2 := nb_tt hb2) | with_reducible (replace hb2 := nb_bt hb2) | skip
    have hu := fromV_pos (show 0 < (fromV h x).length by omega)
    obtain ⟨n, rfl, hnN, hv, hun⟩ := usedR_lt hu
    have hk1 : k < (triV h (fromV h (n : Int))).length := by omega
    obtain ⟨g4, o4, e4, hp4, hc4⟩ := hRt.int hk1
    cases e4
    rw [from_tri hv hnN hun hu hk1] at hc4
    have hP : heldP h (n : Int).toNat k = decide (0 < tri1 h (fromM h n) k) := by rw [Int.toNat_natCast]; exact heldP_tri h n k
    refine wp_skip ?_
    refine th_n (hK7 _ _ ?_)
    clear hK7 K7
    refine wp_seq_k fun K9 hK9 => ?_
    refine wp_block ?_
    refine wp_seq_k fun K10 hK10 => ?_
    refine Sb 66 rfl ?_  -- 7
    refine S_val (Y_move rfl) ?_
    refine S_val (Y_move rfl) ?_
    refine S_val (Y_index Try.underlying22 sz3 rfl rfl (by first | assumption | omega)) ?_
    refine S_val (Y_load Try.underlying3 rfl rfl (by first | assumption | exact B1.at (by rfl))) ?_  -- l3
    refine S_val (Y_gtr rfl rfl) ?_
    refine S_nl rfl rfl ?_
    refine th_n (hK10 _ _ ?_)
    clear hK10 K10
    refine S_if rfl (fun hb3 => ?_) (fun hb3 => ?_)  -- c2
    · -- c2T
     replace hb3 := nb_tt hb3
     refine Sb 66 rfl ?_  -- 8
     refine S_val (Y_move rfl) ?_
     refine S_val (Y_move rfl) ?_
     refine S_bs1 (cs := [_]) Try.underlying22 zr3 sz3 rfl rfl rfl ?_
     intro b6 w6 fb6 g6 B6
     have lb6 := B6.lt
     replace hA := hA.grow g6
     replace hB := hB.grow g6
     replace OXs := OXs.grow g6
     replace hRs := hRs.grow g6
     replace OXt := OXt.grow g6
     replace hRt := hRt.grow g6
     replace O1 := O1.grow g6
     replace G := G.grow g6
     replace GL5 := GL5.grow g6
     replace B1 := B1.grow g6
     have zg6 := g6.size
     refine S_app Try.underlying22 zr3 sz3 by3 rfl rfl O1 rfl (Src.blk B6) (by simp [Value.oneCell']) (by omega) (Pr' := fun i => i = b4 ∨ wz ≤ i) (fun i hi => hi) (by omega) ?_
     intro A7 cap7 w7 X7 m7
     replace O1 := X7
     rw [ints_app] at O1
     clear X7
     replace G := G.abv m7
     replace GL5 := GL5.trn m7
     replace hA := hA0.grow G
     replace hB := hB0.grow G
     replace OXs := OXs.md m7
     replace hRs := hRs.md m7
     replace OXt := OXt.md m7
     replace hRt := hRt.md m7
     replace B1 := B1.md m7
     have zm7 := m7.size
     refine S_val (Y_assign rfl) ?_
     refine S_nl rfl rfl ?_
     refine ib_n ?_
     refine th_n (hK9 _ _ ?_)
     clear hK9 K9
     refine Sb 66 rfl ?_  -- 6
     refine S_val (Y_move rfl) ?_
     refine S_val (Y_inc rfl rfl (by omega)) ?_
     refine S_val (Y_assign rfl) ?_
     refine S_nl rfl rfl ?_
     refine th_n ?_
     go_roundw  -- e1 of L1
     case rel =>
      refine ⟨?_, GL5⟩
      rw [decide_eq_true hb3] at hP
      exact ⟨k + 1, _, _, _, rfl, rfl, by omega, by rw [selL_yes hP, List.length_append, ← hq1]; rfl, by rw [selL_yes hP]; exact O1⟩
     case measure =>
      exact dec_nat (by omega)
    · -- c2F
     replace hb3 := nb_tf hb3
     refine wp_skip ?_
     refine ib_n ?_
     refine th_n (hK9 _ _ ?_)
     clear hK9 K9
     refine Sb 66 rfl ?_  -- 6
     refine S_val (Y_move rfl) ?_
     refine S_val (Y_inc rfl rfl (by omega)) ?_
     refine S_val (Y_assign rfl) ?_
     refine S_nl rfl rfl ?_
     refine th_n ?_
     go_roundw  -- e2 of L1
     case rel =>
      refine ⟨?_, GL5⟩
      rw [decide_eq_false hb3] at hP
      exact ⟨k + 1, _, _, _, rfl, rfl, by omega, by rw [selL_no hP]; exact hq1, by rw [selL_no hP]; exact O1⟩
     case measure =>
      exact dec_nat (by omega)
   · -- c1F
    first | with_reducible (replace hb2 := nb_nf hb2) | with_reducible (replace hb2 := nb_tf hb2) | with_reducible (replace hb2 := nb_bf hb2) | skip
    refine wp_exit ?_
    refine th_x ?_
    try clear GL5
    refine th_x ?_
    refine ib_e ?_
    refine th_n (hK5 _ _ ?_)
    clear hK7 K7 hK5 K5
    refine wp_seq_k fun K11 hK11 => ?_
    refine wp_seq_k fun K12 hK12 => ?_
    refine Sb 66 rfl ?_  -- 9
    refine S_val (Y_move rfl) ?_
    refine S_val (Y_len Try.underlying38 rfl) ?_
    refine S_val (Y_eql rfl rfl) ?_
    refine S_nl rfl rfl ?_
    refine th_n (hK12 _ _ ?_)
    clear hK12 K12
    refine S_if rfl (fun hb3 => ?_) (fun hb3 => ?_)  -- c3
    · -- c3T
     replace hb3 := nb_tt hb3
     refine wp_seq_k fun K13 hK13 => ?_
     refine Sb 66 rfl ?_  -- 10
     refine S_bs0 Try.underlying38 sz4 ?_
     intro b8 w8 fb8 g8 B8
     have lb8 := B8.lt
     replace hA := hA.grow g8
     replace hB := hB.grow g8
     replace OXs := OXs.grow g8
     replace hRs := hRs.grow g8
     replace OXt := OXt.grow g8
     replace hRt := hRt.grow g8
     replace O1 := O1.grow g8
     replace G := G.grow g8
     replace B1 := B1.grow g8
     have zg8 := g8.size
     refine S_val (Y_assign rfl) ?_
     refine S_nl rfl rfl ?_
     refine th_n (hK13 _ _ ?_)
     clear hK13 K13
     refine wp_ret ?_
     refine th_r ?_
     clear hK11 K11
     refine ret_r1 rfl rfl ?_  -- r1
     exact ⟨_, _, _, rfl, by rw [deadV_none (by omega)]; rfl, by rw [deadV_none (by omega)]; exact OI.nil _ _ _ _, G⟩
    · -- c3F
     replace hb3 := nb_tf hb3
     omega
  · -- g1F
   replace hb1 := nb_tf hb1
   refine S_off rfl rfl ?_
   refine S_off rfl rfl ?_
   refine S_off rfl rfl ?_
   refine S_val (Y_pickF rfl rfl) ?_
   refine S_nl rfl rfl ?_
   refine th_n (hK8 _ _ ?_)
   clear hK8 K8
   refine S_ifF rfl ?_
   refine wp_exit ?_
   refine th_x ?_
   try clear GL5
   refine th_x ?_
   refine ib_e ?_
   refine th_n (hK5 _ _ ?_)
   clear hK7 K7 hK5 K5
   refine wp_seq_k fun K14 hK14 => ?_
   refine wp_seq_k fun K15 hK15 => ?_
   refine Sb 66 rfl ?_  -- 9
   refine S_val (Y_move rfl) ?_
   refine S_val (Y_len Try.underlying38 rfl) ?_
   refine S_val (Y_eql rfl rfl) ?_
   refine S_nl rfl rfl ?_
   refine th_n (hK15 _ _ ?_)
   clear hK15 K15
   refine S_if rfl (fun hb2 => ?_) (fun hb2 => ?_)  -- c4
   · -- c4T
    replace hb2 := nb_tt hb2
    refine wp_seq_k fun K16 hK16 => ?_
    refine Sb 66 rfl ?_  -- 10
    refine S_bs0 Try.underlying38 sz4 ?_
    intro b9 w9 fb9 g9 B9
    have lb9 := B9.lt
    replace hA := hA.grow g9
    replace hB := hB.grow g9
    replace OXs := OXs.grow g9
    replace hRs := hRs.grow g9
    replace OXt := OXt.grow g9
    replace hRt := hRt.grow g9
    replace O1 := O1.grow g9
    replace G := G.grow g9
    replace B1 := B1.grow g9
    have zg9 := g9.size
    refine S_val (Y_assign rfl) ?_
    refine S_nl rfl rfl ?_
    refine th_n (hK16 _ _ ?_)
    clear hK16 K16
    refine wp_ret ?_
    refine th_r ?_
    clear hK14 K14
    refine ret_r1 rfl rfl ?_  -- r2
    exact ⟨_, _, _, rfl, by rw [deadV_none (by omega)]; rfl, by rw [deadV_none (by omega)]; exact OI.nil _ _ _ _, G⟩
   · -- c4F
    replace hb2 := nb_tf hb2
    have hu := fromV_pos (show 0 < (fromV h x).length by omega)
    obtain ⟨n, rfl, hnN, hv, hun⟩ := usedR_lt hu
    have va := valid_iff.1 hv
    have h40 := va.le
    have htn := from_tri_len hv hnN hun hu
    have hkN0 : k = h.cells.length := by omega
    subst hkN0
    rw [Int.toNat_natCast] at hq1 O1 hsl
    subst hq1
    have hRh := O1.oi.r1
    have hfe := fromV_n hu
    have hfl2 : (fromV h (n : Int)).length = h.cells.length := by rw [hfe]; exact fromM_len h n
    obtain ⟨bs, post, rfl, hps, Bs⟩ := OXs (fun e => by
      have h0 := congrArg List.length e
      rw [bools_len, hfl2] at h0
      exact absurd h0 (by simp only [List.length_nil]; omega))
    rw [hfe] at Bs
    have hlbs := Bs.lt
    refine wp_skip ?_
    refine th_n (hK14 _ _ ?_)
    clear hK14 K14
    refine wp_seq_k fun K17 hK17 => ?_
    refine Sb 66 rfl ?_  -- 11
    refine S_val (Y_loadS Try.underlying25 rfl sz25 rfl (B1.row (by rfl))) ?_  -- l4
    refine S_val (Y_move rfl) ?_
    refine S_call rfl en74 (spec_l7Reach_c _ _ _ _ _ h (heldL h n) _ _ _ _ hA hRh (by omega) (Nat.le_trans hsl (by omega)) (heldL_leads va n)) ?_  -- k3 spec.l7Reach
    rintro v10 w10 ⟨b10, rfl, fb10, B10, g10⟩
    replace hA := hA.grow g10
    replace hB := hB.grow g10
    replace OXt := OXt.grow g10
    replace hRt := hRt.grow g10
    replace O1 := O1.grow g10
    replace hRh := hRh.grow g10
    replace G := G.grow g10
    replace B1 := B1.grow g10
    replace Bs := Bs.grow g10
    have zg10 := g10.size
    have lb10 := B10.lt
    have hRB := R1.of_blkE B10
    refine S_val (Y_assign rfl) ?_
    refine S_nl rfl rfl ?_
    refine th_n (hK17 _ _ ?_)
    clear hK17 K17
    refine wp_seq_k fun K18 hK18 => ?_
    refine wp_seq_k fun K19 hK19 => ?_
    refine Sb 66 rfl ?_  -- 12
    refine S_val (Y_assign rfl) ?_
    refine S_nl rfl rfl ?_
    refine th_n (hK19 _ _ ?_)
    clear hK19 K19
    refine wp_block ?_
    go_loopw [10] (fun u10 wr => (∃ k : Nat, u10 = .int .i64 k ∧ k ≤ h.cells.length ∧ Blk wr bs 4 (bools (deadM h n k) ++ post).toArray) ∧ Mod (fun i => i = bs) w10 wr) (fun u10 wr => h.cells.length - (intOf u10).toNat)  -- L2
    case atStart =>
     refine ⟨?_, Mod.refl _ _⟩
     exact ⟨0, rfl, by omega, by rw [deadM_zero]; exact Bs⟩
    case round =>
     obtain ⟨w11, rfl⟩ : ∃ x : World, x = wr := ⟨_, rfl⟩
     obtain ⟨hrel, g11⟩ := hrel
     clear Bs
     replace G := G.abv g11
     replace hA := hA0.grow G
     replace hB := hB0.grow G
     replace OXt := OXt.md g11
     replace hRt := hRt.md g11
     replace O1 := O1.md g11
     replace hRh := hRh.md g11
     replace hRB := hRB.md g11
     replace B1 := B1.md g11
     replace B10 := B10.md g11
     have zg11 := g11.size
     obtain ⟨k, rfl, hk2, Bs⟩ := hrel
     have GL11 := g11
     refine wp_seq_k fun K20 hK20 => ?_
     refine wp_seq_k fun K21 hK21 => ?_
     refine Sb 66 rfl ?_  -- 13
     refine S_val (Y_move rfl) ?_
     refine S_val (Y_move rfl) ?_
     refine S_val (Y_len Try.underlying38 rfl) ?_
     refine S_val (Y_lss rfl rfl) ?_
     refine S_nl rfl rfl ?_
     refine th_n (hK21 _ _ ?_)
     clear hK21 K21
     refine S_if rfl (fun hb3 => ?_) (fun hb3 => ?_)  -- c5
     · -- c5T
      replace hb3 := nb_tt hb3
      have hkN : k < h.cells.length := by omega
      have hk3 : k < (mB h.cells.length (orderL h.cells (heldL h n) nn)).length := by rw [mB_len]; exact hkN
      obtain ⟨g5, o5, e5, hp5, hc5⟩ := hRB.bool hk3
      cases e5
      have hme : (mB h.cells.length (orderL h.cells (heldL h n) nn))[k] = decide ((k : Int) ∈ orderL h.cells (heldL h n) nn) := by simp [mB]
      rw [hme] at hc5
      have hRS : R1 (fun _ => True) w11 (some ⟨bs, 0, none⟩) (bools (deadM h n k)) := R1.of_blk (post := post) Bs trivial
      have hk4 : k < (deadM h n k).length := by rw [deadM_len]; exact hkN
      obtain ⟨g6, o6, e6, hp6, hc6⟩ := hRS.bool hk4
      cases e6
      have hmd : (deadM h n k)[k] = inB (fromM h n) k := by simp [deadM]
      rw [hmd] at hc6
      refine wp_skip ?_
      refine th_n (hK20 _ _ ?_)
      clear hK20 K20
      refine wp_seq_k fun K22 hK22 => ?_
      refine wp_block ?_
      refine Sb 66 rfl ?_  -- 15
      refine S_val (Y_move rfl) ?_
      refine S_val (Y_move rfl) ?_
      refine S_val (Y_move rfl) ?_
      refine S_val (Y_move rfl) ?_
      refine S_val (Y_index Try.underlying38 sz4 rfl rfl (by first | assumption | omega)) ?_
      refine S_val (Y_load Try.underlying4 rfl rfl (by first | assumption | exact B1.at (by rfl) | exact B10.at (by rfl) | exact Bs.at (by rfl))) ?_  -- l5
      refine S_val (Y_move rfl) ?_
      refine S_g 57 rfl (fun hb4 => ?_) (fun hb4 => ?_)  -- g2
      · -- g2T
       first | with_reducible (replace hb4 := nb_nt hb4) | with_reducible (replace hb4 := nb_tt hb4) | with_reducible (replace hb4 := nb_bt hb4) | skip
       refine S_on rfl rfl ?_
       refine S_val (Y_move rfl) ?_
       refine S_on rfl rfl ?_
       refine S_val (Y_move rfl) ?_
       refine S_on rfl rfl ?_
       refine S_val (Y_index Try.underlying38 sz4 rfl rfl (by first | assumption | omega)) ?_
       refine S_on rfl rfl ?_
       refine S_val (Y_load Try.underlying4 rfl rfl (by first | assumption | exact B1.at (by rfl) | exact B10.at (by rfl) | exact Bs.at (by rfl))) ?_  -- l6
       refine S_on rfl rfl ?_
       refine S_val (Y_not rfl) ?_
       refine S_val (Y_pickT rfl rfl) ?_
       refine S_val (Y_index Try.underlying38 sz4 rfl rfl (by first | assumption | omega)) ?_
       have hdp : deadP h n k = !decide ((k : Int) ∈ orderL h.cells (heldL h n) nn) := by unfold deadP; rw [hb4]; rfl
       refine S_stM (pre := (bools (deadM h n k)).take k) (old := [.bool (inB (fromM h n) k)]) (post := (bools (deadM h n k)).drop (k + 1) ++ post) (vs := [_]) sz4 rfl rfl rfl rfl (by rw [← List.append_assoc, ← deadM_split hkN]; exact Bs) (by rw [List.length_take, bools_len, deadM_len]; omega) rfl ?_
       intro w12 m12 X12
       replace Bs := Blk.eq X12 (by rw [← List.append_assoc, ← hdp, deadM_set hkN])
       clear X12
       replace G := G.abv m12
       replace GL11 := GL11.trn m12
       replace hA := hA0.grow G
       replace hB := hB0.grow G
       replace OXt := OXt.md m12
       replace hRt := hRt.md m12
       replace O1 := O1.md m12
       replace hRh := hRh.md m12
       replace hRB := hRB.md m12
       replace B1 := B1.md m12
       replace B10 := B10.md m12
       have zm12 := m12.size
       refine S_nl rfl rfl ?_
       refine ib_n ?_
       refine th_n (hK22 _ _ ?_)
       clear hK22 K22
       refine Sb 66 rfl ?_  -- 14
       refine S_val (Y_move rfl) ?_
       refine S_val (Y_inc rfl rfl (by omega)) ?_
       refine S_val (Y_assign rfl) ?_
       refine S_nl rfl rfl ?_
       refine th_n ?_
       go_roundw  -- e3 of L2
       case rel =>
        refine ⟨?_, GL11⟩
        exact ⟨k + 1, rfl, by omega, Bs⟩
       case measure =>
        exact dec_nat (by omega)
      · -- g2F
       first | with_reducible (replace hb4 := nb_nf hb4) | with_reducible (replace hb4 := nb_tf hb4) | with_reducible (replace hb4 := nb_bf hb4) | skip
       refine S_off rfl rfl ?_
       refine S_off rfl rfl ?_
       refine S_off rfl rfl ?_
       refine S_off rfl rfl ?_
       refine S_off rfl rfl ?_
       refine S_val (Y_pickF rfl rfl) ?_
       refine S_val (Y_index Try.underlying38 sz4 rfl rfl (by first | assumption | omega)) ?_
       have hdp : deadP h n k = false := by unfold deadP; rw [hb4]; rfl
       refine S_stM (pre := (bools (deadM h n k)).take k) (old := [.bool (inB (fromM h n) k)]) (post := (bools (deadM h n k)).drop (k + 1) ++ post) (vs := [_]) sz4 rfl rfl rfl rfl (by rw [← List.append_assoc, ← deadM_split hkN]; exact Bs) (by rw [List.length_take, bools_len, deadM_len]; omega) rfl ?_
       intro w13 m13 X13
       replace Bs := Blk.eq X13 (by rw [← List.append_assoc, ← hdp, deadM_set hkN])
       clear X13
       replace G := G.abv m13
       replace GL11 := GL11.trn m13
       replace hA := hA0.grow G
       replace hB := hB0.grow G
       replace OXt := OXt.md m13
       replace hRt := hRt.md m13
       replace O1 := O1.md m13
       replace hRh := hRh.md m13
       replace hRB := hRB.md m13
       replace B1 := B1.md m13
       replace B10 := B10.md m13
       have zm13 := m13.size
       refine S_nl rfl rfl ?_
       refine ib_n ?_
       refine th_n (hK22 _ _ ?_)
       clear hK22 K22
       refine Sb 66 rfl ?_  -- 14
       refine S_val (Y_move rfl) ?_
       refine S_val (Y_inc rfl rfl (by omega)) ?_
       refine S_val (Y_assign rfl) ?_
       refine S_nl rfl rfl ?_
       refine th_n ?_
       go_roundw  -- e4 of L2
       case rel =>
        refine ⟨?_, GL11⟩
        exact ⟨k + 1, rfl, by omega, Bs⟩
       case measure =>
        exact dec_nat (by omega)
     · -- c5F
      replace hb3 := nb_tf hb3
      refine wp_exit ?_
      refine th_x ?_
      try clear GL11
      refine th_x ?_
      refine ib_e ?_
      refine th_n (hK18 _ _ ?_)
      clear hK20 K20 hK18 K18
      refine wp_seq_k fun K23 hK23 => ?_
      refine Sb 66 rfl ?_  -- 16
      refine S_val (Y_move rfl) ?_
      refine S_val (Y_assign rfl) ?_
      refine S_nl rfl rfl ?_
      refine th_n (hK23 _ _ ?_)
      clear hK23 K23
      refine wp_ret ?_
      refine ret_r1 rfl rfl ?_  -- r3
      have hkN1 : k = h.cells.length := by omega
      subst hkN1
      rw [deadM_all] at Bs
      exact ⟨_, _, _, rfl, by rw [deadV_t hu, deadL_len, hfl2], by rw [deadV_t hu]; exact OI.of_blk Bs (by omega), G⟩

end Go.Proofs.Ytjmfdmndchoplaa
