/-
  Walks: references from outside of a set of cells.
  Conditions: those that each theorem states.
-/
import Derived.Test.YtdfifnplgbceaaaTy
import Derived.Test.YtdfifnplgbceaaaWalkU
import Derived.Test.YtdfifnplgbceaaaTrial
namespace Go.Proofs.Ytdfifnplgbceaaa
open Go Go.RowKit
attribute [local irreducible] wpList wpAnyH Code.wp dOp

set_option maxHeartbeats 400000 in
set_option maxRecDepth 20000 in
theorem impl_TrialCounts_c (Pr P2 : Nat → Prop) (A B C : Option Addr) (h : LH) (bs : List Bool) (c d e : Nat) (w : World) (hA : RC Pr w A h.cells) (hB : R1 Pr w B (ints h.roots)) (hC : R1 P2 w C (bools bs)) (hz : hsize h ≤ 1048576) (hbz : bs.length ≤ 1048576) :
    Calls Try.prog 53 #[.agg #[.slice A h.cells.length c, .slice B h.roots.length d], .slice C bs.length e] w (Ret fun v w' => ∃ A1 q cap, v = .slice A1 q cap ∧ q = (triV h bs).length ∧ OI (fun i => w.heap.size ≤ i) w' 3 A1 (ints (triV h bs)) ∧ Grow w w') := by
  have hz1 := hsize_cells h
  have hz2 := hsize_roots h
  have hz3 : ∀ k (hk : k < h.cells.length), h.cells[k].refs.length ≤ hsize h := fun k hk => hsize_refs h hk
  have hz4 : h.roots.length + rsum h.cells h.cells.length ≤ hsize h := by unfold hsize; omega
  refine enter Try.func53 rfl Try.ntmps53 (L := (_ :: _ :: _ :: _ :: _ :: _ :: _ :: _ :: _ :: _ :: _ :: _ :: _ :: _ :: _ :: _ :: _ :: _ :: _ :: _ :: _ :: _ :: _ :: _ :: _ :: _ :: _ :: _ :: _ :: _ :: _ :: _ :: _ :: _ :: _ :: _ :: _ :: _ :: _ :: _ :: _ :: _ :: _ :: _ :: _ :: [])) rfl ?_
  have G := Mod.refl No w
  have hA0 := hA
  have hB0 := hB
  have hC0 := hC
  refine wp_seq_k fun K1 hK1 => ?_
  refine wp_region_lit ?_  -- region 0 l11_cycles.go:4
  refine S_beg 45 rfl ?_
  refine S_box (cs := [_, _]) rfl rfl ?_
  intro b1 w1 fb1 g1 B1
  have lb1 := B1.lt
  replace hA := hA.grow g1
  replace hB := hB.grow g1
  replace hC := hC.grow g1
  replace G := G.grow g1
  have zg1 := g1.size
  refine S_val (Y_assign rfl) ?_
  refine S_nil (L' := (_ :: _ :: _ :: _ :: _ :: _ :: _ :: _ :: _ :: _ :: _ :: _ :: _ :: _ :: _ :: _ :: _ :: _ :: _ :: _ :: _ :: _ :: _ :: _ :: _ :: _ :: _ :: _ :: _ :: _ :: _ :: _ :: _ :: _ :: _ :: _ :: _ :: _ :: _ :: _ :: _ :: _ :: _ :: _ :: _ :: [])) rfl rfl ?_
  refine th_n ?_
  refine hK1 _ _ ?_
  clear hK1 K1
  refine wp_seq_k fun K2 hK2 => ?_
  refine wp_seq_k fun K3 hK3 => ?_
  refine D_start 19 45 (fun w => Mod (No) w) follows rfl rfl ?_  -- d1 region 1 l11_cycles.go:5
  intro w2 g2
  replace hA := hA.grow g2
  replace hB := hB.grow g2
  replace hC := hC.grow g2
  replace G := G.grow g2
  replace B1 := B1.grow g2
  have zg2 := g2.size
  have GS2 := Mod.refl (No) w2
  have B1d2 := B1
  refine D_q (i := 0) rfl (by kernel_rfl) (fun _ _ _ h => h) GS2 (fun _ hs => Y_loadS Try.underlying30 rfl sz30 rfl (by first | exact hs.cells0 (by assumption) | exact hs.cells0 (B1.row (by rfl)) | exact hs.cells0 (B1d2.row (by rfl)))) ?_
  refine D_1 (i := 1) (by kernel_rfl) ?_
  refine E_call rfl rfl en60 (impl_HeapValid_c _ _ _ _ _ _ _ (by assumption) (by assumption) (by omega)) ?_  -- k1 impl.HeapValid
  rintro v3 w3 ⟨rfl, g3⟩
  replace hA := hA.grow g3
  replace hB := hB.grow g3
  replace hC := hC.grow g3
  replace G := G.grow g3
  replace GS2 := GS2.grow g3
  replace B1 := B1.grow g3
  have zg3 := g3.size
  refine ⟨GS2, ?_⟩
  refine D_q (i := 2) rfl (by kernel_rfl) (fun _ _ _ h => h) GS2 (fun _ _ => Y_not rfl) ?_
  refine D_q (i := 3) rfl (by kernel_rfl) (fun _ _ _ h => h) GS2 (fun _ _ => Y_move rfl) ?_
  refine D_g 11 rfl (fun hb1 => ?_) (fun hb1 => ?_)  -- g1
  · -- g1T
    first | with_reducible (replace hb1 := nb_nt hb1) | with_reducible (replace hb1 := nb_nf hb1) | with_reducible (replace hb1 := nb_tt hb1) | with_reducible (replace hb1 := nb_tf hb1) | with_reducible (replace hb1 := nb_bt hb1) | with_reducible (replace hb1 := nb_bf hb1) | skip
    refine D_qoff (i := 4) rfl rfl rfl (by kernel_rfl) (fun _ _ _ h => h) GS2 ?_
    refine D_qoff (i := 5) rfl rfl rfl (by kernel_rfl) (fun _ _ _ h => h) GS2 ?_
    refine D_qoff (i := 6) rfl rfl rfl (by kernel_rfl) (fun _ _ _ h => h) GS2 ?_
    refine D_qoff (i := 7) rfl rfl rfl (by kernel_rfl) (fun _ _ _ h => h) GS2 ?_
    refine D_qoff (i := 8) rfl rfl rfl (by kernel_rfl) (fun _ _ _ h => h) GS2 ?_
    refine D_qoff (i := 9) rfl rfl rfl (by kernel_rfl) (fun _ _ _ h => h) GS2 ?_
    refine D_q (i := 10) rfl (by kernel_rfl) (fun _ _ _ h => h) GS2 (fun _ _ => Y_pickT rfl rfl) ?_
    refine D_q (i := 11) rfl (by kernel_rfl) (fun _ _ _ h => h) GS2 (fun _ _ => Y_move rfl) ?_
    refine D_qoff (i := 12) rfl rfl rfl (by kernel_rfl) (fun _ _ _ h => h) GS2 ?_
    refine D_qoff (i := 13) rfl rfl rfl (by kernel_rfl) (fun _ _ _ h => h) GS2 ?_
    refine D_qoff (i := 14) rfl rfl rfl (by kernel_rfl) (fun _ _ _ h => h) GS2 ?_
    refine D_qoff (i := 15) rfl rfl rfl (by kernel_rfl) (fun _ _ _ h => h) GS2 ?_
    refine D_qoff (i := 16) rfl rfl rfl (by kernel_rfl) (fun _ _ _ h => h) GS2 ?_
    refine D_qoff (i := 17) rfl rfl rfl (by kernel_rfl) (fun _ _ _ h => h) GS2 ?_
    refine D_q (i := 18) rfl (by kernel_rfl) (fun _ _ _ h => h) GS2 (fun _ _ => Y_pickT rfl rfl) ?_
    refine D_end (L' := (_ :: _ :: _ :: _ :: _ :: _ :: _ :: _ :: _ :: _ :: _ :: _ :: _ :: _ :: _ :: _ :: _ :: _ :: _ :: _ :: _ :: _ :: _ :: _ :: _ :: _ :: _ :: _ :: _ :: _ :: _ :: _ :: _ :: _ :: _ :: _ :: _ :: _ :: _ :: _ :: _ :: _ :: _ :: _ :: _ :: [])) (by kernel_rfl) rfl rfl ?_
    refine th_n ?_
    refine hK3 _ _ ?_
    clear hK3 K3
    refine S_ifT rfl ?_
    refine wp_seq_k fun K4 hK4 => ?_
    refine wp_region_lit ?_  -- region 2 l11_cycles.go:6
    refine S_beg 45 rfl ?_
    refine S_val (Y_assign rfl) ?_
    refine S_nil (L' := (_ :: _ :: _ :: _ :: _ :: _ :: _ :: _ :: _ :: _ :: _ :: _ :: _ :: _ :: _ :: _ :: _ :: _ :: _ :: _ :: _ :: _ :: _ :: _ :: _ :: _ :: _ :: _ :: _ :: _ :: _ :: _ :: _ :: _ :: _ :: _ :: _ :: _ :: _ :: _ :: _ :: _ :: _ :: _ :: _ :: [])) rfl rfl ?_
    refine th_n ?_
    refine hK4 _ _ ?_
    clear hK4 K4
    refine wp_ret ?_
    refine th_r ?_
    clear hK2 K2
    refine ret_r1 rfl rfl ?_  -- r1
    exact ⟨_, _, _, rfl, by rw [triV_f (triOk_f1 hb1)]; rfl, by rw [triV_f (triOk_f1 hb1)]; exact OI.nil _ _ _ _, G⟩
  · -- g1F
    first | with_reducible (replace hb1 := nb_nt hb1) | with_reducible (replace hb1 := nb_nf hb1) | with_reducible (replace hb1 := nb_tt hb1) | with_reducible (replace hb1 := nb_tf hb1) | with_reducible (replace hb1 := nb_bt hb1) | with_reducible (replace hb1 := nb_bf hb1) | skip
    have va := valid_iff.1 hb1
    have hl := va.leads
    have h40 := va.le
    have hr4 := va.roots4
    refine D_qon (i := 4) rfl rfl rfl (by kernel_rfl) (fun _ _ _ h => h) GS2 (fun _ _ => Y_move rfl) ?_
    refine D_qon (i := 5) rfl rfl rfl (by kernel_rfl) (fun _ _ _ h => h) GS2 (fun _ _ => Y_len Try.underlying55 rfl) ?_
    refine D_qon (i := 6) rfl rfl rfl (by kernel_rfl) (fun _ _ _ h => h) GS2 (fun _ _ => Y_field Try.underlying30 rfl fz30_0 (by decide) rfl) ?_
    refine D_qon (i := 7) rfl rfl rfl (by kernel_rfl) (fun _ _ _ h => h) GS2 (fun _ hs => Y_load Try.underlying28 rfl rfl (by first | exact hs.cell0 (by assumption) | exact hs.cell0 (B1.at (by rfl)) | exact hs.cell0 (B1d2.at (by rfl)))) ?_
    refine D_qon (i := 8) rfl rfl rfl (by kernel_rfl) (fun _ _ _ h => h) GS2 (fun _ _ => Y_len Try.underlying28 rfl) ?_
    refine D_qon (i := 9) rfl rfl rfl (by kernel_rfl) (fun _ _ _ h => h) GS2 (fun _ _ => Y_neq rfl rfl) ?_
    refine D_q (i := 10) rfl (by kernel_rfl) (fun _ _ _ h => h) GS2 (fun _ _ => Y_pickF rfl rfl) ?_
    refine D_q (i := 11) rfl (by kernel_rfl) (fun _ _ _ h => h) GS2 (fun _ _ => Y_move rfl) ?_
    refine D_g 19 rfl (fun hb2 => ?_) (fun hb2 => ?_)  -- g2
    · -- g2T
      first | with_reducible (replace hb2 := nb_nt hb2) | with_reducible (replace hb2 := nb_nf hb2) | with_reducible (replace hb2 := nb_tt hb2) | with_reducible (replace hb2 := nb_tf hb2) | with_reducible (replace hb2 := nb_bt hb2) | with_reducible (replace hb2 := nb_bf hb2) | skip
      refine D_qoff (i := 12) rfl rfl rfl (by kernel_rfl) (fun _ _ _ h => h) GS2 ?_
      refine D_qoff (i := 13) rfl rfl rfl (by kernel_rfl) (fun _ _ _ h => h) GS2 ?_
      refine D_qoff (i := 14) rfl rfl rfl (by kernel_rfl) (fun _ _ _ h => h) GS2 ?_
      refine D_qoff (i := 15) rfl rfl rfl (by kernel_rfl) (fun _ _ _ h => h) GS2 ?_
      refine D_qoff (i := 16) rfl rfl rfl (by kernel_rfl) (fun _ _ _ h => h) GS2 ?_
      refine D_qoff (i := 17) rfl rfl rfl (by kernel_rfl) (fun _ _ _ h => h) GS2 ?_
      refine D_q (i := 18) rfl (by kernel_rfl) (fun _ _ _ h => h) GS2 (fun _ _ => Y_pickT rfl rfl) ?_
      refine D_end (L' := (_ :: _ :: _ :: _ :: _ :: _ :: _ :: _ :: _ :: _ :: _ :: _ :: _ :: _ :: _ :: _ :: _ :: _ :: _ :: _ :: _ :: _ :: _ :: _ :: _ :: _ :: _ :: _ :: _ :: _ :: _ :: _ :: _ :: _ :: _ :: _ :: _ :: _ :: _ :: _ :: _ :: _ :: _ :: _ :: _ :: [])) (by kernel_rfl) rfl rfl ?_
      refine th_n ?_
      refine hK3 _ _ ?_
      clear hK3 K3
      refine S_ifT rfl ?_
      refine wp_seq_k fun K5 hK5 => ?_
      refine wp_region_lit ?_  -- region 2 l11_cycles.go:6
      refine S_beg 45 rfl ?_
      refine S_val (Y_assign rfl) ?_
      refine S_nil (L' := (_ :: _ :: _ :: _ :: _ :: _ :: _ :: _ :: _ :: _ :: _ :: _ :: _ :: _ :: _ :: _ :: _ :: _ :: _ :: _ :: _ :: _ :: _ :: _ :: _ :: _ :: _ :: _ :: _ :: _ :: _ :: _ :: _ :: _ :: _ :: _ :: _ :: _ :: _ :: _ :: _ :: _ :: _ :: _ :: _ :: [])) rfl rfl ?_
      refine th_n ?_
      refine hK5 _ _ ?_
      clear hK5 K5
      refine wp_ret ?_
      refine th_r ?_
      clear hK2 K2
      refine ret_r1 rfl rfl ?_  -- r2
      exact ⟨_, _, _, rfl, by rw [triV_f (triOk_f2 (by omega))]; rfl, by rw [triV_f (triOk_f2 (by omega))]; exact OI.nil _ _ _ _, G⟩
    · -- g2F
      first | with_reducible (replace hb2 := nb_nt hb2) | with_reducible (replace hb2 := nb_nf hb2) | with_reducible (replace hb2 := nb_tt hb2) | with_reducible (replace hb2 := nb_tf hb2) | with_reducible (replace hb2 := nb_bt hb2) | with_reducible (replace hb2 := nb_bf hb2) | skip
      have hlen : bs.length = h.cells.length := by omega
      refine D_qon (i := 12) rfl rfl rfl (by kernel_rfl) (fun _ _ _ h => h) GS2 (fun _ _ => Y_move rfl) ?_
      refine D_qon (i := 14) rfl rfl rfl (by kernel_rfl) (fun _ _ _ h => h) GS2 (fun _ hs => Y_loadS Try.underlying30 rfl sz30 rfl (by first | exact hs.cells0 (by assumption) | exact hs.cells0 (B1.row (by rfl)) | exact hs.cells0 (B1d2.row (by rfl)))) ?_
      refine D_1 (i := 13) (by kernel_rfl) ?_
      refine E_calln rfl rfl rfl rfl en85 (impl_setOf_c _ _ _ _ _ (by assumption) (by omega)) ?_  -- k2 impl.setOf
      rintro v4 w4 ⟨s4, rfl, hs4, g4⟩
      replace hA := hA.grow g4
      replace hB := hB.grow g4
      replace hC := hC.grow g4
      replace G := G.grow g4
      replace GS2 := GS2.grow g4
      replace B1 := B1.grow g4
      have zg4 := g4.size
      have hM := hs4
      refine ⟨GS2, ?_⟩
      refine D_1 (i := 15) (by kernel_rfl) ?_
      refine E_calln rfl rfl rfl rfl en73 (impl_usedSet_c _ _ _ _ _ _ _ (by assumption) (by omega)) ?_  -- k3 impl.usedSet
      rintro v5 w5 ⟨s5, rfl, hs5, g5⟩
      replace hA := hA.grow g5
      replace hB := hB.grow g5
      replace hC := hC.grow g5
      replace G := G.grow g5
      replace GS2 := GS2.grow g5
      replace B1 := B1.grow g5
      have zg5 := g5.size
      have hU := hs5
      refine ⟨GS2, ?_⟩
      refine D_qon (i := 16) rfl rfl rfl (by kernel_rfl) (fun _ _ _ h => h) GS2 (fun _ _ => Y_andNot rfl rfl (by first | assumption | exact SetOf.wlt (by assumption)) (by first | assumption | exact SetOf.wlt (by assumption))) ?_
      refine D_qon (i := 17) rfl rfl rfl (by kernel_rfl) (fun _ _ _ h => h) GS2 (fun _ _ => Y_neq rfl rfl) ?_
      refine D_q (i := 18) rfl (by kernel_rfl) (fun _ _ _ h => h) GS2 (fun _ _ => Y_pickF rfl rfl) ?_
      refine D_end (L' := (_ :: _ :: _ :: _ :: _ :: _ :: _ :: _ :: _ :: _ :: _ :: _ :: _ :: _ :: _ :: _ :: _ :: _ :: _ :: _ :: _ :: _ :: _ :: _ :: _ :: _ :: _ :: _ :: _ :: _ :: _ :: _ :: _ :: _ :: _ :: _ :: _ :: _ :: _ :: _ :: _ :: _ :: _ :: _ :: _ :: [])) (by kernel_rfl) rfl rfl ?_
      refine th_n ?_
      refine hK3 _ _ ?_
      clear hK3 K3
      refine S_if rfl (fun hb3 => ?_) (fun hb3 => ?_)  -- c1
      · -- c1T
        first | with_reducible (replace hb3 := nb_nt hb3) | with_reducible (replace hb3 := nb_nf hb3) | with_reducible (replace hb3 := nb_tt hb3) | with_reducible (replace hb3 := nb_tf hb3) | with_reducible (replace hb3 := nb_bt hb3) | with_reducible (replace hb3 := nb_bf hb3) | skip
        refine wp_seq_k fun K6 hK6 => ?_
        refine wp_region_lit ?_  -- region 2 l11_cycles.go:6
        refine S_beg 45 rfl ?_
        refine S_val (Y_assign rfl) ?_
        refine S_nil (L' := (_ :: _ :: _ :: _ :: _ :: _ :: _ :: _ :: _ :: _ :: _ :: _ :: _ :: _ :: _ :: _ :: _ :: _ :: _ :: _ :: _ :: _ :: _ :: _ :: _ :: _ :: _ :: _ :: _ :: _ :: _ :: _ :: _ :: _ :: _ :: _ :: _ :: _ :: _ :: _ :: _ :: _ :: _ :: _ :: _ :: [])) rfl rfl ?_
        refine th_n ?_
        refine hK6 _ _ ?_
        clear hK6 K6
        refine wp_ret ?_
        refine th_r ?_
        clear hK2 K2
        refine ret_r1 rfl rfl ?_  -- r3
        have hbad := less_bad hM hU hlen hb3
        exact ⟨_, _, _, rfl, by rw [triV_f (triOk_f3 hbad)]; rfl, by rw [triV_f (triOk_f3 hbad)]; exact OI.nil _ _ _ _, G⟩
      · -- c1F
        first | with_reducible (replace hb3 := nb_nt hb3) | with_reducible (replace hb3 := nb_nf hb3) | with_reducible (replace hb3 := nb_tt hb3) | with_reducible (replace hb3 := nb_tf hb3) | with_reducible (replace hb3 := nb_bt hb3) | with_reducible (replace hb3 := nb_bf hb3) | skip
        have hin := (less_zero hM hU hlen).1 hb3
        have hok := triOk_t hb1 hlen hin
        refine wp_skip ?_
        refine th_n ?_
        refine hK2 _ _ ?_
        clear hK2 K2
        refine wp_seq_k fun K7 hK7 => ?_
        refine D_start 5 45 (fun w => Mod (No) w) follows rfl rfl ?_  -- d2 region 3 l11_cycles.go:8
        intro w6 g6
        replace hA := hA.grow g6
        replace hB := hB.grow g6
        replace hC := hC.grow g6
        replace G := G.grow g6
        replace B1 := B1.grow g6
        have zg6 := g6.size
        have GS6 := Mod.refl (No) w6
        have B1d6 := B1
        refine D_q (i := 0) rfl (by kernel_rfl) (fun _ _ _ h => h) GS6 (fun _ hs => Y_loadS Try.underlying30 rfl sz30 rfl (by first | exact hs.cells0 (by assumption) | exact hs.cells0 (B1.row (by rfl)) | exact hs.cells0 (B1d6.row (by rfl)))) ?_
        refine D_q (i := 1) rfl (by kernel_rfl) (fun _ _ _ h => h) GS6 (fun _ _ => Y_move rfl) ?_
        refine D_1 (i := 2) (by kernel_rfl) ?_
        refine E_call rfl rfl en85 (impl_setOf_c _ _ _ _ _ (by assumption) (by omega)) ?_  -- k4 impl.setOf
        rintro v7 w7 ⟨s7, rfl, hs7, g7⟩
        replace hA := hA.grow g7
        replace hB := hB.grow g7
        replace hC := hC.grow g7
        replace G := G.grow g7
        replace GS6 := GS6.grow g7
        replace B1 := B1.grow g7
        have zg7 := g7.size
        have hM2 := hs7
        refine ⟨GS6, ?_⟩
        refine D_1 (i := 3) (by kernel_rfl) ?_
        refine E_call rfl rfl en70 (impl_refCounts_c _ _ _ h _ _ _ _ hA hB (by omega) hl hM2.1) ?_  -- k5 impl.refCounts
        rintro v8 w8 ⟨b8, rfl, fb8, B8, g8⟩
        replace hA := hA.grow g8
        replace hB := hB.grow g8
        replace hC := hC.grow g8
        replace G := G.grow g8
        replace GS6 := GS6.grow g8
        replace B1 := B1.grow g8
        have zg8 := g8.size
        have lb8 := B8.lt
        rw [set_in hM2, ← triM_zero] at B8
        obtain ⟨bT, rfl⟩ : ∃ x : Nat, x = b8 := ⟨_, rfl⟩
        have BT := B8
        refine ⟨GS6, ?_⟩
        refine D_q (i := 4) rfl (by kernel_rfl) (fun _ _ _ h => h) GS6 (fun _ _ => Y_assign rfl) ?_
        refine D_end (L' := (_ :: _ :: _ :: _ :: _ :: _ :: _ :: _ :: _ :: _ :: _ :: _ :: _ :: _ :: _ :: _ :: _ :: _ :: _ :: _ :: _ :: _ :: _ :: _ :: _ :: _ :: _ :: _ :: _ :: _ :: _ :: _ :: _ :: _ :: _ :: _ :: _ :: _ :: _ :: _ :: _ :: _ :: _ :: _ :: _ :: [])) (by kernel_rfl) rfl rfl ?_
        refine th_n ?_
        refine hK7 _ _ ?_
        clear hK7 K7
        refine wp_seq_k fun K8 hK8 => ?_
        refine wp_seq_k fun K9 hK9 => ?_
        refine wp_region_lit ?_  -- region 4 l11_cycles.go:9
        refine S_beg 45 rfl ?_
        refine S_val (Y_move rfl) ?_
        refine S_val (Y_len Try.underlying55 rfl) ?_
        refine S_val (Y_move rfl) ?_
        refine S_nil (L' := (_ :: _ :: _ :: _ :: _ :: _ :: _ :: _ :: _ :: _ :: _ :: _ :: _ :: _ :: _ :: _ :: _ :: _ :: _ :: _ :: _ :: _ :: _ :: _ :: _ :: _ :: _ :: _ :: _ :: _ :: _ :: _ :: _ :: _ :: _ :: _ :: _ :: _ :: _ :: _ :: _ :: _ :: _ :: _ :: _ :: [])) rfl rfl ?_
        refine th_n ?_
        refine hK9 _ _ ?_
        clear hK9 K9
        refine wp_block ?_
        go_loopw [33] (fun u33 wr => (∃ k : Nat, u33 = .int .i64 k ∧ k ≤ bs.length ∧ Blk wr bT 3 (ints (triM h bs k)).toArray) ∧ Mod (fun i => i = bT) w8 wr) (fun u33 wr => bs.length - (intOf u33).toNat)  -- L1
        case atStart =>
          refine ⟨?_, Mod.refl _ _⟩
          exact ⟨0, rfl, by omega, BT⟩
        case round =>
          obtain ⟨w9, rfl⟩ : ∃ x : World, x = wr := ⟨_, rfl⟩
          obtain ⟨hrel, g9⟩ := hrel
          clear BT
          replace G := G.above g9 (by intro i h; first | omega | (dsimp only at h; omega))
          replace hA := hA0.grow G
          replace hB := hB0.grow G
          replace hC := hC0.grow G
          replace B1 := B1.mod g9 (by intro h; first | omega | (dsimp only at h; omega))
          have zg9 := g9.size
          obtain ⟨k, rfl, hk, BT⟩ := hrel
          have GL9 := g9
          refine wp_seq_k fun K10 hK10 => ?_
          refine wp_region_lit ?_  -- region 5 l11_cycles.go:9
          refine S_beg 45 rfl ?_
          refine S_val (Y_lss rfl rfl) ?_
          refine S_nil (L' := (_ :: _ :: _ :: _ :: _ :: _ :: _ :: _ :: _ :: _ :: _ :: _ :: _ :: _ :: _ :: _ :: _ :: _ :: _ :: _ :: _ :: _ :: _ :: _ :: _ :: _ :: _ :: _ :: _ :: _ :: _ :: _ :: _ :: _ :: _ :: _ :: _ :: _ :: _ :: _ :: _ :: _ :: _ :: _ :: _ :: [])) rfl rfl ?_
          refine th_n ?_
          refine hK10 _ _ ?_
          clear hK10 K10
          refine wp_seq_k fun K11 hK11 => ?_
          refine S_if rfl (fun hb4 => ?_) (fun hb4 => ?_)  -- c2
          · -- c2T
            first | with_reducible (replace hb4 := nb_nt hb4) | with_reducible (replace hb4 := nb_nf hb4) | with_reducible (replace hb4 := nb_tt hb4) | with_reducible (replace hb4 := nb_tf hb4) | with_reducible (replace hb4 := nb_bt hb4) | with_reducible (replace hb4 := nb_bf hb4) | skip
            have hk1 : k < bs.length := by omega
            have hkN : k < h.cells.length := by omega
            obtain ⟨g2, o2, rfl, hp2, hc2⟩ := hC.bool hk1
            have hib := inB_at hk1
            refine wp_skip ?_
            refine th_n ?_
            refine hK11 _ _ ?_
            clear hK11 K11
            refine wp_seq_k fun K12 hK12 => ?_
            refine wp_block ?_
            refine wp_seq_k fun K13 hK13 => ?_
            refine wp_region_lit ?_  -- region 6 l11_cycles.go:9
            refine S_beg 45 rfl ?_
            refine S_val (Y_move rfl) ?_
            refine S_val (Y_index Try.underlying55 sz4 rfl rfl (by first | assumption | omega)) ?_
            refine S_val (Y_load Try.underlying4 rfl rfl (by first | assumption | exact B1.at (by rfl) | exact BT.at (by rfl))) ?_  -- l5
            refine S_val (Y_assign rfl) ?_
            refine S_val (Y_assign rfl) ?_
            refine S_nil (L' := (_ :: _ :: _ :: _ :: _ :: _ :: _ :: _ :: _ :: _ :: _ :: _ :: _ :: _ :: _ :: _ :: _ :: _ :: _ :: _ :: _ :: _ :: _ :: _ :: _ :: _ :: _ :: _ :: _ :: _ :: _ :: _ :: _ :: _ :: _ :: _ :: _ :: _ :: _ :: _ :: _ :: _ :: _ :: _ :: _ :: [])) rfl rfl ?_
            refine th_n ?_
            refine hK13 _ _ ?_
            clear hK13 K13
            refine wp_seq_k fun K14 hK14 => ?_
            refine wp_region_lit ?_  -- region 7 l11_cycles.go:10
            refine S_beg 45 rfl ?_
            refine S_val (Y_move rfl) ?_
            refine S_val (Y_not rfl) ?_
            refine S_nil (L' := (_ :: _ :: _ :: _ :: _ :: _ :: _ :: _ :: _ :: _ :: _ :: _ :: _ :: _ :: _ :: _ :: _ :: _ :: _ :: _ :: _ :: _ :: _ :: _ :: _ :: _ :: _ :: _ :: _ :: _ :: _ :: _ :: _ :: _ :: _ :: _ :: _ :: _ :: _ :: _ :: _ :: _ :: _ :: _ :: _ :: [])) rfl rfl ?_
            refine th_n ?_
            refine hK14 _ _ ?_
            clear hK14 K14
            refine S_if rfl (fun hb5 => ?_) (fun hb5 => ?_)  -- c3
            · -- c3T
              first | with_reducible (replace hb5 := nb_nt hb5) | with_reducible (replace hb5 := nb_nf hb5) | with_reducible (replace hb5 := nb_tt hb5) | with_reducible (replace hb5 := nb_tf hb5) | with_reducible (replace hb5 := nb_bt hb5) | with_reducible (replace hb5 := nb_bf hb5) | skip
              refine wp_region_lit ?_  -- region 8 l11_cycles.go:11
              refine S_beg 45 rfl ?_
              refine S_val (Y_move rfl) ?_
              refine S_val (Y_move rfl) ?_
              refine S_val (Y_index Try.underlying23 sz3 rfl rfl (by first | assumption | omega)) ?_
              refine S_stM (pre := (ints (triM h bs k)).take k) (old := [.int .i64 (((refsAll h (inB bs)).count (k : Int) : Nat) : Int)]) (post := (ints (triM h bs k)).drop (k + 1)) (vs := [_]) sz3 rfl rfl rfl rfl (by rw [← triM_split hkN]; exact BT) (by rw [List.length_take, ints_len, triM_len]; omega) rfl ?_
              intro w10 m10 X10
              replace BT := Blk.eq X10 (triM_out hkN (by rw [hib]; exact hb5))
              clear X10
              replace G := G.above m10 (by intro i h; first | omega | (dsimp only at h; omega))
              replace GL9 := Mod.trans' GL9 m10 (fun _ h _ => h) (fun i h _ => by first | exact h | omega | (dsimp only at h ⊢; omega) | (subst h; rfl) | (subst h; exact ⟨by omega, rfl⟩))
              replace hA := hA0.grow G
              replace hB := hB0.grow G
              replace hC := hC0.grow G
              replace B1 := B1.mod m10 (by intro h; first | omega | (dsimp only at h; omega))
              have zm10 := m10.size
              refine S_nil (L' := (_ :: _ :: _ :: _ :: _ :: _ :: _ :: _ :: _ :: _ :: _ :: _ :: _ :: _ :: _ :: _ :: _ :: _ :: _ :: _ :: _ :: _ :: _ :: _ :: _ :: _ :: _ :: _ :: _ :: _ :: _ :: _ :: _ :: _ :: _ :: _ :: _ :: _ :: _ :: _ :: _ :: _ :: _ :: _ :: _ :: [])) rfl rfl ?_
              refine ib_n ?_
              refine th_n ?_
              refine hK12 _ _ ?_
              clear hK12 K12
              refine wp_region_lit ?_  -- region 9 l11_cycles.go:9
              refine S_beg 45 rfl ?_
              refine S_val (Y_inc rfl rfl (by omega)) ?_
              refine S_val (Y_move rfl) ?_
              refine S_nil (L' := (_ :: _ :: _ :: _ :: _ :: _ :: _ :: _ :: _ :: _ :: _ :: _ :: _ :: _ :: _ :: _ :: _ :: _ :: _ :: _ :: _ :: _ :: _ :: _ :: _ :: _ :: _ :: _ :: _ :: _ :: _ :: _ :: _ :: _ :: _ :: _ :: _ :: _ :: _ :: _ :: _ :: _ :: _ :: _ :: _ :: [])) rfl rfl ?_
              refine th_n ?_
              go_roundw  -- e1 of L1
              case rel =>
                refine ⟨?_, GL9⟩
                exact ⟨k + 1, rfl, by omega, BT⟩
              case measure =>
                exact dec_nat (by omega)
            · -- c3F
              first | with_reducible (replace hb5 := nb_nt hb5) | with_reducible (replace hb5 := nb_nf hb5) | with_reducible (replace hb5 := nb_tt hb5) | with_reducible (replace hb5 := nb_tf hb5) | with_reducible (replace hb5 := nb_bt hb5) | with_reducible (replace hb5 := nb_bf hb5) | skip
              refine wp_skip ?_
              refine ib_n ?_
              refine th_n ?_
              refine hK12 _ _ ?_
              clear hK12 K12
              refine wp_region_lit ?_  -- region 9 l11_cycles.go:9
              refine S_beg 45 rfl ?_
              refine S_val (Y_inc rfl rfl (by omega)) ?_
              refine S_val (Y_move rfl) ?_
              refine S_nil (L' := (_ :: _ :: _ :: _ :: _ :: _ :: _ :: _ :: _ :: _ :: _ :: _ :: _ :: _ :: _ :: _ :: _ :: _ :: _ :: _ :: _ :: _ :: _ :: _ :: _ :: _ :: _ :: _ :: _ :: _ :: _ :: _ :: _ :: _ :: _ :: _ :: _ :: _ :: _ :: _ :: _ :: _ :: _ :: _ :: _ :: [])) rfl rfl ?_
              refine th_n ?_
              go_roundw  -- e2 of L1
              case rel =>
                refine ⟨?_, GL9⟩
                exact ⟨k + 1, rfl, by omega, by rw [triM_in (by rw [hib]; exact hb5)]; exact BT⟩
              case measure =>
                exact dec_nat (by omega)
          · -- c2F
            first | with_reducible (replace hb4 := nb_nt hb4) | with_reducible (replace hb4 := nb_nf hb4) | with_reducible (replace hb4 := nb_tt hb4) | with_reducible (replace hb4 := nb_tf hb4) | with_reducible (replace hb4 := nb_bt hb4) | with_reducible (replace hb4 := nb_bf hb4) | skip
            refine wp_exit ?_
            refine th_x ?_
            clear GL9
            refine th_x ?_
            refine ib_e ?_
            refine th_n ?_
            refine hK8 _ _ ?_
            clear hK11 K11 hK8 K8
            refine wp_seq_k fun K15 hK15 => ?_
            refine wp_region_lit ?_  -- region 10 l11_cycles.go:14
            refine S_beg 45 rfl ?_
            refine S_val (Y_move rfl) ?_
            refine S_val (Y_assign rfl) ?_
            refine S_nil (L' := (_ :: _ :: _ :: _ :: _ :: _ :: _ :: _ :: _ :: _ :: _ :: _ :: _ :: _ :: _ :: _ :: _ :: _ :: _ :: _ :: _ :: _ :: _ :: _ :: _ :: _ :: _ :: _ :: _ :: _ :: _ :: _ :: _ :: _ :: _ :: _ :: _ :: _ :: _ :: _ :: _ :: _ :: _ :: _ :: _ :: [])) rfl rfl ?_
            refine th_n ?_
            refine hK15 _ _ ?_
            clear hK15 K15
            refine wp_ret ?_
            refine ret_r1 rfl rfl ?_  -- r4
            have hkN : k = h.cells.length := by omega
            subst hkN
            rw [triM_all] at BT
            exact ⟨_, _, _, rfl, by rw [triV_t hok, triL_len], by rw [triV_t hok]; exact OI.of_blk' BT (by omega), G⟩

set_option maxHeartbeats 4000000 in
set_option maxRecDepth 20000 in
theorem spec_TrialCounts_c (Pr P2 : Nat → Prop) (A B C : Option Addr) (h : LH) (bs : List Bool) (c d e : Nat) (w : World) (hA : RC Pr w A h.cells) (hB : R1 Pr w B (ints h.roots)) (hC : R1 P2 w C (bools bs)) (hz : hsize h ≤ 1048576) (hbz : bs.length ≤ 1048576) :
    Calls Try.prog 51 #[.agg #[.slice A h.cells.length c, .slice B h.roots.length d], .slice C bs.length e] w (Ret fun v w' => ∃ A1 q cap, v = .slice A1 q cap ∧ q = (triV h bs).length ∧ OI (fun i => w.heap.size ≤ i) w' 3 A1 (ints (triV h bs)) ∧ Grow w w') := by
  have hz1 := hsize_cells h
  have hz2 := hsize_roots h
  have hz3 : ∀ k (hk : k < h.cells.length), h.cells[k].refs.length ≤ hsize h := fun k hk => hsize_refs h hk
  have hz4 : h.roots.length + rsum h.cells h.cells.length ≤ hsize h := by unfold hsize; omega
  refine enter Try.func51 rfl Try.ntmps51 (L := (_ :: _ :: _ :: _ :: _ :: _ :: _ :: _ :: _ :: _ :: _ :: _ :: _ :: _ :: _ :: _ :: _ :: _ :: _ :: _ :: _ :: _ :: _ :: _ :: _ :: _ :: _ :: _ :: _ :: _ :: _ :: _ :: _ :: _ :: _ :: _ :: _ :: _ :: _ :: _ :: _ :: _ :: _ :: _ :: _ :: _ :: _ :: _ :: _ :: _ :: _ :: _ :: _ :: _ :: _ :: _ :: _ :: _ :: _ :: _ :: _ :: _ :: _ :: _ :: _ :: _ :: _ :: _ :: _ :: _ :: _ :: _ :: _ :: _ :: _ :: _ :: _ :: _ :: _ :: _ :: _ :: _ :: _ :: _ :: _ :: _ :: _ :: _ :: _ :: _ :: _ :: _ :: _ :: _ :: _ :: _ :: _ :: _ :: _ :: _ :: _ :: _ :: _ :: _ :: _ :: _ :: _ :: [])) rfl ?_
  have G := Mod.refl No w
  have hA0 := hA
  have hB0 := hB
  have hC0 := hC
  refine wp_seq_k fun K1 hK1 => ?_
  refine wp_region_lit ?_  -- region 0 l11_cycles.go:6
  refine S_beg 107 rfl ?_
  refine S_box (cs := [_, _]) rfl rfl ?_
  intro b1 w1 fb1 g1 B1
  have lb1 := B1.lt
  replace hA := hA.grow g1
  replace hB := hB.grow g1
  replace hC := hC.grow g1
  replace G := G.grow g1
  have zg1 := g1.size
  refine S_val (Y_assign rfl) ?_
  refine S_nil (L' := (_ :: _ :: _ :: _ :: _ :: _ :: _ :: _ :: _ :: _ :: _ :: _ :: _ :: _ :: _ :: _ :: _ :: _ :: _ :: _ :: _ :: _ :: _ :: _ :: _ :: _ :: _ :: _ :: _ :: _ :: _ :: _ :: _ :: _ :: _ :: _ :: _ :: _ :: _ :: _ :: _ :: _ :: _ :: _ :: _ :: _ :: _ :: _ :: _ :: _ :: _ :: _ :: _ :: _ :: _ :: _ :: _ :: _ :: _ :: _ :: _ :: _ :: _ :: _ :: _ :: _ :: _ :: _ :: _ :: _ :: _ :: _ :: _ :: _ :: _ :: _ :: _ :: _ :: _ :: _ :: _ :: _ :: _ :: _ :: _ :: _ :: _ :: _ :: _ :: _ :: _ :: _ :: _ :: _ :: _ :: _ :: _ :: _ :: _ :: _ :: _ :: _ :: _ :: _ :: _ :: _ :: _ :: [])) rfl rfl ?_
  refine th_n ?_
  refine hK1 _ _ ?_
  clear hK1 K1
  refine wp_seq_k fun K2 hK2 => ?_
  refine wp_region_lit ?_  -- region 1 l11_cycles.go:7
  refine S_beg 107 rfl ?_
  refine S_bs0 Try.underlying23 sz3 ?_
  intro b2 w2 fb2 g2 B2
  have lb2 := B2.lt
  replace hA := hA.grow g2
  replace hB := hB.grow g2
  replace hC := hC.grow g2
  replace G := G.grow g2
  replace B1 := B1.grow g2
  have zg2 := g2.size
  refine S_val (Y_assign rfl) ?_
  refine S_nil (L' := (_ :: _ :: _ :: _ :: _ :: _ :: _ :: _ :: _ :: _ :: _ :: _ :: _ :: _ :: _ :: _ :: _ :: _ :: _ :: _ :: _ :: _ :: _ :: _ :: _ :: _ :: _ :: _ :: _ :: _ :: _ :: _ :: _ :: _ :: _ :: _ :: _ :: _ :: _ :: _ :: _ :: _ :: _ :: _ :: _ :: _ :: _ :: _ :: _ :: _ :: _ :: _ :: _ :: _ :: _ :: _ :: _ :: _ :: _ :: _ :: _ :: _ :: _ :: _ :: _ :: _ :: _ :: _ :: _ :: _ :: _ :: _ :: _ :: _ :: _ :: _ :: _ :: _ :: _ :: _ :: _ :: _ :: _ :: _ :: _ :: _ :: _ :: _ :: _ :: _ :: _ :: _ :: _ :: _ :: _ :: _ :: _ :: _ :: _ :: _ :: _ :: _ :: _ :: _ :: _ :: _ :: _ :: [])) rfl rfl ?_
  refine th_n ?_
  refine hK2 _ _ ?_
  clear hK2 K2
  refine wp_seq_k fun K3 hK3 => ?_
  refine wp_seq_k fun K4 hK4 => ?_
  refine wp_region_lit ?_  -- region 2 l11_cycles.go:8
  refine S_beg 107 rfl ?_
  refine S_val (Y_loadS Try.underlying30 rfl sz30 rfl (by first | assumption | exact B1.row (by rfl) | exact B2.row (by rfl))) ?_  -- l1
  refine S_call rfl en56 (spec_HeapValid_c _ _ _ _ _ _ _ (by assumption) (by assumption) (by omega)) ?_  -- k1 spec.HeapValid
  rintro v3 w3 ⟨rfl, g3⟩
  replace hA := hA.grow g3
  replace hB := hB.grow g3
  replace hC := hC.grow g3
  replace G := G.grow g3
  replace B1 := B1.grow g3
  replace B2 := B2.grow g3
  have zg3 := g3.size
  refine S_val (Y_not rfl) ?_
  refine S_val (Y_move rfl) ?_
  refine S_g 15 rfl (fun hb1 => ?_) (fun hb1 => ?_)  -- g1
  · -- g1T
    first | with_reducible (replace hb1 := nb_nt hb1) | with_reducible (replace hb1 := nb_nf hb1) | with_reducible (replace hb1 := nb_tt hb1) | with_reducible (replace hb1 := nb_tf hb1) | with_reducible (replace hb1 := nb_bt hb1) | with_reducible (replace hb1 := nb_bf hb1) | skip
    refine S_off rfl rfl ?_
    refine S_off rfl rfl ?_
    refine S_off rfl rfl ?_
    refine S_off rfl rfl ?_
    refine S_off rfl rfl ?_
    refine S_off rfl rfl ?_
    refine S_val (Y_pickT rfl rfl) ?_
    refine S_nil (L' := (_ :: _ :: _ :: _ :: _ :: _ :: _ :: _ :: _ :: _ :: _ :: _ :: _ :: _ :: _ :: _ :: _ :: _ :: _ :: _ :: _ :: _ :: _ :: _ :: _ :: _ :: _ :: _ :: _ :: _ :: _ :: _ :: _ :: _ :: _ :: _ :: _ :: _ :: _ :: _ :: _ :: _ :: _ :: _ :: _ :: _ :: _ :: _ :: _ :: _ :: _ :: _ :: _ :: _ :: _ :: _ :: _ :: _ :: _ :: _ :: _ :: _ :: _ :: _ :: _ :: _ :: _ :: _ :: _ :: _ :: _ :: _ :: _ :: _ :: _ :: _ :: _ :: _ :: _ :: _ :: _ :: _ :: _ :: _ :: _ :: _ :: _ :: _ :: _ :: _ :: _ :: _ :: _ :: _ :: _ :: _ :: _ :: _ :: _ :: _ :: _ :: _ :: _ :: _ :: _ :: _ :: _ :: [])) rfl rfl ?_
    refine th_n ?_
    refine hK4 _ _ ?_
    clear hK4 K4
    refine S_ifT rfl ?_
    refine wp_seq_k fun K5 hK5 => ?_
    refine wp_region_lit ?_  -- region 3 l11_cycles.go:9
    refine S_beg 107 rfl ?_
    refine S_val (Y_move rfl) ?_
    refine S_val (Y_assign rfl) ?_
    refine S_nil (L' := (_ :: _ :: _ :: _ :: _ :: _ :: _ :: _ :: _ :: _ :: _ :: _ :: _ :: _ :: _ :: _ :: _ :: _ :: _ :: _ :: _ :: _ :: _ :: _ :: _ :: _ :: _ :: _ :: _ :: _ :: _ :: _ :: _ :: _ :: _ :: _ :: _ :: _ :: _ :: _ :: _ :: _ :: _ :: _ :: _ :: _ :: _ :: _ :: _ :: _ :: _ :: _ :: _ :: _ :: _ :: _ :: _ :: _ :: _ :: _ :: _ :: _ :: _ :: _ :: _ :: _ :: _ :: _ :: _ :: _ :: _ :: _ :: _ :: _ :: _ :: _ :: _ :: _ :: _ :: _ :: _ :: _ :: _ :: _ :: _ :: _ :: _ :: _ :: _ :: _ :: _ :: _ :: _ :: _ :: _ :: _ :: _ :: _ :: _ :: _ :: _ :: _ :: _ :: _ :: _ :: _ :: _ :: [])) rfl rfl ?_
    refine th_n ?_
    refine hK5 _ _ ?_
    clear hK5 K5
    refine wp_ret ?_
    refine th_r ?_
    clear hK3 K3
    refine ret_r1 rfl rfl ?_  -- r1
    exact ⟨_, _, _, rfl, by rw [triV_f (triOk_f1 hb1)]; rfl, by rw [triV_f (triOk_f1 hb1)]; exact OI.nil _ _ _ _, G⟩
  · -- g1F
    first | with_reducible (replace hb1 := nb_nt hb1) | with_reducible (replace hb1 := nb_nf hb1) | with_reducible (replace hb1 := nb_tt hb1) | with_reducible (replace hb1 := nb_tf hb1) | with_reducible (replace hb1 := nb_bt hb1) | with_reducible (replace hb1 := nb_bf hb1) | skip
    have va := valid_iff.1 hb1
    have hl := va.leads
    have h40 := va.le
    have hr4 := va.roots4
    refine S_on rfl rfl ?_
    refine S_val (Y_move rfl) ?_
    refine S_on rfl rfl ?_
    refine S_val (Y_len Try.underlying55 rfl) ?_
    refine S_on rfl rfl ?_
    refine S_val (Y_field Try.underlying30 rfl fz30_0 (by decide) rfl) ?_
    refine S_on rfl rfl ?_
    refine S_val (Y_load Try.underlying28 rfl rfl (by first | assumption | exact B1.at (by rfl) | exact B2.at (by rfl))) ?_  -- l2
    refine S_on rfl rfl ?_
    refine S_val (Y_len Try.underlying28 rfl) ?_
    refine S_on rfl rfl ?_
    refine S_val (Y_neq rfl rfl) ?_
    refine S_val (Y_pickF rfl rfl) ?_
    refine S_nil (L' := (_ :: _ :: _ :: _ :: _ :: _ :: _ :: _ :: _ :: _ :: _ :: _ :: _ :: _ :: _ :: _ :: _ :: _ :: _ :: _ :: _ :: _ :: _ :: _ :: _ :: _ :: _ :: _ :: _ :: _ :: _ :: _ :: _ :: _ :: _ :: _ :: _ :: _ :: _ :: _ :: _ :: _ :: _ :: _ :: _ :: _ :: _ :: _ :: _ :: _ :: _ :: _ :: _ :: _ :: _ :: _ :: _ :: _ :: _ :: _ :: _ :: _ :: _ :: _ :: _ :: _ :: _ :: _ :: _ :: _ :: _ :: _ :: _ :: _ :: _ :: _ :: _ :: _ :: _ :: _ :: _ :: _ :: _ :: _ :: _ :: _ :: _ :: _ :: _ :: _ :: _ :: _ :: _ :: _ :: _ :: _ :: _ :: _ :: _ :: _ :: _ :: _ :: _ :: _ :: _ :: _ :: _ :: [])) rfl rfl ?_
    refine th_n ?_
    refine hK4 _ _ ?_
    clear hK4 K4
    refine S_if rfl (fun hb2 => ?_) (fun hb2 => ?_)  -- c1
    · -- c1T
      first | with_reducible (replace hb2 := nb_nt hb2) | with_reducible (replace hb2 := nb_nf hb2) | with_reducible (replace hb2 := nb_tt hb2) | with_reducible (replace hb2 := nb_tf hb2) | with_reducible (replace hb2 := nb_bt hb2) | with_reducible (replace hb2 := nb_bf hb2) | skip
      refine wp_seq_k fun K6 hK6 => ?_
      refine wp_region_lit ?_  -- region 3 l11_cycles.go:9
      refine S_beg 107 rfl ?_
      refine S_val (Y_move rfl) ?_
      refine S_val (Y_assign rfl) ?_
      refine S_nil (L' := (_ :: _ :: _ :: _ :: _ :: _ :: _ :: _ :: _ :: _ :: _ :: _ :: _ :: _ :: _ :: _ :: _ :: _ :: _ :: _ :: _ :: _ :: _ :: _ :: _ :: _ :: _ :: _ :: _ :: _ :: _ :: _ :: _ :: _ :: _ :: _ :: _ :: _ :: _ :: _ :: _ :: _ :: _ :: _ :: _ :: _ :: _ :: _ :: _ :: _ :: _ :: _ :: _ :: _ :: _ :: _ :: _ :: _ :: _ :: _ :: _ :: _ :: _ :: _ :: _ :: _ :: _ :: _ :: _ :: _ :: _ :: _ :: _ :: _ :: _ :: _ :: _ :: _ :: _ :: _ :: _ :: _ :: _ :: _ :: _ :: _ :: _ :: _ :: _ :: _ :: _ :: _ :: _ :: _ :: _ :: _ :: _ :: _ :: _ :: _ :: _ :: _ :: _ :: _ :: _ :: _ :: _ :: [])) rfl rfl ?_
      refine th_n ?_
      refine hK6 _ _ ?_
      clear hK6 K6
      refine wp_ret ?_
      refine th_r ?_
      clear hK3 K3
      refine ret_r1 rfl rfl ?_  -- r2
      exact ⟨_, _, _, rfl, by rw [triV_f (triOk_f2 (by omega))]; rfl, by rw [triV_f (triOk_f2 (by omega))]; exact OI.nil _ _ _ _, G⟩
    · -- c1F
      first | with_reducible (replace hb2 := nb_nt hb2) | with_reducible (replace hb2 := nb_nf hb2) | with_reducible (replace hb2 := nb_tt hb2) | with_reducible (replace hb2 := nb_tf hb2) | with_reducible (replace hb2 := nb_bt hb2) | with_reducible (replace hb2 := nb_bf hb2) | skip
      have hlen : bs.length = h.cells.length := by omega
      refine wp_skip ?_
      refine th_n ?_
      refine hK3 _ _ ?_
      clear hK3 K3
      refine wp_seq_k fun K7 hK7 => ?_
      refine wp_seq_k fun K8 hK8 => ?_
      refine wp_region_lit ?_  -- region 4 l11_cycles.go:11
      refine S_beg 107 rfl ?_
      refine S_val (Y_assign rfl) ?_
      refine S_nil (L' := (_ :: _ :: _ :: _ :: _ :: _ :: _ :: _ :: _ :: _ :: _ :: _ :: _ :: _ :: _ :: _ :: _ :: _ :: _ :: _ :: _ :: _ :: _ :: _ :: _ :: _ :: _ :: _ :: _ :: _ :: _ :: _ :: _ :: _ :: _ :: _ :: _ :: _ :: _ :: _ :: _ :: _ :: _ :: _ :: _ :: _ :: _ :: _ :: _ :: _ :: _ :: _ :: _ :: _ :: _ :: _ :: _ :: _ :: _ :: _ :: _ :: _ :: _ :: _ :: _ :: _ :: _ :: _ :: _ :: _ :: _ :: _ :: _ :: _ :: _ :: _ :: _ :: _ :: _ :: _ :: _ :: _ :: _ :: _ :: _ :: _ :: _ :: _ :: _ :: _ :: _ :: _ :: _ :: _ :: _ :: _ :: _ :: _ :: _ :: _ :: _ :: _ :: _ :: _ :: _ :: _ :: _ :: [])) rfl rfl ?_
      refine th_n ?_
      refine hK8 _ _ ?_
      clear hK8 K8
      refine wp_block ?_
      obtain ⟨wz, hwz⟩ : ∃ x, x = w3.heap.size := ⟨_, rfl⟩
      have O1 : OW (fun i => i = b2 ∨ wz ≤ i) w3 3 1 (some ⟨b2, 0, none⟩) 0 0 (ints []) := OW.of_blk B2 rfl (by decide) (.inl rfl)
      go_loopw [5, 6] (fun u5 u6 wr => (∃ (k q cap : Nat) (A1 : Option Addr), u6 = .int .i64 k ∧ u5 = .slice A1 q cap ∧ k ≤ bs.length ∧ q = (triL h bs k).length ∧ OW (fun i => i = b2 ∨ wz ≤ i) wr 3 1 A1 q cap (ints (triL h bs k)) ∧ insU h.cells bs k = true) ∧ Mod (fun i => i = b2 ∨ wz ≤ i) w3 wr) (fun u5 u6 wr => bs.length - (intOf u6).toNat)  -- L1
      case atStart =>
        refine ⟨?_, Mod.refl _ _⟩
        exact ⟨0, 0, 0, _, rfl, rfl, by omega, rfl, O1, rfl⟩
      case round =>
        obtain ⟨w4, rfl⟩ : ∃ x : World, x = wr := ⟨_, rfl⟩
        obtain ⟨hrel, g4⟩ := hrel
        clear O1
        replace G := G.above g4 (by intro i h; first | omega | (dsimp only at h; omega))
        replace hA := hA0.grow G
        replace hB := hB0.grow G
        replace hC := hC0.grow G
        replace B1 := B1.mod g4 (by intro h; first | omega | (dsimp only at h; omega))
        have zg4 := g4.size
        obtain ⟨k, q1, cap1, A1, rfl, rfl, hk, hq1, O1, hiu⟩ := hrel
        have htl := triL_len h bs k
        have GL4 := g4
        refine wp_seq_k fun K9 hK9 => ?_
        refine wp_seq_k fun K10 hK10 => ?_
        refine wp_region_lit ?_  -- region 5 l11_cycles.go:11
        refine S_beg 107 rfl ?_
        refine S_val (Y_move rfl) ?_
        refine S_val (Y_move rfl) ?_
        refine S_val (Y_len Try.underlying55 rfl) ?_
        refine S_val (Y_lss rfl rfl) ?_
        refine S_nil (L' := (_ :: _ :: _ :: _ :: _ :: _ :: _ :: _ :: _ :: _ :: _ :: _ :: _ :: _ :: _ :: _ :: _ :: _ :: _ :: _ :: _ :: _ :: _ :: _ :: _ :: _ :: _ :: _ :: _ :: _ :: _ :: _ :: _ :: _ :: _ :: _ :: _ :: _ :: _ :: _ :: _ :: _ :: _ :: _ :: _ :: _ :: _ :: _ :: _ :: _ :: _ :: _ :: _ :: _ :: _ :: _ :: _ :: _ :: _ :: _ :: _ :: _ :: _ :: _ :: _ :: _ :: _ :: _ :: _ :: _ :: _ :: _ :: _ :: _ :: _ :: _ :: _ :: _ :: _ :: _ :: _ :: _ :: _ :: _ :: _ :: _ :: _ :: _ :: _ :: _ :: _ :: _ :: _ :: _ :: _ :: _ :: _ :: _ :: _ :: _ :: _ :: _ :: _ :: _ :: _ :: _ :: _ :: [])) rfl rfl ?_
        refine th_n ?_
        refine hK10 _ _ ?_
        clear hK10 K10
        refine S_if rfl (fun hb3 => ?_) (fun hb3 => ?_)  -- c2
        · -- c2T
          first | with_reducible (replace hb3 := nb_nt hb3) | with_reducible (replace hb3 := nb_nf hb3) | with_reducible (replace hb3 := nb_tt hb3) | with_reducible (replace hb3 := nb_tf hb3) | with_reducible (replace hb3 := nb_bt hb3) | with_reducible (replace hb3 := nb_bf hb3) | skip
          have hk1 : k < bs.length := by omega
          have hkN : k < h.cells.length := by omega
          obtain ⟨g2, o2, E2, d2, rfl, hp2, cc20, _⟩ := hA0.cell hkN
          have cc2 := cc20.grow G
          obtain ⟨g3, o3, rfl, hp3, hc3⟩ := hC.bool hk1
          have hib := inB_at hk1
          have hue := usedAt_at hkN
          refine wp_skip ?_
          refine th_n ?_
          refine hK9 _ _ ?_
          clear hK9 K9
          refine wp_seq_k fun K11 hK11 => ?_
          refine wp_block ?_
          refine wp_seq_k fun K12 hK12 => ?_
          refine wp_seq_k fun K13 hK13 => ?_
          refine wp_region_lit ?_  -- region 7 l11_cycles.go:12
          refine S_beg 107 rfl ?_
          refine S_val (Y_move rfl) ?_
          refine S_val (Y_move rfl) ?_
          refine S_val (Y_index Try.underlying55 sz4 rfl rfl (by first | assumption | omega)) ?_
          refine S_val (Y_load Try.underlying4 rfl rfl (by first | assumption | exact B1.at (by rfl) | exact cc2.at (by rfl))) ?_  -- l3
          refine S_val (Y_move rfl) ?_
          refine S_g 34 rfl (fun hb4 => ?_) (fun hb4 => ?_)  -- g2
          · -- g2T
            first | with_reducible (replace hb4 := nb_nt hb4) | with_reducible (replace hb4 := nb_nf hb4) | with_reducible (replace hb4 := nb_tt hb4) | with_reducible (replace hb4 := nb_tf hb4) | with_reducible (replace hb4 := nb_bt hb4) | with_reducible (replace hb4 := nb_bf hb4) | skip
            rw [hb4] at hib
            refine S_on rfl rfl ?_
            refine S_val (Y_field Try.underlying30 rfl fz30_0 (by decide) rfl) ?_
            refine S_on rfl rfl ?_
            refine S_val (Y_load Try.underlying28 rfl rfl (by first | assumption | exact B1.at (by rfl) | exact cc2.at (by rfl))) ?_  -- l4
            refine S_on rfl rfl ?_
            refine S_val (Y_move rfl) ?_
            refine S_on rfl rfl ?_
            refine S_val (Y_index Try.underlying28 sz83 rfl rfl (by first | assumption | omega)) ?_
            refine S_on rfl rfl ?_
            refine S_val (Y_field Try.underlying83 rfl fz83_0 (by decide) rfl) ?_
            refine S_on rfl rfl ?_
            refine S_val (Y_load Try.underlying4 rfl rfl (by first | assumption | exact B1.at (by rfl) | exact cc2.at (by rfl))) ?_  -- l5
            refine S_on rfl rfl ?_
            refine S_val (Y_not rfl) ?_
            refine S_val (Y_pickT rfl rfl) ?_
            refine S_nil (L' := (_ :: _ :: _ :: _ :: _ :: _ :: _ :: _ :: _ :: _ :: _ :: _ :: _ :: _ :: _ :: _ :: _ :: _ :: _ :: _ :: _ :: _ :: _ :: _ :: _ :: _ :: _ :: _ :: _ :: _ :: _ :: _ :: _ :: _ :: _ :: _ :: _ :: _ :: _ :: _ :: _ :: _ :: _ :: _ :: _ :: _ :: _ :: _ :: _ :: _ :: _ :: _ :: _ :: _ :: _ :: _ :: _ :: _ :: _ :: _ :: _ :: _ :: _ :: _ :: _ :: _ :: _ :: _ :: _ :: _ :: _ :: _ :: _ :: _ :: _ :: _ :: _ :: _ :: _ :: _ :: _ :: _ :: _ :: _ :: _ :: _ :: _ :: _ :: _ :: _ :: _ :: _ :: _ :: _ :: _ :: _ :: _ :: _ :: _ :: _ :: _ :: _ :: _ :: _ :: _ :: _ :: _ :: [])) rfl rfl ?_
            refine th_n ?_
            refine hK13 _ _ ?_
            clear hK13 K13
            refine S_if rfl (fun hb5 => ?_) (fun hb5 => ?_)  -- c3
            · -- c3T
              first | with_reducible (replace hb5 := nb_nt hb5) | with_reducible (replace hb5 := nb_nf hb5) | with_reducible (replace hb5 := nb_tt hb5) | with_reducible (replace hb5 := nb_tf hb5) | with_reducible (replace hb5 := nb_bt hb5) | with_reducible (replace hb5 := nb_bf hb5) | skip
              refine wp_seq_k fun K14 hK14 => ?_
              refine wp_region_lit ?_  -- region 8 l11_cycles.go:13
              refine S_beg 107 rfl ?_
              refine S_bs0 Try.underlying23 sz3 ?_
              intro b5 w5 fb5 g5 B5
              have lb5 := B5.lt
              replace hA := hA.grow g5
              replace hB := hB.grow g5
              replace hC := hC.grow g5
              replace cc2 := cc2.grow g5
              replace O1 := O1.grow g5
              replace G := G.grow g5
              replace GL4 := GL4.grow g5
              replace B1 := B1.grow g5
              have zg5 := g5.size
              refine S_val (Y_assign rfl) ?_
              refine S_nil (L' := (_ :: _ :: _ :: _ :: _ :: _ :: _ :: _ :: _ :: _ :: _ :: _ :: _ :: _ :: _ :: _ :: _ :: _ :: _ :: _ :: _ :: _ :: _ :: _ :: _ :: _ :: _ :: _ :: _ :: _ :: _ :: _ :: _ :: _ :: _ :: _ :: _ :: _ :: _ :: _ :: _ :: _ :: _ :: _ :: _ :: _ :: _ :: _ :: _ :: _ :: _ :: _ :: _ :: _ :: _ :: _ :: _ :: _ :: _ :: _ :: _ :: _ :: _ :: _ :: _ :: _ :: _ :: _ :: _ :: _ :: _ :: _ :: _ :: _ :: _ :: _ :: _ :: _ :: _ :: _ :: _ :: _ :: _ :: _ :: _ :: _ :: _ :: _ :: _ :: _ :: _ :: _ :: _ :: _ :: _ :: _ :: _ :: _ :: _ :: _ :: _ :: _ :: _ :: _ :: _ :: _ :: _ :: [])) rfl rfl ?_
              refine th_n ?_
              refine hK14 _ _ ?_
              clear hK14 K14
              refine wp_ret ?_
              refine th_r ?_
              refine ib_r ?_
              refine th_r ?_
              clear GL4
              refine th_r ?_
              refine ib_r ?_
              refine th_r ?_
              clear hK12 K12 hK11 K11 hK7 K7
              refine ret_r1 rfl rfl ?_  -- r3
              rw [hb5] at hue
              exact ⟨_, _, _, rfl, by rw [triV_f (triOk_f3 (insU_bad hkN hib hue))]; rfl, by rw [triV_f (triOk_f3 (insU_bad hkN hib hue))]; exact OI.nil _ _ _ _, G⟩
            · -- c3F
              first | with_reducible (replace hb5 := nb_nt hb5) | with_reducible (replace hb5 := nb_nf hb5) | with_reducible (replace hb5 := nb_tt hb5) | with_reducible (replace hb5 := nb_tf hb5) | with_reducible (replace hb5 := nb_bt hb5) | with_reducible (replace hb5 := nb_bf hb5) | skip
              refine wp_skip ?_
              refine th_n ?_
              refine hK12 _ _ ?_
              clear hK12 K12
              refine wp_seq_k fun K15 hK15 => ?_
              refine wp_region_lit ?_  -- region 9 l11_cycles.go:15
              refine S_beg 107 rfl ?_
              refine S_val (Y_assign rfl) ?_
              refine S_nil (L' := (_ :: _ :: _ :: _ :: _ :: _ :: _ :: _ :: _ :: _ :: _ :: _ :: _ :: _ :: _ :: _ :: _ :: _ :: _ :: _ :: _ :: _ :: _ :: _ :: _ :: _ :: _ :: _ :: _ :: _ :: _ :: _ :: _ :: _ :: _ :: _ :: _ :: _ :: _ :: _ :: _ :: _ :: _ :: _ :: _ :: _ :: _ :: _ :: _ :: _ :: _ :: _ :: _ :: _ :: _ :: _ :: _ :: _ :: _ :: _ :: _ :: _ :: _ :: _ :: _ :: _ :: _ :: _ :: _ :: _ :: _ :: _ :: _ :: _ :: _ :: _ :: _ :: _ :: _ :: _ :: _ :: _ :: _ :: _ :: _ :: _ :: _ :: _ :: _ :: _ :: _ :: _ :: _ :: _ :: _ :: _ :: _ :: _ :: _ :: _ :: _ :: _ :: _ :: _ :: _ :: _ :: _ :: [])) rfl rfl ?_
              refine th_n ?_
              refine hK15 _ _ ?_
              clear hK15 K15
              refine wp_seq_k fun K16 hK16 => ?_
              refine wp_seq_k fun K17 hK17 => ?_
              refine wp_region_lit ?_  -- region 10 l11_cycles.go:16
              refine S_beg 107 rfl ?_
              refine S_val (Y_move rfl) ?_
              refine S_val (Y_move rfl) ?_
              refine S_val (Y_index Try.underlying55 sz4 rfl rfl (by first | assumption | omega)) ?_
              refine S_val (Y_load Try.underlying4 rfl rfl (by first | assumption | exact B1.at (by rfl) | exact cc2.at (by rfl))) ?_  -- l6
              refine S_nil (L' := (_ :: _ :: _ :: _ :: _ :: _ :: _ :: _ :: _ :: _ :: _ :: _ :: _ :: _ :: _ :: _ :: _ :: _ :: _ :: _ :: _ :: _ :: _ :: _ :: _ :: _ :: _ :: _ :: _ :: _ :: _ :: _ :: _ :: _ :: _ :: _ :: _ :: _ :: _ :: _ :: _ :: _ :: _ :: _ :: _ :: _ :: _ :: _ :: _ :: _ :: _ :: _ :: _ :: _ :: _ :: _ :: _ :: _ :: _ :: _ :: _ :: _ :: _ :: _ :: _ :: _ :: _ :: _ :: _ :: _ :: _ :: _ :: _ :: _ :: _ :: _ :: _ :: _ :: _ :: _ :: _ :: _ :: _ :: _ :: _ :: _ :: _ :: _ :: _ :: _ :: _ :: _ :: _ :: _ :: _ :: _ :: _ :: _ :: _ :: _ :: _ :: _ :: _ :: _ :: _ :: _ :: _ :: [])) rfl rfl ?_
              refine th_n ?_
              refine hK17 _ _ ?_
              clear hK17 K17
              refine S_if rfl (fun hb6 => ?_) (fun hb6 => ?_)  -- c4
              · -- c4T
                first | with_reducible (replace hb6 := nb_nt hb6) | with_reducible (replace hb6 := nb_nf hb6) | with_reducible (replace hb6 := nb_tt hb6) | with_reducible (replace hb6 := nb_tf hb6) | with_reducible (replace hb6 := nb_bt hb6) | with_reducible (replace hb6 := nb_bf hb6) | skip
                refine wp_seq_k fun K18 hK18 => ?_
                refine wp_region_lit ?_  -- region 11 l11_cycles.go:17
                refine S_beg 107 rfl ?_
                refine S_val (Y_assign rfl) ?_
                refine S_nil (L' := (_ :: _ :: _ :: _ :: _ :: _ :: _ :: _ :: _ :: _ :: _ :: _ :: _ :: _ :: _ :: _ :: _ :: _ :: _ :: _ :: _ :: _ :: _ :: _ :: _ :: _ :: _ :: _ :: _ :: _ :: _ :: _ :: _ :: _ :: _ :: _ :: _ :: _ :: _ :: _ :: _ :: _ :: _ :: _ :: _ :: _ :: _ :: _ :: _ :: _ :: _ :: _ :: _ :: _ :: _ :: _ :: _ :: _ :: _ :: _ :: _ :: _ :: _ :: _ :: _ :: _ :: _ :: _ :: _ :: _ :: _ :: _ :: _ :: _ :: _ :: _ :: _ :: _ :: _ :: _ :: _ :: _ :: _ :: _ :: _ :: _ :: _ :: _ :: _ :: _ :: _ :: _ :: _ :: _ :: _ :: _ :: _ :: _ :: _ :: _ :: _ :: _ :: _ :: _ :: _ :: _ :: _ :: [])) rfl rfl ?_
                refine th_n ?_
                refine hK18 _ _ ?_
                clear hK18 K18
                refine wp_seq_k fun K19 hK19 => ?_
                refine wp_seq_k fun K20 hK20 => ?_
                refine wp_region_lit ?_  -- region 12 l11_cycles.go:18
                refine S_beg 107 rfl ?_
                refine S_val (Y_assign rfl) ?_
                refine S_nil (L' := (_ :: _ :: _ :: _ :: _ :: _ :: _ :: _ :: _ :: _ :: _ :: _ :: _ :: _ :: _ :: _ :: _ :: _ :: _ :: _ :: _ :: _ :: _ :: _ :: _ :: _ :: _ :: _ :: _ :: _ :: _ :: _ :: _ :: _ :: _ :: _ :: _ :: _ :: _ :: _ :: _ :: _ :: _ :: _ :: _ :: _ :: _ :: _ :: _ :: _ :: _ :: _ :: _ :: _ :: _ :: _ :: _ :: _ :: _ :: _ :: _ :: _ :: _ :: _ :: _ :: _ :: _ :: _ :: _ :: _ :: _ :: _ :: _ :: _ :: _ :: _ :: _ :: _ :: _ :: _ :: _ :: _ :: _ :: _ :: _ :: _ :: _ :: _ :: _ :: _ :: _ :: _ :: _ :: _ :: _ :: _ :: _ :: _ :: _ :: _ :: _ :: _ :: _ :: _ :: _ :: _ :: _ :: [])) rfl rfl ?_
                refine th_n ?_
                refine hK20 _ _ ?_
                clear hK20 K20
                refine wp_block ?_
                go_loopw [7, 8] (fun u7 u8 wr => (∃ j : Nat, u8 = .int .i64 j ∧ u7 = .int .i64 (((h.roots.take j).count (k : Int) : Nat) : Int) ∧ j ≤ h.roots.length) ∧ Mod No w4 wr) (fun u7 u8 wr => h.roots.length - (intOf u8).toNat)  -- L2
                case atStart =>
                  refine ⟨?_, Mod.refl _ _⟩
                  exact ⟨0, rfl, rfl, by omega⟩
                case round =>
                  obtain ⟨w6, rfl⟩ : ∃ x : World, x = wr := ⟨_, rfl⟩
                  obtain ⟨hrel, g6⟩ := hrel
                  replace hA := hA.grow g6
                  replace hB := hB.grow g6
                  replace hC := hC.grow g6
                  replace cc2 := cc2.grow g6
                  replace O1 := O1.grow g6
                  replace G := G.grow g6
                  replace GL4 := GL4.grow g6
                  replace B1 := B1.grow g6
                  have zg6 := g6.size
                  obtain ⟨j, rfl, rfl, hj⟩ := hrel
                  have hcl := count_le (k : Int) (h.roots.take j)
                  rw [List.length_take] at hcl
                  have GL6 := g6
                  refine wp_seq_k fun K21 hK21 => ?_
                  refine wp_seq_k fun K22 hK22 => ?_
                  refine wp_region_lit ?_  -- region 13 l11_cycles.go:18
                  refine S_beg 107 rfl ?_
                  refine S_val (Y_move rfl) ?_
                  refine S_val (Y_field Try.underlying30 rfl fz30_1 (by decide) rfl) ?_
                  refine S_val (Y_load Try.underlying23 rfl rfl (by first | assumption | exact B1.at (by rfl) | exact cc2.at (by rfl))) ?_  -- l7
                  refine S_val (Y_len Try.underlying23 rfl) ?_
                  refine S_val (Y_lss rfl rfl) ?_
                  refine S_nil (L' := (_ :: _ :: _ :: _ :: _ :: _ :: _ :: _ :: _ :: _ :: _ :: _ :: _ :: _ :: _ :: _ :: _ :: _ :: _ :: _ :: _ :: _ :: _ :: _ :: _ :: _ :: _ :: _ :: _ :: _ :: _ :: _ :: _ :: _ :: _ :: _ :: _ :: _ :: _ :: _ :: _ :: _ :: _ :: _ :: _ :: _ :: _ :: _ :: _ :: _ :: _ :: _ :: _ :: _ :: _ :: _ :: _ :: _ :: _ :: _ :: _ :: _ :: _ :: _ :: _ :: _ :: _ :: _ :: _ :: _ :: _ :: _ :: _ :: _ :: _ :: _ :: _ :: _ :: _ :: _ :: _ :: _ :: _ :: _ :: _ :: _ :: _ :: _ :: _ :: _ :: _ :: _ :: _ :: _ :: _ :: _ :: _ :: _ :: _ :: _ :: _ :: _ :: _ :: _ :: _ :: _ :: _ :: [])) rfl rfl ?_
                  refine th_n ?_
                  refine hK22 _ _ ?_
                  clear hK22 K22
                  refine S_if rfl (fun hb7 => ?_) (fun hb7 => ?_)  -- c5
                  · -- c5T
                    first | with_reducible (replace hb7 := nb_nt hb7) | with_reducible (replace hb7 := nb_nf hb7) | with_reducible (replace hb7 := nb_tt hb7) | with_reducible (replace hb7 := nb_tf hb7) | with_reducible (replace hb7 := nb_bt hb7) | with_reducible (replace hb7 := nb_bf hb7) | skip
                    have hj1 : j < h.roots.length := by omega
                    obtain ⟨g4, o4, rfl, hp4, hc4⟩ := hB.int hj1
                    have hcs := count_snoc k (h.roots.take j) h.roots[j]
                    rw [← List.take_succ_eq_append_getElem hj1] at hcs
                    refine wp_skip ?_
                    refine th_n ?_
                    refine hK21 _ _ ?_
                    clear hK21 K21
                    refine wp_seq_k fun K23 hK23 => ?_
                    refine wp_block ?_
                    refine wp_seq_k fun K24 hK24 => ?_
                    refine wp_region_lit ?_  -- region 15 l11_cycles.go:19
                    refine S_beg 107 rfl ?_
                    refine S_val (Y_field Try.underlying30 rfl fz30_1 (by decide) rfl) ?_
                    refine S_val (Y_load Try.underlying23 rfl rfl (by first | assumption | exact B1.at (by rfl) | exact cc2.at (by rfl))) ?_  -- l8
                    refine S_val (Y_move rfl) ?_
                    refine S_val (Y_index Try.underlying23 sz3 rfl rfl (by first | assumption | omega)) ?_
                    refine S_val (Y_load Try.underlying3 rfl rfl (by first | assumption | exact B1.at (by rfl) | exact cc2.at (by rfl))) ?_  -- l9
                    refine S_val (Y_move rfl) ?_
                    refine S_val (Y_eql rfl rfl) ?_
                    refine S_nil (L' := (_ :: _ :: _ :: _ :: _ :: _ :: _ :: _ :: _ :: _ :: _ :: _ :: _ :: _ :: _ :: _ :: _ :: _ :: _ :: _ :: _ :: _ :: _ :: _ :: _ :: _ :: _ :: _ :: _ :: _ :: _ :: _ :: _ :: _ :: _ :: _ :: _ :: _ :: _ :: _ :: _ :: _ :: _ :: _ :: _ :: _ :: _ :: _ :: _ :: _ :: _ :: _ :: _ :: _ :: _ :: _ :: _ :: _ :: _ :: _ :: _ :: _ :: _ :: _ :: _ :: _ :: _ :: _ :: _ :: _ :: _ :: _ :: _ :: _ :: _ :: _ :: _ :: _ :: _ :: _ :: _ :: _ :: _ :: _ :: _ :: _ :: _ :: _ :: _ :: _ :: _ :: _ :: _ :: _ :: _ :: _ :: _ :: _ :: _ :: _ :: _ :: _ :: _ :: _ :: _ :: _ :: _ :: [])) rfl rfl ?_
                    refine th_n ?_
                    refine hK24 _ _ ?_
                    clear hK24 K24
                    refine S_if rfl (fun hb8 => ?_) (fun hb8 => ?_)  -- c6
                    · -- c6T
                      first | with_reducible (replace hb8 := nb_nt hb8) | with_reducible (replace hb8 := nb_nf hb8) | with_reducible (replace hb8 := nb_tt hb8) | with_reducible (replace hb8 := nb_tf hb8) | with_reducible (replace hb8 := nb_bt hb8) | with_reducible (replace hb8 := nb_bf hb8) | skip
                      refine wp_region_lit ?_  -- region 16 l11_cycles.go:20
                      refine S_beg 107 rfl ?_
                      refine S_val (Y_move rfl) ?_
                      refine S_val (Y_inc rfl rfl (by omega)) ?_
                      refine S_val (Y_assign rfl) ?_
                      refine S_nil (L' := (_ :: _ :: _ :: _ :: _ :: _ :: _ :: _ :: _ :: _ :: _ :: _ :: _ :: _ :: _ :: _ :: _ :: _ :: _ :: _ :: _ :: _ :: _ :: _ :: _ :: _ :: _ :: _ :: _ :: _ :: _ :: _ :: _ :: _ :: _ :: _ :: _ :: _ :: _ :: _ :: _ :: _ :: _ :: _ :: _ :: _ :: _ :: _ :: _ :: _ :: _ :: _ :: _ :: _ :: _ :: _ :: _ :: _ :: _ :: _ :: _ :: _ :: _ :: _ :: _ :: _ :: _ :: _ :: _ :: _ :: _ :: _ :: _ :: _ :: _ :: _ :: _ :: _ :: _ :: _ :: _ :: _ :: _ :: _ :: _ :: _ :: _ :: _ :: _ :: _ :: _ :: _ :: _ :: _ :: _ :: _ :: _ :: _ :: _ :: _ :: _ :: _ :: _ :: _ :: _ :: _ :: _ :: [])) rfl rfl ?_
                      refine ib_n ?_
                      refine th_n ?_
                      refine hK23 _ _ ?_
                      clear hK23 K23
                      refine wp_region_lit ?_  -- region 14 l11_cycles.go:18
                      refine S_beg 107 rfl ?_
                      refine S_val (Y_move rfl) ?_
                      refine S_val (Y_inc rfl rfl (by omega)) ?_
                      refine S_val (Y_assign rfl) ?_
                      refine S_nil (L' := (_ :: _ :: _ :: _ :: _ :: _ :: _ :: _ :: _ :: _ :: _ :: _ :: _ :: _ :: _ :: _ :: _ :: _ :: _ :: _ :: _ :: _ :: _ :: _ :: _ :: _ :: _ :: _ :: _ :: _ :: _ :: _ :: _ :: _ :: _ :: _ :: _ :: _ :: _ :: _ :: _ :: _ :: _ :: _ :: _ :: _ :: _ :: _ :: _ :: _ :: _ :: _ :: _ :: _ :: _ :: _ :: _ :: _ :: _ :: _ :: _ :: _ :: _ :: _ :: _ :: _ :: _ :: _ :: _ :: _ :: _ :: _ :: _ :: _ :: _ :: _ :: _ :: _ :: _ :: _ :: _ :: _ :: _ :: _ :: _ :: _ :: _ :: _ :: _ :: _ :: _ :: _ :: _ :: _ :: _ :: _ :: _ :: _ :: _ :: _ :: _ :: _ :: _ :: _ :: _ :: _ :: _ :: [])) rfl rfl ?_
                      refine th_n ?_
                      go_roundw  -- e1 of L2
                      case rel =>
                        refine ⟨?_, GL6⟩
                        rw [if_pos hb8] at hcs
                        exact ⟨j + 1, rfl, by rw [hcs], by omega⟩
                      case measure =>
                        exact dec_nat (by omega)
                    · -- c6F
                      first | with_reducible (replace hb8 := nb_nt hb8) | with_reducible (replace hb8 := nb_nf hb8) | with_reducible (replace hb8 := nb_tt hb8) | with_reducible (replace hb8 := nb_tf hb8) | with_reducible (replace hb8 := nb_bt hb8) | with_reducible (replace hb8 := nb_bf hb8) | skip
                      refine wp_skip ?_
                      refine ib_n ?_
                      refine th_n ?_
                      refine hK23 _ _ ?_
                      clear hK23 K23
                      refine wp_region_lit ?_  -- region 14 l11_cycles.go:18
                      refine S_beg 107 rfl ?_
                      refine S_val (Y_move rfl) ?_
                      refine S_val (Y_inc rfl rfl (by omega)) ?_
                      refine S_val (Y_assign rfl) ?_
                      refine S_nil (L' := (_ :: _ :: _ :: _ :: _ :: _ :: _ :: _ :: _ :: _ :: _ :: _ :: _ :: _ :: _ :: _ :: _ :: _ :: _ :: _ :: _ :: _ :: _ :: _ :: _ :: _ :: _ :: _ :: _ :: _ :: _ :: _ :: _ :: _ :: _ :: _ :: _ :: _ :: _ :: _ :: _ :: _ :: _ :: _ :: _ :: _ :: _ :: _ :: _ :: _ :: _ :: _ :: _ :: _ :: _ :: _ :: _ :: _ :: _ :: _ :: _ :: _ :: _ :: _ :: _ :: _ :: _ :: _ :: _ :: _ :: _ :: _ :: _ :: _ :: _ :: _ :: _ :: _ :: _ :: _ :: _ :: _ :: _ :: _ :: _ :: _ :: _ :: _ :: _ :: _ :: _ :: _ :: _ :: _ :: _ :: _ :: _ :: _ :: _ :: _ :: _ :: _ :: _ :: _ :: _ :: _ :: _ :: [])) rfl rfl ?_
                      refine th_n ?_
                      go_roundw  -- e2 of L2
                      case rel =>
                        refine ⟨?_, GL6⟩
                        rw [if_neg hb8] at hcs
                        exact ⟨j + 1, rfl, by rw [hcs]; rfl, by omega⟩
                      case measure =>
                        exact dec_nat (by omega)
                  · -- c5F
                    first | with_reducible (replace hb7 := nb_nt hb7) | with_reducible (replace hb7 := nb_nf hb7) | with_reducible (replace hb7 := nb_tt hb7) | with_reducible (replace hb7 := nb_tf hb7) | with_reducible (replace hb7 := nb_bt hb7) | with_reducible (replace hb7 := nb_bf hb7) | skip
                    refine wp_exit ?_
                    refine th_x ?_
                    clear GL6
                    refine th_x ?_
                    refine ib_e ?_
                    refine th_n ?_
                    refine hK19 _ _ ?_
                    clear hK21 K21 hK19 K19
                    refine wp_seq_k fun K25 hK25 => ?_
                    refine wp_region_lit ?_  -- region 17 l11_cycles.go:23
                    refine S_beg 107 rfl ?_
                    refine S_val (Y_assign rfl) ?_
                    refine S_nil (L' := (_ :: _ :: _ :: _ :: _ :: _ :: _ :: _ :: _ :: _ :: _ :: _ :: _ :: _ :: _ :: _ :: _ :: _ :: _ :: _ :: _ :: _ :: _ :: _ :: _ :: _ :: _ :: _ :: _ :: _ :: _ :: _ :: _ :: _ :: _ :: _ :: _ :: _ :: _ :: _ :: _ :: _ :: _ :: _ :: _ :: _ :: _ :: _ :: _ :: _ :: _ :: _ :: _ :: _ :: _ :: _ :: _ :: _ :: _ :: _ :: _ :: _ :: _ :: _ :: _ :: _ :: _ :: _ :: _ :: _ :: _ :: _ :: _ :: _ :: _ :: _ :: _ :: _ :: _ :: _ :: _ :: _ :: _ :: _ :: _ :: _ :: _ :: _ :: _ :: _ :: _ :: _ :: _ :: _ :: _ :: _ :: _ :: _ :: _ :: _ :: _ :: _ :: _ :: _ :: _ :: _ :: _ :: [])) rfl rfl ?_
                    refine th_n ?_
                    refine hK25 _ _ ?_
                    clear hK25 K25
                    refine wp_block ?_
                    rw [List.take_of_length_le (by omega)]
                    go_loopw [7, 9] (fun u7 u9 wr => (∃ i : Nat, u9 = .int .i64 i ∧ u7 = .int .i64 (((h.roots ++ refsUp h.cells (inB bs) i).count (k : Int) : Nat) : Int) ∧ i ≤ h.cells.length) ∧ Mod No w6 wr) (fun u7 u9 wr => h.cells.length - (intOf u9).toNat)  -- L3
                    case atStart =>
                      refine ⟨?_, Mod.refl _ _⟩
                      exact ⟨0, rfl, by simp [refsUp], by omega⟩
                    case round =>
                      obtain ⟨w7, rfl⟩ : ∃ x : World, x = wr := ⟨_, rfl⟩
                      obtain ⟨hrel, g7⟩ := hrel
                      replace hA := hA.grow g7
                      replace hB := hB.grow g7
                      replace hC := hC.grow g7
                      replace cc2 := cc2.grow g7
                      replace O1 := O1.grow g7
                      replace G := G.grow g7
                      replace GL4 := GL4.grow g7
                      replace B1 := B1.grow g7
                      have zg7 := g7.size
                      obtain ⟨i, rfl, rfl, hi⟩ := hrel
                      have GL7 := g7
                      refine wp_seq_k fun K26 hK26 => ?_
                      refine wp_seq_k fun K27 hK27 => ?_
                      refine wp_region_lit ?_  -- region 18 l11_cycles.go:23
                      refine S_beg 107 rfl ?_
                      refine S_val (Y_move rfl) ?_
                      refine S_val (Y_field Try.underlying30 rfl fz30_0 (by decide) rfl) ?_
                      refine S_val (Y_load Try.underlying28 rfl rfl (by first | assumption | exact B1.at (by rfl) | exact cc2.at (by rfl))) ?_  -- l10
                      refine S_val (Y_len Try.underlying28 rfl) ?_
                      refine S_val (Y_lss rfl rfl) ?_
                      refine S_nil (L' := (_ :: _ :: _ :: _ :: _ :: _ :: _ :: _ :: _ :: _ :: _ :: _ :: _ :: _ :: _ :: _ :: _ :: _ :: _ :: _ :: _ :: _ :: _ :: _ :: _ :: _ :: _ :: _ :: _ :: _ :: _ :: _ :: _ :: _ :: _ :: _ :: _ :: _ :: _ :: _ :: _ :: _ :: _ :: _ :: _ :: _ :: _ :: _ :: _ :: _ :: _ :: _ :: _ :: _ :: _ :: _ :: _ :: _ :: _ :: _ :: _ :: _ :: _ :: _ :: _ :: _ :: _ :: _ :: _ :: _ :: _ :: _ :: _ :: _ :: _ :: _ :: _ :: _ :: _ :: _ :: _ :: _ :: _ :: _ :: _ :: _ :: _ :: _ :: _ :: _ :: _ :: _ :: _ :: _ :: _ :: _ :: _ :: _ :: _ :: _ :: _ :: _ :: _ :: _ :: _ :: _ :: _ :: [])) rfl rfl ?_
                      refine th_n ?_
                      refine hK27 _ _ ?_
                      clear hK27 K27
                      refine S_if rfl (fun hb8 => ?_) (fun hb8 => ?_)  -- c7
                      · -- c7T
                        first | with_reducible (replace hb8 := nb_nt hb8) | with_reducible (replace hb8 := nb_nf hb8) | with_reducible (replace hb8 := nb_tt hb8) | with_reducible (replace hb8 := nb_tf hb8) | with_reducible (replace hb8 := nb_bt hb8) | with_reducible (replace hb8 := nb_bf hb8) | skip
                        have hi1 : i < h.cells.length := by omega
                        obtain ⟨g5, o5, E5, d5, e5, hp5, cc50, hE50⟩ := hA0.cell hi1
                        cases e5
                        have cc5 := cc50.grow G
                        have hE5 := hE50.grow G
                        have hq1 := refsUp_le (cs := h.cells) (sk := inB bs) (Nat.le_of_lt hi1)
                        have hq2 := rsum_succ hi1
                        have hq3 := rsum_mono (cs := h.cells) (k := i + 1) (n := h.cells.length) (by omega) (Nat.le_refl _)
                        have hi2 : i < bs.length := by omega
                        obtain ⟨g6, o6, e6, hp6, hc60⟩ := hC.bool hi2
                        cases e6
                        have hii := inB_at hi2
                        refine wp_skip ?_
                        refine th_n ?_
                        refine hK26 _ _ ?_
                        clear hK26 K26
                        refine wp_seq_k fun K28 hK28 => ?_
                        refine wp_block ?_
                        refine wp_seq_k fun K29 hK29 => ?_
                        refine wp_region_lit ?_  -- region 20 l11_cycles.go:24
                        refine S_beg 107 rfl ?_
                        refine S_val (Y_assign rfl) ?_
                        refine S_nil (L' := (_ :: _ :: _ :: _ :: _ :: _ :: _ :: _ :: _ :: _ :: _ :: _ :: _ :: _ :: _ :: _ :: _ :: _ :: _ :: _ :: _ :: _ :: _ :: _ :: _ :: _ :: _ :: _ :: _ :: _ :: _ :: _ :: _ :: _ :: _ :: _ :: _ :: _ :: _ :: _ :: _ :: _ :: _ :: _ :: _ :: _ :: _ :: _ :: _ :: _ :: _ :: _ :: _ :: _ :: _ :: _ :: _ :: _ :: _ :: _ :: _ :: _ :: _ :: _ :: _ :: _ :: _ :: _ :: _ :: _ :: _ :: _ :: _ :: _ :: _ :: _ :: _ :: _ :: _ :: _ :: _ :: _ :: _ :: _ :: _ :: _ :: _ :: _ :: _ :: _ :: _ :: _ :: _ :: _ :: _ :: _ :: _ :: _ :: _ :: _ :: _ :: _ :: _ :: _ :: _ :: _ :: _ :: [])) rfl rfl ?_
                        refine th_n ?_
                        refine hK29 _ _ ?_
                        clear hK29 K29
                        refine wp_block ?_
                        go_loopw [7, 10] (fun u7 u10 wr => (∃ j : Nat, u10 = .int .i64 j ∧ u7 = .int .i64 (((h.roots ++ refsUp h.cells (inB bs) i ++ h.cells[i].refs.take j).count (k : Int) : Nat) : Int) ∧ j ≤ h.cells[i].refs.length ∧ (inB bs i = true → j = 0)) ∧ Mod No w7 wr) (fun u7 u10 wr => h.cells[i].refs.length - (intOf u10).toNat)  -- L4
                        case atStart =>
                          refine ⟨?_, Mod.refl _ _⟩
                          exact ⟨0, rfl, by simp, by omega, fun _ => rfl⟩
                        case round =>
                          obtain ⟨w8, rfl⟩ : ∃ x : World, x = wr := ⟨_, rfl⟩
                          obtain ⟨hrel, g8⟩ := hrel
                          replace hA := hA.grow g8
                          replace hB := hB.grow g8
                          replace hC := hC.grow g8
                          replace cc2 := cc2.grow g8
                          replace cc5 := cc5.grow g8
                          replace hE5 := hE5.grow g8
                          replace O1 := O1.grow g8
                          replace G := G.grow g8
                          replace GL4 := GL4.grow g8
                          replace GL7 := GL7.grow g8
                          replace B1 := B1.grow g8
                          have zg8 := g8.size
                          obtain ⟨j, rfl, rfl, hj, hj0⟩ := hrel
                          have hcl := count_le (k : Int) (h.roots ++ refsUp h.cells (inB bs) i ++ h.cells[i].refs.take j)
                          rw [List.length_append, List.length_append, List.length_take] at hcl
                          obtain ⟨g6, o6, e6, hp6, hc6⟩ := hC.bool hi2
                          cases e6
                          have GL8 := g8
                          refine wp_seq_k fun K30 hK30 => ?_
                          refine wp_seq_k fun K31 hK31 => ?_
                          refine wp_region_lit ?_  -- region 21 l11_cycles.go:24
                          refine S_beg 107 rfl ?_
                          refine S_val (Y_move rfl) ?_
                          refine S_val (Y_field Try.underlying30 rfl fz30_0 (by decide) rfl) ?_
                          refine S_val (Y_load Try.underlying28 rfl rfl (by first | assumption | exact B1.at (by rfl) | exact cc2.at (by rfl) | exact cc5.at (by rfl))) ?_  -- l11
                          refine S_val (Y_move rfl) ?_
                          refine S_val (Y_index Try.underlying28 sz83 rfl rfl (by first | assumption | omega)) ?_
                          refine S_val (Y_field Try.underlying83 rfl fz83_2 (by decide) rfl) ?_
                          refine S_val (Y_load Try.underlying23 rfl rfl (by first | assumption | exact B1.at (by rfl) | exact cc2.at (by rfl) | exact cc5.at (by rfl))) ?_  -- l12
                          refine S_val (Y_len Try.underlying23 rfl) ?_
                          refine S_val (Y_lss rfl rfl) ?_
                          refine S_val (Y_move rfl) ?_
                          refine S_g 80 rfl (fun hb9 => ?_) (fun hb9 => ?_)  -- g3
                          · -- g3T
                            first | with_reducible (replace hb9 := nb_nt hb9) | with_reducible (replace hb9 := nb_nf hb9) | with_reducible (replace hb9 := nb_tt hb9) | with_reducible (replace hb9 := nb_tf hb9) | with_reducible (replace hb9 := nb_bt hb9) | with_reducible (replace hb9 := nb_bf hb9) | skip
                            refine S_on rfl rfl ?_
                            refine S_val (Y_move rfl) ?_
                            refine S_on rfl rfl ?_
                            refine S_val (Y_move rfl) ?_
                            refine S_on rfl rfl ?_
                            refine S_val (Y_index Try.underlying55 sz4 rfl rfl (by first | assumption | omega)) ?_
                            refine S_on rfl rfl ?_
                            refine S_val (Y_load Try.underlying4 rfl rfl (by first | assumption | exact B1.at (by rfl) | exact cc2.at (by rfl) | exact cc5.at (by rfl))) ?_  -- l13
                            refine S_on rfl rfl ?_
                            refine S_val (Y_not rfl) ?_
                            refine S_val (Y_pickT rfl rfl) ?_
                            refine S_nil (L' := (_ :: _ :: _ :: _ :: _ :: _ :: _ :: _ :: _ :: _ :: _ :: _ :: _ :: _ :: _ :: _ :: _ :: _ :: _ :: _ :: _ :: _ :: _ :: _ :: _ :: _ :: _ :: _ :: _ :: _ :: _ :: _ :: _ :: _ :: _ :: _ :: _ :: _ :: _ :: _ :: _ :: _ :: _ :: _ :: _ :: _ :: _ :: _ :: _ :: _ :: _ :: _ :: _ :: _ :: _ :: _ :: _ :: _ :: _ :: _ :: _ :: _ :: _ :: _ :: _ :: _ :: _ :: _ :: _ :: _ :: _ :: _ :: _ :: _ :: _ :: _ :: _ :: _ :: _ :: _ :: _ :: _ :: _ :: _ :: _ :: _ :: _ :: _ :: _ :: _ :: _ :: _ :: _ :: _ :: _ :: _ :: _ :: _ :: _ :: _ :: _ :: _ :: _ :: _ :: _ :: _ :: _ :: [])) rfl rfl ?_
                            refine th_n ?_
                            refine hK31 _ _ ?_
                            clear hK31 K31
                            refine S_if rfl (fun hb10 => ?_) (fun hb10 => ?_)  -- c8
                            · -- c8T
                              first | with_reducible (replace hb10 := nb_nt hb10) | with_reducible (replace hb10 := nb_nf hb10) | with_reducible (replace hb10 := nb_tt hb10) | with_reducible (replace hb10 := nb_tf hb10) | with_reducible (replace hb10 := nb_bt hb10) | with_reducible (replace hb10 := nb_bf hb10) | skip
                              have hj1 : j < h.cells[i].refs.length := by omega
                              obtain ⟨g7, o7, e7, hp7, hc7⟩ := hE5.int hj1
                              cases e7
                              have hcs := count_snoc k (h.roots ++ refsUp h.cells (inB bs) i ++ h.cells[i].refs.take j) h.cells[i].refs[j]
                              rw [List.append_assoc, ← List.take_succ_eq_append_getElem hj1] at hcs
                              refine wp_skip ?_
                              refine th_n ?_
                              refine hK30 _ _ ?_
                              clear hK30 K30
                              refine wp_seq_k fun K32 hK32 => ?_
                              refine wp_block ?_
                              refine wp_seq_k fun K33 hK33 => ?_
                              refine wp_region_lit ?_  -- region 23 l11_cycles.go:25
                              refine S_beg 107 rfl ?_
                              refine S_val (Y_field Try.underlying30 rfl fz30_0 (by decide) rfl) ?_
                              refine S_val (Y_load Try.underlying28 rfl rfl (by first | assumption | exact B1.at (by rfl) | exact cc2.at (by rfl) | exact cc5.at (by rfl))) ?_  -- l14
                              refine S_val (Y_move rfl) ?_
                              refine S_val (Y_index Try.underlying28 sz83 rfl rfl (by first | assumption | omega)) ?_
                              refine S_val (Y_field Try.underlying83 rfl fz83_2 (by decide) rfl) ?_
                              refine S_val (Y_load Try.underlying23 rfl rfl (by first | assumption | exact B1.at (by rfl) | exact cc2.at (by rfl) | exact cc5.at (by rfl))) ?_  -- l15
                              refine S_val (Y_move rfl) ?_
                              refine S_val (Y_index Try.underlying23 sz3 rfl rfl (by first | assumption | omega)) ?_
                              refine S_val (Y_load Try.underlying3 rfl rfl (by first | assumption | exact B1.at (by rfl) | exact cc2.at (by rfl) | exact cc5.at (by rfl))) ?_  -- l16
                              refine S_val (Y_move rfl) ?_
                              refine S_val (Y_eql rfl rfl) ?_
                              refine S_nil (L' := (_ :: _ :: _ :: _ :: _ :: _ :: _ :: _ :: _ :: _ :: _ :: _ :: _ :: _ :: _ :: _ :: _ :: _ :: _ :: _ :: _ :: _ :: _ :: _ :: _ :: _ :: _ :: _ :: _ :: _ :: _ :: _ :: _ :: _ :: _ :: _ :: _ :: _ :: _ :: _ :: _ :: _ :: _ :: _ :: _ :: _ :: _ :: _ :: _ :: _ :: _ :: _ :: _ :: _ :: _ :: _ :: _ :: _ :: _ :: _ :: _ :: _ :: _ :: _ :: _ :: _ :: _ :: _ :: _ :: _ :: _ :: _ :: _ :: _ :: _ :: _ :: _ :: _ :: _ :: _ :: _ :: _ :: _ :: _ :: _ :: _ :: _ :: _ :: _ :: _ :: _ :: _ :: _ :: _ :: _ :: _ :: _ :: _ :: _ :: _ :: _ :: _ :: _ :: _ :: _ :: _ :: _ :: [])) rfl rfl ?_
                              refine th_n ?_
                              refine hK33 _ _ ?_
                              clear hK33 K33
                              refine S_if rfl (fun hb11 => ?_) (fun hb11 => ?_)  -- c9
                              · -- c9T
                                first | with_reducible (replace hb11 := nb_nt hb11) | with_reducible (replace hb11 := nb_nf hb11) | with_reducible (replace hb11 := nb_tt hb11) | with_reducible (replace hb11 := nb_tf hb11) | with_reducible (replace hb11 := nb_bt hb11) | with_reducible (replace hb11 := nb_bf hb11) | skip
                                refine wp_region_lit ?_  -- region 24 l11_cycles.go:26
                                refine S_beg 107 rfl ?_
                                refine S_val (Y_move rfl) ?_
                                refine S_val (Y_inc rfl rfl (by omega)) ?_
                                refine S_val (Y_assign rfl) ?_
                                refine S_nil (L' := (_ :: _ :: _ :: _ :: _ :: _ :: _ :: _ :: _ :: _ :: _ :: _ :: _ :: _ :: _ :: _ :: _ :: _ :: _ :: _ :: _ :: _ :: _ :: _ :: _ :: _ :: _ :: _ :: _ :: _ :: _ :: _ :: _ :: _ :: _ :: _ :: _ :: _ :: _ :: _ :: _ :: _ :: _ :: _ :: _ :: _ :: _ :: _ :: _ :: _ :: _ :: _ :: _ :: _ :: _ :: _ :: _ :: _ :: _ :: _ :: _ :: _ :: _ :: _ :: _ :: _ :: _ :: _ :: _ :: _ :: _ :: _ :: _ :: _ :: _ :: _ :: _ :: _ :: _ :: _ :: _ :: _ :: _ :: _ :: _ :: _ :: _ :: _ :: _ :: _ :: _ :: _ :: _ :: _ :: _ :: _ :: _ :: _ :: _ :: _ :: _ :: _ :: _ :: _ :: _ :: _ :: _ :: [])) rfl rfl ?_
                                refine ib_n ?_
                                refine th_n ?_
                                refine hK32 _ _ ?_
                                clear hK32 K32
                                refine wp_region_lit ?_  -- region 22 l11_cycles.go:24
                                refine S_beg 107 rfl ?_
                                refine S_val (Y_move rfl) ?_
                                refine S_val (Y_inc rfl rfl (by omega)) ?_
                                refine S_val (Y_assign rfl) ?_
                                refine S_nil (L' := (_ :: _ :: _ :: _ :: _ :: _ :: _ :: _ :: _ :: _ :: _ :: _ :: _ :: _ :: _ :: _ :: _ :: _ :: _ :: _ :: _ :: _ :: _ :: _ :: _ :: _ :: _ :: _ :: _ :: _ :: _ :: _ :: _ :: _ :: _ :: _ :: _ :: _ :: _ :: _ :: _ :: _ :: _ :: _ :: _ :: _ :: _ :: _ :: _ :: _ :: _ :: _ :: _ :: _ :: _ :: _ :: _ :: _ :: _ :: _ :: _ :: _ :: _ :: _ :: _ :: _ :: _ :: _ :: _ :: _ :: _ :: _ :: _ :: _ :: _ :: _ :: _ :: _ :: _ :: _ :: _ :: _ :: _ :: _ :: _ :: _ :: _ :: _ :: _ :: _ :: _ :: _ :: _ :: _ :: _ :: _ :: _ :: _ :: _ :: _ :: _ :: _ :: _ :: _ :: _ :: _ :: _ :: [])) rfl rfl ?_
                                refine th_n ?_
                                go_roundw  -- e3 of L4
                                case rel =>
                                  refine ⟨?_, GL8⟩
                                  rw [if_pos hb11] at hcs
                                  exact ⟨j + 1, rfl, by rw [hcs], by omega, fun hh => by rw [hii, hb10] at hh; cases hh⟩
                                case measure =>
                                  exact dec_nat (by omega)
                              · -- c9F
                                first | with_reducible (replace hb11 := nb_nt hb11) | with_reducible (replace hb11 := nb_nf hb11) | with_reducible (replace hb11 := nb_tt hb11) | with_reducible (replace hb11 := nb_tf hb11) | with_reducible (replace hb11 := nb_bt hb11) | with_reducible (replace hb11 := nb_bf hb11) | skip
                                refine wp_skip ?_
                                refine ib_n ?_
                                refine th_n ?_
                                refine hK32 _ _ ?_
                                clear hK32 K32
                                refine wp_region_lit ?_  -- region 22 l11_cycles.go:24
                                refine S_beg 107 rfl ?_
                                refine S_val (Y_move rfl) ?_
                                refine S_val (Y_inc rfl rfl (by omega)) ?_
                                refine S_val (Y_assign rfl) ?_
                                refine S_nil (L' := (_ :: _ :: _ :: _ :: _ :: _ :: _ :: _ :: _ :: _ :: _ :: _ :: _ :: _ :: _ :: _ :: _ :: _ :: _ :: _ :: _ :: _ :: _ :: _ :: _ :: _ :: _ :: _ :: _ :: _ :: _ :: _ :: _ :: _ :: _ :: _ :: _ :: _ :: _ :: _ :: _ :: _ :: _ :: _ :: _ :: _ :: _ :: _ :: _ :: _ :: _ :: _ :: _ :: _ :: _ :: _ :: _ :: _ :: _ :: _ :: _ :: _ :: _ :: _ :: _ :: _ :: _ :: _ :: _ :: _ :: _ :: _ :: _ :: _ :: _ :: _ :: _ :: _ :: _ :: _ :: _ :: _ :: _ :: _ :: _ :: _ :: _ :: _ :: _ :: _ :: _ :: _ :: _ :: _ :: _ :: _ :: _ :: _ :: _ :: _ :: _ :: _ :: _ :: _ :: _ :: _ :: _ :: [])) rfl rfl ?_
                                refine th_n ?_
                                go_roundw  -- e4 of L4
                                case rel =>
                                  refine ⟨?_, GL8⟩
                                  rw [if_neg hb11] at hcs
                                  exact ⟨j + 1, rfl, by rw [hcs]; rfl, by omega, fun hh => by rw [hii, hb10] at hh; cases hh⟩
                                case measure =>
                                  exact dec_nat (by omega)
                            · -- c8F
                              first | with_reducible (replace hb10 := nb_nt hb10) | with_reducible (replace hb10 := nb_nf hb10) | with_reducible (replace hb10 := nb_tt hb10) | with_reducible (replace hb10 := nb_tf hb10) | with_reducible (replace hb10 := nb_bt hb10) | with_reducible (replace hb10 := nb_bf hb10) | skip
                              refine wp_exit ?_
                              refine th_x ?_
                              clear GL8
                              refine th_x ?_
                              refine ib_e ?_
                              refine ib_n ?_
                              refine th_n ?_
                              refine hK28 _ _ ?_
                              clear hK30 K30 hK28 K28
                              refine wp_region_lit ?_  -- region 19 l11_cycles.go:23
                              refine S_beg 107 rfl ?_
                              refine S_val (Y_move rfl) ?_
                              refine S_val (Y_inc rfl rfl (by omega)) ?_
                              refine S_val (Y_assign rfl) ?_
                              refine S_nil (L' := (_ :: _ :: _ :: _ :: _ :: _ :: _ :: _ :: _ :: _ :: _ :: _ :: _ :: _ :: _ :: _ :: _ :: _ :: _ :: _ :: _ :: _ :: _ :: _ :: _ :: _ :: _ :: _ :: _ :: _ :: _ :: _ :: _ :: _ :: _ :: _ :: _ :: _ :: _ :: _ :: _ :: _ :: _ :: _ :: _ :: _ :: _ :: _ :: _ :: _ :: _ :: _ :: _ :: _ :: _ :: _ :: _ :: _ :: _ :: _ :: _ :: _ :: _ :: _ :: _ :: _ :: _ :: _ :: _ :: _ :: _ :: _ :: _ :: _ :: _ :: _ :: _ :: _ :: _ :: _ :: _ :: _ :: _ :: _ :: _ :: _ :: _ :: _ :: _ :: _ :: _ :: _ :: _ :: _ :: _ :: _ :: _ :: _ :: _ :: _ :: _ :: _ :: _ :: _ :: _ :: _ :: _ :: [])) rfl rfl ?_
                              refine th_n ?_
                              go_roundw  -- e5 of L3
                              case rel =>
                                refine ⟨?_, GL7⟩
                                have hin : inB bs i = true := by rw [hii]; exact hb10
                                have hj00 := hj0 hin
                                subst hj00
                                exact ⟨i + 1, rfl, by rw [refsUp_skip hin]; simp, by omega⟩
                              case measure =>
                                exact dec_nat (by omega)
                          · -- g3F
                            first | with_reducible (replace hb9 := nb_nt hb9) | with_reducible (replace hb9 := nb_nf hb9) | with_reducible (replace hb9 := nb_tt hb9) | with_reducible (replace hb9 := nb_tf hb9) | with_reducible (replace hb9 := nb_bt hb9) | with_reducible (replace hb9 := nb_bf hb9) | skip
                            refine S_off rfl rfl ?_
                            refine S_off rfl rfl ?_
                            refine S_off rfl rfl ?_
                            refine S_off rfl rfl ?_
                            refine S_off rfl rfl ?_
                            refine S_val (Y_pickF rfl rfl) ?_
                            refine S_nil (L' := (_ :: _ :: _ :: _ :: _ :: _ :: _ :: _ :: _ :: _ :: _ :: _ :: _ :: _ :: _ :: _ :: _ :: _ :: _ :: _ :: _ :: _ :: _ :: _ :: _ :: _ :: _ :: _ :: _ :: _ :: _ :: _ :: _ :: _ :: _ :: _ :: _ :: _ :: _ :: _ :: _ :: _ :: _ :: _ :: _ :: _ :: _ :: _ :: _ :: _ :: _ :: _ :: _ :: _ :: _ :: _ :: _ :: _ :: _ :: _ :: _ :: _ :: _ :: _ :: _ :: _ :: _ :: _ :: _ :: _ :: _ :: _ :: _ :: _ :: _ :: _ :: _ :: _ :: _ :: _ :: _ :: _ :: _ :: _ :: _ :: _ :: _ :: _ :: _ :: _ :: _ :: _ :: _ :: _ :: _ :: _ :: _ :: _ :: _ :: _ :: _ :: _ :: _ :: _ :: _ :: _ :: _ :: [])) rfl rfl ?_
                            refine th_n ?_
                            refine hK31 _ _ ?_
                            clear hK31 K31
                            refine S_ifF rfl ?_
                            refine wp_exit ?_
                            refine th_x ?_
                            clear GL8
                            refine th_x ?_
                            refine ib_e ?_
                            refine ib_n ?_
                            refine th_n ?_
                            refine hK28 _ _ ?_
                            clear hK30 K30 hK28 K28
                            refine wp_region_lit ?_  -- region 19 l11_cycles.go:23
                            refine S_beg 107 rfl ?_
                            refine S_val (Y_move rfl) ?_
                            refine S_val (Y_inc rfl rfl (by omega)) ?_
                            refine S_val (Y_assign rfl) ?_
                            refine S_nil (L' := (_ :: _ :: _ :: _ :: _ :: _ :: _ :: _ :: _ :: _ :: _ :: _ :: _ :: _ :: _ :: _ :: _ :: _ :: _ :: _ :: _ :: _ :: _ :: _ :: _ :: _ :: _ :: _ :: _ :: _ :: _ :: _ :: _ :: _ :: _ :: _ :: _ :: _ :: _ :: _ :: _ :: _ :: _ :: _ :: _ :: _ :: _ :: _ :: _ :: _ :: _ :: _ :: _ :: _ :: _ :: _ :: _ :: _ :: _ :: _ :: _ :: _ :: _ :: _ :: _ :: _ :: _ :: _ :: _ :: _ :: _ :: _ :: _ :: _ :: _ :: _ :: _ :: _ :: _ :: _ :: _ :: _ :: _ :: _ :: _ :: _ :: _ :: _ :: _ :: _ :: _ :: _ :: _ :: _ :: _ :: _ :: _ :: _ :: _ :: _ :: _ :: _ :: _ :: _ :: _ :: _ :: _ :: [])) rfl rfl ?_
                            refine th_n ?_
                            go_roundw  -- e6 of L3
                            case rel =>
                              refine ⟨?_, GL7⟩
                              cases hh : inB bs i with
                              | true =>
                                have hj00 := hj0 hh
                                subst hj00
                                exact ⟨i + 1, rfl, by rw [refsUp_skip hh]; simp, by omega⟩
                              | false => exact ⟨i + 1, rfl, by rw [refsUp_succ hi1 hh, List.take_of_length_le (by omega), ← List.append_assoc], by omega⟩
                            case measure =>
                              exact dec_nat (by omega)
                      · -- c7F
                        first | with_reducible (replace hb8 := nb_nt hb8) | with_reducible (replace hb8 := nb_nf hb8) | with_reducible (replace hb8 := nb_tt hb8) | with_reducible (replace hb8 := nb_tf hb8) | with_reducible (replace hb8 := nb_bt hb8) | with_reducible (replace hb8 := nb_bf hb8) | skip
                        refine wp_exit ?_
                        refine th_x ?_
                        clear GL7
                        refine th_x ?_
                        refine ib_e ?_
                        refine th_n ?_
                        refine hK16 _ _ ?_
                        clear hK26 K26 hK16 K16
                        refine wp_region_lit ?_  -- region 25 l11_cycles.go:31
                        refine S_beg 107 rfl ?_
                        refine S_val (Y_move rfl) ?_
                        refine S_val (Y_move rfl) ?_
                        refine S_bs1 (cs := [_]) Try.underlying23 zr3 sz3 rfl rfl rfl ?_
                        intro b9 w9 fb9 g9 B9
                        have lb9 := B9.lt
                        replace hA := hA.grow g9
                        replace hB := hB.grow g9
                        replace hC := hC.grow g9
                        replace cc2 := cc2.grow g9
                        replace O1 := O1.grow g9
                        replace G := G.grow g9
                        replace GL4 := GL4.grow g9
                        replace B1 := B1.grow g9
                        have zg9 := g9.size
                        refine S_app Try.underlying23 zr3 sz3 by3 rfl rfl O1 rfl (Src.blk B9) (by simp [Value.oneCell']) (by omega) (Pr' := fun i => i = b2 ∨ wz ≤ i) (fun i hi => hi) (by omega) ?_
                        intro A10 cap10 w10 X10 m10
                        replace O1 := X10
                        rw [ints_app] at O1
                        clear X10
                        replace G := G.above m10 (by intro i h; first | omega | (dsimp only at h; omega))
                        replace GL4 := Mod.trans' GL4 m10 (fun _ h _ => h) (fun i h _ => by first | exact h | omega | (dsimp only at h ⊢; omega) | (subst h; rfl) | (subst h; exact ⟨by omega, rfl⟩))
                        replace hA := hA0.grow G
                        replace hB := hB0.grow G
                        replace hC := hC0.grow G
                        replace cc2 := cc20.grow G
                        replace B1 := B1.mod m10 (by intro h; first | omega | (dsimp only at h; omega))
                        have zm10 := m10.size
                        refine S_val (Y_assign rfl) ?_
                        refine S_nil (L' := (_ :: _ :: _ :: _ :: _ :: _ :: _ :: _ :: _ :: _ :: _ :: _ :: _ :: _ :: _ :: _ :: _ :: _ :: _ :: _ :: _ :: _ :: _ :: _ :: _ :: _ :: _ :: _ :: _ :: _ :: _ :: _ :: _ :: _ :: _ :: _ :: _ :: _ :: _ :: _ :: _ :: _ :: _ :: _ :: _ :: _ :: _ :: _ :: _ :: _ :: _ :: _ :: _ :: _ :: _ :: _ :: _ :: _ :: _ :: _ :: _ :: _ :: _ :: _ :: _ :: _ :: _ :: _ :: _ :: _ :: _ :: _ :: _ :: _ :: _ :: _ :: _ :: _ :: _ :: _ :: _ :: _ :: _ :: _ :: _ :: _ :: _ :: _ :: _ :: _ :: _ :: _ :: _ :: _ :: _ :: _ :: _ :: _ :: _ :: _ :: _ :: _ :: _ :: _ :: _ :: _ :: _ :: [])) rfl rfl ?_
                        refine ib_n ?_
                        refine th_n ?_
                        refine hK11 _ _ ?_
                        clear hK11 K11
                        refine wp_region_lit ?_  -- region 6 l11_cycles.go:11
                        refine S_beg 107 rfl ?_
                        refine S_val (Y_move rfl) ?_
                        refine S_val (Y_inc rfl rfl (by omega)) ?_
                        refine S_val (Y_assign rfl) ?_
                        refine S_nil (L' := (_ :: _ :: _ :: _ :: _ :: _ :: _ :: _ :: _ :: _ :: _ :: _ :: _ :: _ :: _ :: _ :: _ :: _ :: _ :: _ :: _ :: _ :: _ :: _ :: _ :: _ :: _ :: _ :: _ :: _ :: _ :: _ :: _ :: _ :: _ :: _ :: _ :: _ :: _ :: _ :: _ :: _ :: _ :: _ :: _ :: _ :: _ :: _ :: _ :: _ :: _ :: _ :: _ :: _ :: _ :: _ :: _ :: _ :: _ :: _ :: _ :: _ :: _ :: _ :: _ :: _ :: _ :: _ :: _ :: _ :: _ :: _ :: _ :: _ :: _ :: _ :: _ :: _ :: _ :: _ :: _ :: _ :: _ :: _ :: _ :: _ :: _ :: _ :: _ :: _ :: _ :: _ :: _ :: _ :: _ :: _ :: _ :: _ :: _ :: _ :: _ :: _ :: _ :: _ :: _ :: _ :: _ :: [])) rfl rfl ?_
                        refine th_n ?_
                        go_roundw  -- e7 of L1
                        case rel =>
                          refine ⟨?_, GL4⟩
                          have hiN : i = h.cells.length := by omega
                          rw [hiN] at O1
                          have hti : tri1 h bs k = (((h.roots ++ refsUp h.cells (inB bs) h.cells.length).count (k : Int) : Nat) : Int) := by unfold tri1; rw [if_pos hib]; rfl
                          exact ⟨k + 1, _, _, _, rfl, rfl, by omega, by rw [triL_len]; omega, by rw [triL_succ, hti]; exact O1, by rw [insU_succ, hiu, hue, hb5]; simp⟩
                        case measure =>
                          exact dec_nat (by omega)
              · -- c4F
                first | with_reducible (replace hb6 := nb_nt hb6) | with_reducible (replace hb6 := nb_nf hb6) | with_reducible (replace hb6 := nb_tt hb6) | with_reducible (replace hb6 := nb_tf hb6) | with_reducible (replace hb6 := nb_bt hb6) | with_reducible (replace hb6 := nb_bf hb6) | skip
                rw [hb4] at hb6; cases hb6
          · -- g2F
            first | with_reducible (replace hb4 := nb_nt hb4) | with_reducible (replace hb4 := nb_nf hb4) | with_reducible (replace hb4 := nb_tt hb4) | with_reducible (replace hb4 := nb_tf hb4) | with_reducible (replace hb4 := nb_bt hb4) | with_reducible (replace hb4 := nb_bf hb4) | skip
            refine S_off rfl rfl ?_
            refine S_off rfl rfl ?_
            refine S_off rfl rfl ?_
            refine S_off rfl rfl ?_
            refine S_off rfl rfl ?_
            refine S_off rfl rfl ?_
            refine S_off rfl rfl ?_
            refine S_val (Y_pickF rfl rfl) ?_
            refine S_nil (L' := (_ :: _ :: _ :: _ :: _ :: _ :: _ :: _ :: _ :: _ :: _ :: _ :: _ :: _ :: _ :: _ :: _ :: _ :: _ :: _ :: _ :: _ :: _ :: _ :: _ :: _ :: _ :: _ :: _ :: _ :: _ :: _ :: _ :: _ :: _ :: _ :: _ :: _ :: _ :: _ :: _ :: _ :: _ :: _ :: _ :: _ :: _ :: _ :: _ :: _ :: _ :: _ :: _ :: _ :: _ :: _ :: _ :: _ :: _ :: _ :: _ :: _ :: _ :: _ :: _ :: _ :: _ :: _ :: _ :: _ :: _ :: _ :: _ :: _ :: _ :: _ :: _ :: _ :: _ :: _ :: _ :: _ :: _ :: _ :: _ :: _ :: _ :: _ :: _ :: _ :: _ :: _ :: _ :: _ :: _ :: _ :: _ :: _ :: _ :: _ :: _ :: _ :: _ :: _ :: _ :: _ :: _ :: [])) rfl rfl ?_
            refine th_n ?_
            refine hK13 _ _ ?_
            clear hK13 K13
            refine S_ifF rfl ?_
            refine wp_skip ?_
            refine th_n ?_
            refine hK12 _ _ ?_
            clear hK12 K12
            refine wp_seq_k fun K34 hK34 => ?_
            refine wp_region_lit ?_  -- region 9 l11_cycles.go:15
            refine S_beg 107 rfl ?_
            refine S_val (Y_assign rfl) ?_
            refine S_nil (L' := (_ :: _ :: _ :: _ :: _ :: _ :: _ :: _ :: _ :: _ :: _ :: _ :: _ :: _ :: _ :: _ :: _ :: _ :: _ :: _ :: _ :: _ :: _ :: _ :: _ :: _ :: _ :: _ :: _ :: _ :: _ :: _ :: _ :: _ :: _ :: _ :: _ :: _ :: _ :: _ :: _ :: _ :: _ :: _ :: _ :: _ :: _ :: _ :: _ :: _ :: _ :: _ :: _ :: _ :: _ :: _ :: _ :: _ :: _ :: _ :: _ :: _ :: _ :: _ :: _ :: _ :: _ :: _ :: _ :: _ :: _ :: _ :: _ :: _ :: _ :: _ :: _ :: _ :: _ :: _ :: _ :: _ :: _ :: _ :: _ :: _ :: _ :: _ :: _ :: _ :: _ :: _ :: _ :: _ :: _ :: _ :: _ :: _ :: _ :: _ :: _ :: _ :: _ :: _ :: _ :: _ :: _ :: [])) rfl rfl ?_
            refine th_n ?_
            refine hK34 _ _ ?_
            clear hK34 K34
            refine wp_seq_k fun K35 hK35 => ?_
            refine wp_seq_k fun K36 hK36 => ?_
            refine wp_region_lit ?_  -- region 10 l11_cycles.go:16
            refine S_beg 107 rfl ?_
            refine S_val (Y_move rfl) ?_
            refine S_val (Y_move rfl) ?_
            refine S_val (Y_index Try.underlying55 sz4 rfl rfl (by first | assumption | omega)) ?_
            refine S_val (Y_load Try.underlying4 rfl rfl (by first | assumption | exact B1.at (by rfl) | exact cc2.at (by rfl))) ?_  -- l17
            refine S_nil (L' := (_ :: _ :: _ :: _ :: _ :: _ :: _ :: _ :: _ :: _ :: _ :: _ :: _ :: _ :: _ :: _ :: _ :: _ :: _ :: _ :: _ :: _ :: _ :: _ :: _ :: _ :: _ :: _ :: _ :: _ :: _ :: _ :: _ :: _ :: _ :: _ :: _ :: _ :: _ :: _ :: _ :: _ :: _ :: _ :: _ :: _ :: _ :: _ :: _ :: _ :: _ :: _ :: _ :: _ :: _ :: _ :: _ :: _ :: _ :: _ :: _ :: _ :: _ :: _ :: _ :: _ :: _ :: _ :: _ :: _ :: _ :: _ :: _ :: _ :: _ :: _ :: _ :: _ :: _ :: _ :: _ :: _ :: _ :: _ :: _ :: _ :: _ :: _ :: _ :: _ :: _ :: _ :: _ :: _ :: _ :: _ :: _ :: _ :: _ :: _ :: _ :: _ :: _ :: _ :: _ :: _ :: _ :: [])) rfl rfl ?_
            refine th_n ?_
            refine hK36 _ _ ?_
            clear hK36 K36
            refine S_if rfl (fun hb5 => ?_) (fun hb5 => ?_)  -- c10
            · -- c10T
              first | with_reducible (replace hb5 := nb_nt hb5) | with_reducible (replace hb5 := nb_nf hb5) | with_reducible (replace hb5 := nb_tt hb5) | with_reducible (replace hb5 := nb_tf hb5) | with_reducible (replace hb5 := nb_bt hb5) | with_reducible (replace hb5 := nb_bf hb5) | skip
              rw [hb4] at hb5; cases hb5
            · -- c10F
              first | with_reducible (replace hb5 := nb_nt hb5) | with_reducible (replace hb5 := nb_nf hb5) | with_reducible (replace hb5 := nb_tt hb5) | with_reducible (replace hb5 := nb_tf hb5) | with_reducible (replace hb5 := nb_bt hb5) | with_reducible (replace hb5 := nb_bf hb5) | skip
              refine wp_skip ?_
              refine th_n ?_
              refine hK35 _ _ ?_
              clear hK35 K35
              refine wp_region_lit ?_  -- region 25 l11_cycles.go:31
              refine S_beg 107 rfl ?_
              refine S_val (Y_move rfl) ?_
              refine S_val (Y_move rfl) ?_
              refine S_bs1 (cs := [_]) Try.underlying23 zr3 sz3 rfl rfl rfl ?_
              intro b11 w11 fb11 g11 B11
              have lb11 := B11.lt
              replace hA := hA.grow g11
              replace hB := hB.grow g11
              replace hC := hC.grow g11
              replace cc2 := cc2.grow g11
              replace O1 := O1.grow g11
              replace G := G.grow g11
              replace GL4 := GL4.grow g11
              replace B1 := B1.grow g11
              have zg11 := g11.size
              refine S_app Try.underlying23 zr3 sz3 by3 rfl rfl O1 rfl (Src.blk B11) (by simp [Value.oneCell']) (by omega) (Pr' := fun i => i = b2 ∨ wz ≤ i) (fun i hi => hi) (by omega) ?_
              intro A12 cap12 w12 X12 m12
              replace O1 := X12
              rw [ints_app] at O1
              clear X12
              replace G := G.above m12 (by intro i h; first | omega | (dsimp only at h; omega))
              replace GL4 := Mod.trans' GL4 m12 (fun _ h _ => h) (fun i h _ => by first | exact h | omega | (dsimp only at h ⊢; omega) | (subst h; rfl) | (subst h; exact ⟨by omega, rfl⟩))
              replace hA := hA0.grow G
              replace hB := hB0.grow G
              replace hC := hC0.grow G
              replace cc2 := cc20.grow G
              replace B1 := B1.mod m12 (by intro h; first | omega | (dsimp only at h; omega))
              have zm12 := m12.size
              refine S_val (Y_assign rfl) ?_
              refine S_nil (L' := (_ :: _ :: _ :: _ :: _ :: _ :: _ :: _ :: _ :: _ :: _ :: _ :: _ :: _ :: _ :: _ :: _ :: _ :: _ :: _ :: _ :: _ :: _ :: _ :: _ :: _ :: _ :: _ :: _ :: _ :: _ :: _ :: _ :: _ :: _ :: _ :: _ :: _ :: _ :: _ :: _ :: _ :: _ :: _ :: _ :: _ :: _ :: _ :: _ :: _ :: _ :: _ :: _ :: _ :: _ :: _ :: _ :: _ :: _ :: _ :: _ :: _ :: _ :: _ :: _ :: _ :: _ :: _ :: _ :: _ :: _ :: _ :: _ :: _ :: _ :: _ :: _ :: _ :: _ :: _ :: _ :: _ :: _ :: _ :: _ :: _ :: _ :: _ :: _ :: _ :: _ :: _ :: _ :: _ :: _ :: _ :: _ :: _ :: _ :: _ :: _ :: _ :: _ :: _ :: _ :: _ :: _ :: [])) rfl rfl ?_
              refine ib_n ?_
              refine th_n ?_
              refine hK11 _ _ ?_
              clear hK11 K11
              refine wp_region_lit ?_  -- region 6 l11_cycles.go:11
              refine S_beg 107 rfl ?_
              refine S_val (Y_move rfl) ?_
              refine S_val (Y_inc rfl rfl (by omega)) ?_
              refine S_val (Y_assign rfl) ?_
              refine S_nil (L' := (_ :: _ :: _ :: _ :: _ :: _ :: _ :: _ :: _ :: _ :: _ :: _ :: _ :: _ :: _ :: _ :: _ :: _ :: _ :: _ :: _ :: _ :: _ :: _ :: _ :: _ :: _ :: _ :: _ :: _ :: _ :: _ :: _ :: _ :: _ :: _ :: _ :: _ :: _ :: _ :: _ :: _ :: _ :: _ :: _ :: _ :: _ :: _ :: _ :: _ :: _ :: _ :: _ :: _ :: _ :: _ :: _ :: _ :: _ :: _ :: _ :: _ :: _ :: _ :: _ :: _ :: _ :: _ :: _ :: _ :: _ :: _ :: _ :: _ :: _ :: _ :: _ :: _ :: _ :: _ :: _ :: _ :: _ :: _ :: _ :: _ :: _ :: _ :: _ :: _ :: _ :: _ :: _ :: _ :: _ :: _ :: _ :: _ :: _ :: _ :: _ :: _ :: _ :: _ :: _ :: _ :: _ :: [])) rfl rfl ?_
              refine th_n ?_
              go_roundw  -- e8 of L1
              case rel =>
                refine ⟨?_, GL4⟩
                have hti : tri1 h bs k = -1 := by unfold tri1; rw [hib, hb4]; rfl
                exact ⟨k + 1, _, _, _, rfl, rfl, by omega, by rw [triL_len]; omega, by rw [triL_succ, hti]; exact O1, by rw [insU_succ, hiu, hib, hb4]; rfl⟩
              case measure =>
                exact dec_nat (by omega)
        · -- c2F
          first | with_reducible (replace hb3 := nb_nt hb3) | with_reducible (replace hb3 := nb_nf hb3) | with_reducible (replace hb3 := nb_tt hb3) | with_reducible (replace hb3 := nb_tf hb3) | with_reducible (replace hb3 := nb_bt hb3) | with_reducible (replace hb3 := nb_bf hb3) | skip
          refine wp_exit ?_
          refine th_x ?_
          clear GL4
          refine th_x ?_
          refine ib_e ?_
          refine th_n ?_
          refine hK7 _ _ ?_
          clear hK9 K9 hK7 K7
          refine wp_seq_k fun K37 hK37 => ?_
          refine wp_region_lit ?_  -- region 26 l11_cycles.go:33
          refine S_beg 107 rfl ?_
          refine S_val (Y_move rfl) ?_
          refine S_val (Y_assign rfl) ?_
          refine S_nil (L' := (_ :: _ :: _ :: _ :: _ :: _ :: _ :: _ :: _ :: _ :: _ :: _ :: _ :: _ :: _ :: _ :: _ :: _ :: _ :: _ :: _ :: _ :: _ :: _ :: _ :: _ :: _ :: _ :: _ :: _ :: _ :: _ :: _ :: _ :: _ :: _ :: _ :: _ :: _ :: _ :: _ :: _ :: _ :: _ :: _ :: _ :: _ :: _ :: _ :: _ :: _ :: _ :: _ :: _ :: _ :: _ :: _ :: _ :: _ :: _ :: _ :: _ :: _ :: _ :: _ :: _ :: _ :: _ :: _ :: _ :: _ :: _ :: _ :: _ :: _ :: _ :: _ :: _ :: _ :: _ :: _ :: _ :: _ :: _ :: _ :: _ :: _ :: _ :: _ :: _ :: _ :: _ :: _ :: _ :: _ :: _ :: _ :: _ :: _ :: _ :: _ :: _ :: _ :: _ :: _ :: _ :: _ :: [])) rfl rfl ?_
          refine th_n ?_
          refine hK37 _ _ ?_
          clear hK37 K37
          refine wp_ret ?_
          refine ret_r1 rfl rfl ?_  -- r4
          have hkN : k = h.cells.length := by omega
          rw [hkN] at hiu O1 hq1
          have hok := triOk_t hb1 hlen hiu
          exact ⟨_, _, _, rfl, by rw [triV_t hok]; exact hq1, by rw [triV_t hok]; exact O1.oi.weak (fun i hi => by omega), G⟩

end Go.Proofs.Ytdfifnplgbceaaa
