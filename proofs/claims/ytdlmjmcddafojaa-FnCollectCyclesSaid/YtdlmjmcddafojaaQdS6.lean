/-
  Walks through functions of the program and the reference, and the plain laws behind them: what one claim needs of them.
  Conditions: those that each theorem states.
-/
import Derived.ProofKit
import Derived.Deep.Slices
import Derived.Deep.Fields
import Derived.Deep.Grids
import Derived.ChangeSame
import Derived.Lib.SmallJoins
import Derived.Below
import Derived.Carry
import Derived.Test.YtdlmjmcddafojaaQdS5
set_option linter.unusedVariables false
set_option linter.unusedSimpArgs false
namespace Go.Proofs.Ytdlmjmcddafojaa
/-! WalkCn -/
section
open Go Go.RowKit
attribute [local irreducible] wpList wpAnyH Code.wp dOp
theorem countsV_rg {h : LH} : ∀ y ∈ countsV h, 0 ≤ y ∧ y ≤ 124 := by
  cases hv : validB h with
  | false => rw [countsV_f hv]; simp
  | true =>
    intro y hy
    rw [countsV_t hv] at hy
    unfold cntL at hy
    obtain ⟨i, _, rfl⟩ := List.mem_map.1 hy
    have h1 := refsAll_len (valid_iff.1 hv)
    have h2 := count_le (i : Int) (refsAll h fun _ => false)
    unfold noSk at h1
    omega
set_option maxHeartbeats 2000000 in
set_option maxRecDepth 20000 in
theorem spec_l10Free_c (Pr : Nat → Prop) (A B : Option Addr) (h : LH) (c d : Nat) (w : World) (hA : RC Pr w A h.cells) (hB : R1 Pr w B (ints h.roots)) (va : Valid h) :
    Calls Try.prog 84 #[.agg #[.slice A h.cells.length c, .slice B h.roots.length d]] w (Ret fun v w' => ∃ (A1 B1 C1 : Option Addr) (n1 c1 n2 c2 n3 c3 : Nat) (h2 : LH) (P1 P2 : Nat → Prop), v = .agg #[.slice A1 n1 c1, .slice B1 n2 c2, .slice C1 n3 c3] ∧ n1 = h2.cells.length ∧ n2 = h2.roots.length ∧ n3 = (countsV h2).length ∧ n3 ≤ c3 ∧ Valid h2 ∧ (∀ i : Nat, P1 i → w.heap.size ≤ i ∧ ¬ P2 i) ∧ (∀ i : Nat, P2 i → w.heap.size ≤ i) ∧ RC P1 w' A1 h2.cells ∧ R1 P1 w' B1 (ints h2.roots) ∧ OI P2 w' 3 C1 (ints (countsV h2)) ∧ Grow w w') := by
 have hz1 := hsize_cells h
 have hz2 := hsize_roots h
 have hne : (50 : TypeId) ≠ 3 := by decide
 have hsm := va.small
 refine enter Try.func84 rfl Try.ntmps84 (L := [_,_,_,_,_,_,_,_,_,_,_,_,_,_,_,_,_,_,_,_,_,_,_,_,_,_,_,_,_,_,_,_,_,_,_,_,_,_,_,_,_,_]) rfl ?_
 have G := Mod.refl No w
 have hA0 := hA
 have hB0 := hB
 refine wp_seq_k fun K1 hK1 => ?_
 refine Sb 42 rfl ?_
 refine S_box (cs := [_, _]) rfl rfl ?_
 intro b1 w1 fb1 g1 B1
 have lb1 := B1.lt
 replace hA := hA.grow g1
 replace hB := hB.grow g1
 replace G := G.grow g1
 have zg1 := g1.size
 refine S_alloc (cs := [_, _, _]) zr28 rfl ?_
 intro b2 w2 fb2 g2 B2
 have lb2 := B2.lt
 replace hA := hA.grow g2
 replace hB := hB.grow g2
 replace G := G.grow g2
 replace B1 := B1.grow g2
 have zg2 := g2.size
 refine S_nl rfl rfl ?_
 refine th_n (hK1 _ _ ?_)
 clear hK1 K1
 refine wp_seq_k fun K2 hK2 => ?_
 refine Sb 42 rfl ?_
 refine S_val (Y_loadS U26 rfl sz26 rfl (B1.row (by rfl))) ?_
 refine S_call rfl en25 (spec_l7Copy2_c _ _ _ h _ _ _ hA hB (by omega)) ?_
 rintro v3 w3 ⟨A3, B3, n13, c13, n23, c23, rs3, rfl, hn13, hn23, O3, g3⟩
 replace hA := hA.grow g3
 replace hB := hB.grow g3
 replace G := G.grow g3
 replace B1 := B1.grow g3
 replace B2 := B2.grow g3
 have zg3 := g3.size
 subst hn13
 subst hn23
 obtain ⟨AH, rfl⟩ : ∃ x, x = A3 := ⟨_, rfl⟩
 obtain ⟨BH, rfl⟩ : ∃ x, x = B3 := ⟨_, rfl⟩
 obtain ⟨cH, rfl⟩ : ∃ x, x = c13 := ⟨_, rfl⟩
 obtain ⟨dH, rfl⟩ : ∃ x, x = c23 := ⟨_, rfl⟩
 obtain ⟨rsH, rfl⟩ : ∃ x, x = rs3 := ⟨_, rfl⟩
 have OX := O3.lt
 refine S_alloc (cs := [_, _]) zr26 rfl ?_
 intro b4 w4 fb4 g4 B4
 have lb4 := B4.lt
 replace hA := hA.grow g4
 replace hB := hB.grow g4
 replace OX := OX.grow g4
 replace G := G.grow g4
 replace B1 := B1.grow g4
 replace B2 := B2.grow g4
 have zg4 := g4.size
 refine S_stM (pre := []) (old := [_, _]) (post := []) (vs := [_, _]) sz26 rfl rfl rfl (by first | rfl | assumption) B4 rfl rfl ?_
 intro w5 m5 X5
 replace B4 := Blk.eq (ys := [_, _]) X5 rfl
 clear X5
 replace G := G.abv m5
 replace hA := hA0.grow G
 replace hB := hB0.grow G
 replace OX := OX.md m5
 replace B1 := B1.md m5
 replace B2 := B2.md m5
 have zm5 := m5.size
 refine S_nl rfl rfl ?_
 refine th_n (hK2 _ _ ?_)
 clear hK2 K2
 refine wp_block ?_
 replace OX := OX.weak (Pr' := (fun i => b2 < i ∧ i ≠ b4)) (fun i hi => by first | omega | (dsimp only at hi ⊢; omega))
 go_loopw [4] (fun u4 wr => (∃ (csK : List LC) (rsK : List (Option Addr × Nat)), csK.length = h.cells.length ∧ Valid ⟨csK, h.roots⟩ ∧ XH (fun i => b2 < i ∧ i ≠ b4) wr 50 3 AH BH ⟨csK, h.roots⟩ rsK cH dH) ∧ Mod (fun i => b2 < i ∧ i ≠ b4) w5 wr) (fun u4 wr => usedW wr b4)
 case atStart =>
  refine ⟨?_, Mod.refl _ _⟩
  exact ⟨h.cells, rsH, rfl, va, OX⟩
 case round =>
  obtain ⟨w6, rfl⟩ : ∃ x : World, x = wr := ⟨_, rfl⟩
  obtain ⟨hrel, g6⟩ := hrel
  clear OX
  replace G := G.abv g6
  replace hA := hA0.grow G
  replace hB := hB0.grow G
  replace B1 := B1.md g6
  replace B2 := B2.md g6
  replace B4 := B4.md g6
  have zg6 := g6.size
  obtain ⟨csK, rsK, hlen, vK, OX⟩ := hrel
  have hu0 := usedW_eq (h := ⟨csK, h.roots⟩) (by show Blk _ _ _ (.slice AH csK.length cH :: _).toArray; rw [hlen]; exact B4) OX hne
  dsimp only at hu0
  replace OX := OX.lt
  obtain ⟨hiK, hhiK⟩ : ∃ x, x = w6.heap.size := ⟨_, rfl⟩
  have hRA := OX.rc
  have hRB := OX.r1
  have hsk := vK.small
  have GL6 := g6
  refine wp_block ?_
  refine wp_seq_k fun K3 hK3 => ?_
  refine Sb 42 rfl ?_
  refine S_val (Y_loadS U26 rfl sz26 rfl (B4.row (by rfl))) ?_
  refine S_call rfl en28 ((by have h0 := spec_l7Counts_c _ _ _ ⟨csK, h.roots⟩ cH dH _ hRA hRB (by omega) vK.leads; dsimp only at h0; rw [hlen] at h0; exact h0)) ?_
  rintro v7 w7 ⟨b7, rfl, fb7, B7, g7⟩
  replace hA := hA.grow g7
  replace hB := hB.grow g7
  replace OX := OX.grow g7
  replace hRA := hRA.grow g7
  replace hRB := hRB.grow g7
  replace G := G.grow g7
  replace GL6 := GL6.grow g7
  replace B1 := B1.grow g7
  replace B2 := B2.grow g7
  replace B4 := B4.grow g7
  have zg7 := g7.size
  have lb7 := B7.lt
  have hfb := fb7
  obtain ⟨bC, rfl⟩ : ∃ x, x = b7 := ⟨_, rfl⟩
  have BC := B7
  have hRC := R1.of_blkE BC
  refine Sas rfl ?_
  refine S_nl rfl rfl ?_
  refine th_n (hK3 _ _ ?_)
  clear hK3 K3
  refine wp_seq_k fun K4 hK4 => ?_
  refine Sb 42 rfl ?_
  refine Sas rfl ?_
  refine S_nl rfl rfl ?_
  refine th_n (hK4 _ _ ?_)
  clear hK4 K4
  refine wp_seq_k fun K5 hK5 => ?_
  refine wp_seq_k fun K6 hK6 => ?_
  refine Sb 42 rfl ?_
  refine Sas rfl ?_
  refine S_nl rfl rfl ?_
  refine th_n (hK6 _ _ ?_)
  clear hK6 K6
  refine wp_block ?_
  go_loopw [5, 6] (fun u5 u6 wr => (∃ (k : Nat) (a : Int), u6 = .int .i64 k ∧ u5 = .int .i64 a ∧ k ≤ h.cells.length ∧ (a = -1 ∨ ∃ j : Nat, a = (j : Int) ∧ j < h.cells.length ∧ usedAt csK j = true ∧ (refsAll ⟨csK, h.roots⟩ noSk).count (j : Int) = 0)) ∧ Mod No w7 wr) (fun u5 u6 wr => h.cells.length - (intOf u6).toNat)
  case atStart =>
   refine ⟨?_, Mod.refl _ _⟩
   exact ⟨0, -1, rfl, rfl, by omega, .inl rfl⟩
  case round =>
   obtain ⟨w8, rfl⟩ : ∃ x : World, x = wr := ⟨_, rfl⟩
   obtain ⟨hrel, g8⟩ := hrel
   replace hA := hA.grow g8
   replace hB := hB.grow g8
   replace OX := OX.grow g8
   replace hRA := hRA.grow g8
   replace hRB := hRB.grow g8
   replace hRC := hRC.grow g8
   replace G := G.grow g8
   replace GL6 := GL6.grow g8
   replace B1 := B1.grow g8
   replace B2 := B2.grow g8
   replace B4 := B4.grow g8
   replace BC := BC.grow g8
   have zg8 := g8.size
   obtain ⟨k, a, rfl, rfl, hk, ha⟩ := hrel
   have GL8 := g8
   refine wp_seq_k fun K7 hK7 => ?_
   refine wp_seq_k fun K8 hK8 => ?_
   refine Sb 42 rfl ?_
   refine Smv rfl ?_
   refine S_val (Y_field U26 rfl fz26_0 (by decide) rfl) ?_
   refine S_val (Y_load U23 rfl rfl (B4.at (by rfl))) ?_
   refine S_val (Y_len U23 rfl) ?_
   refine S_val (Y_lss rfl rfl) ?_
   refine S_nl rfl rfl ?_
   refine th_n (hK8 _ _ ?_)
   clear hK8 K8
   refine S_if rfl (fun hb1 => ?_) (fun hb1 => ?_)
   ·
    replace hb1 := nb_tt hb1
    have hk1 : k < h.cells.length := by omega
    obtain ⟨g2, o2, E2, d2, e2, hp2, cc2, _⟩ := hRA.cell (k := k) (by show k < csK.length; omega)
    obtain ⟨g3, o3, e3, hp3, hc3⟩ := hRC.int (k := k) (by rw [cntL_len]; exact hk1)
    cases e3
    rw [cntL_at] at hc3
    subst e2
    refine wp_skip ?_
    refine th_n (hK7 _ _ ?_)
    clear hK7 K7
    refine wp_seq_k fun K9 hK9 => ?_
    refine wp_block ?_
    refine wp_seq_k fun K10 hK10 => ?_
    refine Sb 42 rfl ?_
    refine S_val (Y_field U26 rfl fz26_0 (by decide) rfl) ?_
    refine S_val (Y_load U23 rfl rfl (B4.at (by rfl))) ?_
    refine Smv rfl ?_
    refine S_val (Y_index U23 sz50 rfl rfl (by first | assumption | omega)) ?_
    refine S_val (Y_field U50 rfl fz50_0 (by decide) rfl) ?_
    refine S_val (Y_load U4 rfl rfl (by first | assumption | exact cc2.at (by rfl) | exact B1.at (by rfl) | exact B2.at (by rfl) | exact B4.at (by rfl) | exact BC.at (by rfl))) ?_
    refine Smv rfl ?_
    refine S_g 24 rfl (fun hb2 => ?_) (fun hb2 => ?_)
    ·
     first | with_reducible (replace hb2 := nb_nt hb2) | with_reducible (replace hb2 := nb_tt hb2) | with_reducible (replace hb2 := nb_bt hb2) | skip
     refine S_on rfl rfl ?_
     refine Smv rfl ?_
     refine S_on rfl rfl ?_
     refine Smv rfl ?_
     refine S_on rfl rfl ?_
     refine S_val (Y_index U24 sz3 rfl rfl (by first | assumption | omega)) ?_
     refine S_on rfl rfl ?_
     refine S_val (Y_load U3 rfl rfl (by first | assumption | exact cc2.at (by rfl) | exact B1.at (by rfl) | exact B2.at (by rfl) | exact B4.at (by rfl) | exact BC.at (by rfl))) ?_
     refine S_on rfl rfl ?_
     refine S_val (Y_eql rfl rfl) ?_
     refine S_val (Y_pickT rfl rfl) ?_
     refine S_nl rfl rfl ?_
     refine th_n (hK10 _ _ ?_)
     clear hK10 K10
     refine S_if rfl (fun hb3 => ?_) (fun hb3 => ?_)
     ·
      first | with_reducible (replace hb3 := nb_nt hb3) | with_reducible (replace hb3 := nb_tt hb3) | with_reducible (replace hb3 := nb_bt hb3) | skip
      have hzc : (refsAll ⟨csK, h.roots⟩ noSk).count (k : Int) = 0 := by have h9 := hb3; unfold noSk; omega
      have huk : usedAt csK k = true := by rw [usedAt_at (by omega)]; assumption
      refine Sb 42 rfl ?_
      refine Smv rfl ?_
      refine Sas rfl ?_
      refine S_nl rfl rfl ?_
      refine ib_n ?_
      refine th_n (hK9 _ _ ?_)
      clear hK9 K9
      refine Sb 42 rfl ?_
      refine Smv rfl ?_
      refine S_val (Y_inc rfl rfl (by omega)) ?_
      refine Sas rfl ?_
      refine S_nl rfl rfl ?_
      refine th_n ?_
      go_roundw
      case rel =>
       refine ⟨?_, GL8⟩
       first | exact ⟨k + 1, (k : Int), rfl, rfl, by omega, .inr ⟨k, rfl, hk1, huk, hzc⟩⟩ | exact ⟨k + 1, a, rfl, rfl, by omega, ha⟩
      case measure =>
       exact dec_nat (by omega)
     first | with_reducible (replace hb3 := nb_nf hb3) | with_reducible (replace hb3 := nb_tf hb3) | with_reducible (replace hb3 := nb_bf hb3) | skip
     refine wp_skip ?_
     refine ib_n ?_
     refine th_n (hK9 _ _ ?_)
     clear hK9 K9
     refine Sb 42 rfl ?_
     refine Smv rfl ?_
     refine S_val (Y_inc rfl rfl (by omega)) ?_
     refine Sas rfl ?_
     refine S_nl rfl rfl ?_
     refine th_n ?_
     go_roundw
     case rel =>
      refine ⟨?_, GL8⟩
      first | exact ⟨k + 1, (k : Int), rfl, rfl, by omega, .inr ⟨k, rfl, hk1, huk, hzc⟩⟩ | exact ⟨k + 1, a, rfl, rfl, by omega, ha⟩
     case measure =>
      exact dec_nat (by omega)
    first | with_reducible (replace hb2 := nb_nf hb2) | with_reducible (replace hb2 := nb_tf hb2) | with_reducible (replace hb2 := nb_bf hb2) | skip
    refine S_off rfl rfl ?_
    refine S_off rfl rfl ?_
    refine S_off rfl rfl ?_
    refine S_off rfl rfl ?_
    refine S_off rfl rfl ?_
    refine S_val (Y_pickF rfl rfl) ?_
    refine S_nl rfl rfl ?_
    refine th_n (hK10 _ _ ?_)
    clear hK10 K10
    refine S_ifF rfl ?_
    refine wp_skip ?_
    refine ib_n ?_
    refine th_n (hK9 _ _ ?_)
    clear hK9 K9
    refine Sb 42 rfl ?_
    refine Smv rfl ?_
    refine S_val (Y_inc rfl rfl (by omega)) ?_
    refine Sas rfl ?_
    refine S_nl rfl rfl ?_
    refine th_n ?_
    go_roundw
    case rel =>
     refine ⟨?_, GL8⟩
     first | exact ⟨k + 1, (k : Int), rfl, rfl, by omega, .inr ⟨k, rfl, hk1, huk, hzc⟩⟩ | exact ⟨k + 1, a, rfl, rfl, by omega, ha⟩
    case measure =>
     exact dec_nat (by omega)
   replace hb1 := nb_tf hb1
   refine wp_exit ?_
   refine th_x ?_
   try clear GL8
   refine th_x ?_
   refine ib_e ?_
   refine th_n (hK5 _ _ ?_)
   clear hK7 K7 hK5 K5
   refine wp_seq_k fun K11 hK11 => ?_
   refine wp_seq_k fun K12 hK12 => ?_
   refine Sb 42 rfl ?_
   refine Smv rfl ?_
   refine S_val (Y_lss rfl rfl) ?_
   refine S_nl rfl rfl ?_
   refine th_n (hK12 _ _ ?_)
   clear hK12 K12
   refine S_if rfl (fun hb2 => ?_) (fun hb2 => ?_)
   ·
    replace hb2 := nb_tt hb2
    refine wp_seq_k fun K13 hK13 => ?_
    refine Sb 42 rfl ?_
    refine S_val (Y_loadS U26 rfl sz26 rfl (B4.row (by rfl))) ?_
    refine Smv rfl ?_
    refine S_val (Y_build (cs := [_, _, _]) zr28 pc28 rfl rfl) ?_
    refine S_stM (pre := []) (old := [_, _, _]) (post := []) (vs := [_, _, _]) sz28 rfl rfl rfl (by first | rfl | assumption) B2 rfl rfl ?_
    intro w9 m9 X9
    replace B2 := Blk.eq (ys := [_, _, _]) X9 rfl
    clear X9
    replace G := G.abv m9
    first | replace GL6 := GL6.abv m9 | try clear GL6
    replace hA := hA0.grow G
    replace hB := hB0.grow G
    replace OX := OX.md m9
    replace hRA := hRA.md m9
    replace hRB := hRB.md m9
    replace hRC := hRC.md m9
    replace B1 := B1.md m9
    replace B4 := B4.md m9
    replace BC := BC.md m9
    have zm9 := m9.size
    refine S_nl rfl rfl ?_
    refine th_n (hK13 _ _ ?_)
    clear hK13 K13
    refine wp_ret ?_
    refine th_r ?_
    refine ib_r ?_
    try clear GL6
    refine th_r ?_
    refine ib_r ?_
    clear hK11 K11
    refine ret_rc (cs := [_, _, _]) U28 rfl sz28 rfl rfl (B2.row (by rfl)) ?_
    have hcv : countsV ⟨csK, h.roots⟩ = cntL h.cells.length (refsAll ⟨csK, h.roots⟩ fun _ => false) := by rw [countsV_t (valid_iff.2 vK)]; dsimp only; rw [hlen]
    have hcl : (countsV ⟨csK, h.roots⟩).length = h.cells.length := by rw [hcv, cntL_len]
    exact ⟨_, _, _, _, _, _, _, _, _, ⟨csK, h.roots⟩, (fun i => (b2 < i ∧ i ≠ b4) ∧ i < hiK), (fun i => i = bC), rfl, hlen.symm, rfl, hcl.symm, Nat.le_refl _, vK, fun i hi => ⟨by have h9 := hi.1.1; omega, by have h9 := hi.2; omega⟩, fun i hi => by omega, hRA.weak (fun i hi => ⟨hi.1, by have h9 := hi.2; omega⟩), hRB.weak (fun i hi => ⟨hi.1, by have h9 := hi.2; omega⟩), by rw [hcv]; exact OI.of_blk' BC rfl, G⟩
   replace hb2 := nb_tf hb2
   obtain ⟨j, rfl, hj1, hju, hjc⟩ := ha.resolve_left (by omega)
   have hjl : j < csK.length := by omega
   obtain ⟨gC, RX, capX, eA, hpC, _, ccx, _, _⟩ := OX.cellAt hne (i := j) hjl
   subst eA
   try dsimp only at hpC
   refine wp_skip ?_
   refine th_n (hK11 _ _ ?_)
   clear hK11 K11
   refine Sb 42 rfl ?_
   refine S_val (Y_field U26 rfl fz26_0 (by decide) rfl) ?_
   refine S_val (Y_load U23 rfl rfl (B4.at (by rfl))) ?_
   refine Smv rfl ?_
   refine S_val (Y_build (cs := [_, _, _]) zr50 pc50 rfl rfl) ?_
   refine S_val (Y_index U23 sz50 rfl rfl (by first | assumption | omega)) ?_
   refine S_of (Ys_cell (z := emptyC) (R := none) (PR := No) sz50 OX hne (i := j) hjl (OI.nil _ _ _ _) (fun i hi => hi.elim) rfl rfl) ?_
   rintro w10 ⟨m10, hp10, OY⟩
   try dsimp only at hp10
   replace OY := OY.weak (Pr' := (fun i => b2 < i ∧ i ≠ b4)) (fun i hi => hi.elim (fun h9 => h9.1) (fun h9 => h9.elim))
   replace G := G.abv m10
   replace GL6 := GL6.trn m10
   replace hA := hA0.grow G
   replace hB := hB0.grow G
   replace hRC := hRC.md m10
   replace B1 := B1.md m10
   replace B2 := B2.md m10
   replace B4 := B4.md m10
   replace BC := BC.md m10
   have zm10 := m10.size
   replace OX := OY
   clear OY
   refine S_nl rfl rfl ?_
   refine ib_n ?_
   refine th_n ?_
   go_roundw
   case rel =>
    refine ⟨?_, GL6⟩
    exact ⟨csK.set j emptyC, _, by rw [List.length_set]; exact hlen, free_valid vK hjl hjc, OX⟩
   case measure =>
    have hu1 := usedW_eq (h := ⟨csK.set j emptyC, h.roots⟩) (by show Blk _ _ _ (.slice _ (csK.set j emptyC).length cH :: _).toArray; rw [List.length_set, hlen]; exact B4) OX hne
    dsimp only at hu1
    rw [hu0, hu1, List.length_set]
    exact free_used (by omega) hju
theorem RC.tight {P : Nat → Prop} {w : World} {A : Option Addr} {cs : List LC} {lo hi : Nat} (h : RC P w A cs) (hl : ∀ k, P k → lo ≤ k) (hh : hi = w.heap.size) : RC (fun k => P k ∧ lo ≤ k ∧ k < hi) w A cs := fun k c hc => by
  subst hh
  obtain ⟨g, o, B, d, hA, hp, h3, h4⟩ := h k c hc
  refine ⟨g, o, B, d, hA, ⟨hp, hl g hp, World.block_lt_of_cell? w _ (h3.at (j := 0) rfl)⟩, h3, fun i u hu => ?_⟩
  obtain ⟨g', o', e', hp', hc'⟩ := h4 i u hu
  exact ⟨g', o', e', ⟨hp', hl g' hp', World.block_lt_of_cell? w _ hc'⟩, hc'⟩
theorem R1.tight {P : Nat → Prop} {w : World} {A : Option Addr} {us : List Value} {lo hi : Nat} (h : R1 P w A us) (hl : ∀ k, P k → lo ≤ k) (hh : hi = w.heap.size) : R1 (fun k => P k ∧ lo ≤ k ∧ k < hi) w A us := fun k u hu => by
  subst hh
  obtain ⟨g, o, e, hp, hc⟩ := h k u hu
  exact ⟨g, o, e, ⟨hp, hl g hp, World.block_lt_of_cell? w _ hc⟩, hc⟩
theorem OI.tight {P : Nat → Prop} {w : World} {e : TypeId} {A : Option Addr} {us : List Value} {lo hi : Nat} (h : OI P w e A us) (hl : ∀ k, P k → lo ≤ k) (hh : hi = w.heap.size) : OI (fun k => P k ∧ lo ≤ k ∧ k < hi) w e A us := by
  subst hh
  exact h.lt.weak fun k hk => ⟨hk.1, hl k hk.1, hk.2⟩
set_option maxHeartbeats 2000000 in
set_option maxRecDepth 20000 in
theorem spec_StepCounted_c (P0 : Nat → Prop) (A B C : Option Addr) (h : LH) (c d e : Nat) (oop oa ob oc : Int) (w : World) (hA : RC P0 w A h.cells) (hB : R1 P0 w B (ints h.roots)) (hC : R1 P0 w C (ints (countsV h))) (va : Valid h) (hcv : cvP ⟨oop, oa, ob, oc⟩) :
    Calls Try.prog 74 #[.agg #[.slice A h.cells.length c, .slice B h.roots.length d, .slice C (countsV h).length e], .agg #[.int .i64 oop, .int .i64 oa, .int .i64 ob, .int .i64 oc]] w (Ret fun v w' => ∃ (A1 B1 C1 : Option Addr) (n1 c1 n2 c2 n3 c3 : Nat) (h2 : LH) (P1 P2 : Nat → Prop) (ok : Bool), v = .tuple #[.agg #[.slice A1 n1 c1, .slice B1 n2 c2, .slice C1 n3 c3], .bool ok] ∧ n1 = h2.cells.length ∧ n2 = h2.roots.length ∧ n3 = (countsV h2).length ∧ n3 ≤ c3 ∧ Valid h2 ∧ (∀ i : Nat, P1 i → w.heap.size ≤ i ∧ ¬ P2 i) ∧ (∀ i : Nat, P2 i → w.heap.size ≤ i) ∧ RC P1 w' A1 h2.cells ∧ R1 P1 w' B1 (ints h2.roots) ∧ OI P2 w' 3 C1 (ints (countsV h2)) ∧ Grow w w') := by
 have hz1 := hsize_cells h
 have hz2 := hsize_roots h
 have hne : (50 : TypeId) ≠ 3 := by decide
 have hsm := va.small
 have h40 := va.le
 have hcl := countsV_len h
 have hv9 := valid_iff.2 va
 have hcb : cvalB h (countsV h) = true := by rw [cvalB_t hv9]; exact decide_eq_true rfl
 have hpl0 := place_le h.cells
 refine enter Try.func74 rfl Try.ntmps74 (L := [_,_,_,_,_,_,_,_,_,_,_,_,_,_,_,_,_,_,_,_,_,_,_,_,_,_,_,_,_,_,_,_,_,_,_,_,_,_,_,_,_,_,_,_,_,_,_]) rfl ?_
 have G := Mod.refl No w
 have hA0 := hA
 have hB0 := hB
 have hC0 := hC
 refine wp_seq_k fun K1 hK1 => ?_
 refine Sb 47 rfl ?_
 refine S_box (cs := [_, _, _]) rfl rfl ?_
 intro b1 w1 fb1 g1 B1
 have lb1 := B1.lt
 replace hA := hA.grow g1
 replace hB := hB.grow g1
 replace hC := hC.grow g1
 replace G := G.grow g1
 have zg1 := g1.size
 refine S_box (cs := [_, _, _, _]) rfl rfl ?_
 intro b2 w2 fb2 g2 B2
 have lb2 := B2.lt
 replace hA := hA.grow g2
 replace hB := hB.grow g2
 replace hC := hC.grow g2
 replace G := G.grow g2
 replace B1 := B1.grow g2
 have zg2 := g2.size
 refine S_alloc (cs := [_, _, _]) zr28 rfl ?_
 intro b3 w3 fb3 g3 B3
 have lb3 := B3.lt
 replace hA := hA.grow g3
 replace hB := hB.grow g3
 replace hC := hC.grow g3
 replace G := G.grow g3
 replace B1 := B1.grow g3
 replace B2 := B2.grow g3
 have zg3 := g3.size
 refine Sas rfl ?_
 refine S_nl rfl rfl ?_
 refine th_n (hK1 _ _ ?_)
 clear hK1 K1
 refine wp_seq_k fun K2 hK2 => ?_
 refine wp_seq_k fun K3 hK3 => ?_
 refine Sb 47 rfl ?_
 refine S_val (Y_loadS U28 rfl sz28 rfl (B1.row (by rfl))) ?_
 refine S_call rfl en24 (spec_CountedValid_c _ _ _ _ h (countsV h) _ _ _ _ hA hB hC (by omega) (by omega)) ?_
 rintro v4 w4 ⟨rfl, g4⟩
 replace hA := hA.grow g4
 replace hB := hB.grow g4
 replace hC := hC.grow g4
 replace G := G.grow g4
 replace B1 := B1.grow g4
 replace B2 := B2.grow g4
 replace B3 := B3.grow g4
 have zg4 := g4.size
 refine S_val (Y_not rfl) ?_
 refine Smv rfl ?_
 refine S_g 10 rfl (fun hb1 => ?_) (fun hb1 => ?_)
 ·
  first | with_reducible (replace hb1 := nb_nt hb1) | with_reducible (replace hb1 := nb_tt hb1) | with_reducible (replace hb1 := nb_bt hb1) | skip
  rw [hcb] at hb1; cases hb1
 first | with_reducible (replace hb1 := nb_nf hb1) | with_reducible (replace hb1 := nb_tf hb1) | with_reducible (replace hb1 := nb_bf hb1) | skip
 refine S_on rfl rfl ?_
 refine S_val (Y_loadS U104 rfl sz104 rfl (B2.row (by rfl))) ?_
 refine S_on rfl rfl ?_
 refine S_call rfl en81 (spec_CommandValid_c _ _ _ _ _) ?_
 rintro v5 w5 ⟨rfl, g5⟩
 replace hA := hA.grow g5
 replace hB := hB.grow g5
 replace hC := hC.grow g5
 replace G := G.grow g5
 replace B1 := B1.grow g5
 replace B2 := B2.grow g5
 replace B3 := B3.grow g5
 have zg5 := g5.size
 refine S_on rfl rfl ?_
 refine S_val (Y_not rfl) ?_
 refine S_val (Y_pickF rfl rfl) ?_
 refine S_nl rfl rfl ?_
 refine th_n (hK3 _ _ ?_)
 clear hK3 K3
 refine S_if rfl (fun hb2 => ?_) (fun hb2 => ?_)
 ·
  first | with_reducible (replace hb2 := nb_nt hb2) | with_reducible (replace hb2 := nb_tt hb2) | with_reducible (replace hb2 := nb_bt hb2) | skip
  simp [cvB, hcv] at hb2
 first | with_reducible (replace hb2 := nb_nf hb2) | with_reducible (replace hb2 := nb_tf hb2) | with_reducible (replace hb2 := nb_bf hb2) | skip
 refine wp_skip ?_
 refine th_n (hK2 _ _ ?_)
 clear hK2 K2
 refine wp_seq_k fun K4 hK4 => ?_
 refine Sb 47 rfl ?_
 refine S_val (Y_field U28 rfl fz28_0 (by decide) rfl) ?_
 refine S_val (Y_loadS U26 rfl sz26 rfl (CellsAt.of_blk (pre := []) (us := [_, _]) (post := [_]) B1 rfl)) ?_
 refine S_call rfl en82 (spec_l10Place_c _ _ _ _ _ _ _ (by assumption) (by omega)) ?_
 rintro v6 w6 ⟨rfl, g6⟩
 replace hA := hA.grow g6
 replace hB := hB.grow g6
 replace hC := hC.grow g6
 replace G := G.grow g6
 replace B1 := B1.grow g6
 replace B2 := B2.grow g6
 replace B3 := B3.grow g6
 have zg6 := g6.size
 refine Sas rfl ?_
 refine S_nl rfl rfl ?_
 refine th_n (hK4 _ _ ?_)
 clear hK4 K4
 refine wp_seq_k fun K5 hK5 => ?_
 refine wp_seq_k fun K6 hK6 => ?_
 refine Sb 47 rfl ?_
 refine S_val (Y_field U28 rfl fz28_0 (by decide) rfl) ?_
 refine S_val (Y_loadS U26 rfl sz26 rfl (CellsAt.of_blk (pre := []) (us := [_, _]) (post := [_]) B1 rfl)) ?_
 refine S_val (Y_loadS U104 rfl sz104 rfl (B2.row (by rfl))) ?_
 refine S_call rfl en83 (spec_CommandPossible_c _ _ _ h _ _ oop oa ob oc _ hA hB (by omega)) ?_
 rintro v7 w7 ⟨rfl, g7⟩
 replace hA := hA.grow g7
 replace hB := hB.grow g7
 replace hC := hC.grow g7
 replace G := G.grow g7
 replace B1 := B1.grow g7
 replace B2 := B2.grow g7
 replace B3 := B3.grow g7
 have zg7 := g7.size
 refine S_val (Y_not rfl) ?_
 refine Smv rfl ?_
 refine S_g 24 rfl (fun hb3 => ?_) (fun hb3 => ?_)
 ·
  first | with_reducible (replace hb3 := nb_nt hb3) | with_reducible (replace hb3 := nb_tt hb3) | with_reducible (replace hb3 := nb_bt hb3) | skip
  refine S_off rfl rfl ?_
  refine S_off rfl rfl ?_
  refine S_off rfl rfl ?_
  refine S_off rfl rfl ?_
  refine S_offU rfl rfl ?_
  refine S_offU rfl rfl ?_
  refine S_off rfl rfl ?_
  refine S_val (Y_pickT rfl rfl) ?_
  refine S_nl rfl rfl ?_
  refine th_n (hK6 _ _ ?_)
  clear hK6 K6
  refine S_ifT rfl ?_
  refine wp_seq_k fun K7 hK7 => ?_
  refine D_start 10 47 (fun w => Mod (fun i => i = b3) w) follows rfl rfl ?_
  intro w8 g8
  replace hA := hA.grow g8
  replace hB := hB.grow g8
  replace hC := hC.grow g8
  replace G := G.grow g8
  replace B1 := B1.grow g8
  replace B2 := B2.grow g8
  replace B3 := B3.grow g8
  have zg8 := g8.size
  have GS8 := Mod.refl (fun i => i = b3) w8
  refine Dq (i := 0) rfl GS8 (fun _ _ => Y_field U28 rfl fz28_0 (by decide) rfl) ?_
  refine Dq (i := 1) rfl GS8 (fun _ hs => Y_loadS U26 rfl sz26 rfl (by first | exact CellsAt.mod ((CellsAt.of_blk (pre := []) (us := [_, _]) (post := [_]) B1 rfl)) hs (by intro h; first | omega | (dsimp only at h; omega)))) ?_
  refine Dq (i := 4) rfl GS8 (fun _ _ => Y_field U28 rfl fz28_1 (by decide) rfl) ?_
  refine Dq (i := 5) rfl GS8 (fun _ hs => Y_load U24 rfl rfl (by first | exact hs.cel (B1.at (by rfl)))) ?_
  refine D_2 (i := 2) (j := 3) (by kernel_rfl) ?_ ?_
  ·
   refine E_call rfl rfl en25 (spec_l7Copy2_c _ _ _ h _ _ _ hA hB (by omega)) ?_
   rintro v9 w9 ⟨A9, B9, n19, c19, n29, c29, rs9, rfl, hn19, hn29, O9, g9⟩
   replace hA := hA.grow g9
   replace hB := hB.grow g9
   replace hC := hC.grow g9
   replace G := G.grow g9
   replace GS8 := GS8.grow g9
   replace B1 := B1.grow g9
   replace B2 := B2.grow g9
   replace B3 := B3.grow g9
   have zg9 := g9.size
   subst hn19
   subst hn29
   obtain ⟨AH, rfl⟩ : ∃ x, x = A9 := ⟨_, rfl⟩
   obtain ⟨BH, rfl⟩ : ∃ x, x = B9 := ⟨_, rfl⟩
   obtain ⟨cH, rfl⟩ : ∃ x, x = c19 := ⟨_, rfl⟩
   obtain ⟨dH, rfl⟩ : ∃ x, x = c29 := ⟨_, rfl⟩
   obtain ⟨rsH, rfl⟩ : ∃ x, x = rs9 := ⟨_, rfl⟩
   obtain ⟨loX, hloX⟩ : ∃ x, x = w8.heap.size := ⟨_, rfl⟩
   obtain ⟨hiX, hhiX⟩ : ∃ x, x = w9.heap.size := ⟨_, rfl⟩
   have OX := (O9.lt).weak (Pr' := fun i => loX ≤ i ∧ i < hiX) (fun i hi => by first | omega | (dsimp only at hi ⊢; omega))
   refine ⟨GS8, ?_⟩
   refine D_1 (i := 3) (by kernel_rfl) ?_
   refine E_bs0 (i := 3) rfl U24 sz3 ?_
   intro b10 w10 fb10 g10 B10
   refine ⟨GS8.grow g10, ?_⟩
   have lb10 := B10.lt
   replace hA := hA.grow g10
   replace hB := hB.grow g10
   replace hC := hC.grow g10
   replace OX := OX.grow g10
   replace G := G.grow g10
   replace GS8 := GS8.grow g10
   replace B1 := B1.grow g10
   replace B2 := B2.grow g10
   replace B3 := B3.grow g10
   have zg10 := g10.size
   refine D_1 (i := 6) (by kernel_rfl) ?_
   obtain ⟨loZ, hloZ⟩ : ∃ x, x = w10.heap.size := ⟨_, rfl⟩
   have OY : OW (fun i => i = b10) w10 3 1 (some ⟨b10, 0, none⟩) 0 0 [] := OW.of_blk B10 rfl (by decide) rfl
   refine E_app0 (i := 6) rfl (news := ints (countsV h)) U24 zr3 sz3 by3 rfl rfl OY (by rw [ints_len]; omega) (by have hsr := Src.r1 hC; rw [ints_len] at hsr; exact hsr) ints_one (by omega) (Pr' := fun i => i = b10 ∨ loZ ≤ i) (fun i hi => .inl hi) (by first | omega | (dsimp only; omega)) ?_
   intro A11 cap11 w11 X11 m11
   replace OY := X11
   clear X11
   replace G := G.abv m11
   replace GS8 := GS8.abv m11
   replace hA := hA0.grow G
   replace hB := hB0.grow G
   replace hC := hC0.grow G
   replace OX := OX.md m11
   replace B1 := B1.md m11
   replace B2 := B2.md m11
   replace B3 := B3.md m11
   have zm11 := m11.size
   refine ⟨GS8, ?_⟩
   obtain ⟨AY, rfl⟩ : ∃ x, x = A11 := ⟨_, rfl⟩
   obtain ⟨capY, rfl⟩ : ∃ x, x = cap11 := ⟨_, rfl⟩
   have hcY := OY.cap
   refine Dq (i := 7) rfl GS8 (fun _ _ => Y_build (cs := [_, _, _]) zr28 pc28 rfl rfl) ?_
   refine D_1 (i := 8) (by kernel_rfl) ?_
   refine E_stM (pre := []) (old := [_, _, _]) (post := []) (vs := [_, _, _]) (i := 8) rfl sz28 rfl rfl rfl (by first | rfl | assumption) B3 rfl rfl ?_
   intro w12 m12 X12
   replace B3 := Blk.eq (ys := [_, _, _]) X12 rfl
   clear X12
   replace G := G.abv m12
   replace GS8 := GS8.trn m12
   replace hA := hA0.grow G
   replace hB := hB0.grow G
   replace hC := hC0.grow G
   replace OX := OX.md m12
   replace OY := OY.md m12
   replace B1 := B1.md m12
   replace B2 := B2.md m12
   have zm12 := m12.size
   refine ⟨GS8, ?_⟩
   refine Dq (i := 9) rfl GS8 (fun _ _ => Y_assign rfl) ?_
   refine D_en (by kernel_rfl) rfl rfl ?_
   refine th_n (hK7 _ _ ?_)
   clear hK7 K7
   refine wp_ret ?_
   refine th_r ?_
   clear hK5 K5
   refine ret_rct (cs := [_, _, _]) U28 rfl sz28 rfl rfl rfl (B3.row (by rfl)) ?_
   first | exact ⟨_, _, _, _, _, _, _, _, _, h, (fun i => loX ≤ i ∧ i < hiX), (fun i => i = b10 ∨ loZ ≤ i), _, rfl, rfl, rfl, rfl, hcY, va, fun i hi => ⟨by omega, by omega⟩, fun i hi => by omega, OX.rc, OX.r1, OY.oi, G⟩ | exact ⟨_, _, _, _, _, _, _, _, _, hF, (fun k => PF1 k ∧ loF ≤ k ∧ k < hiF), (fun k => PF2 k ∧ loF ≤ k ∧ k < hiF), _, rfl, rfl, rfl, rfl, hncF, hvF, fun i hi => ⟨by have h9 := hi.2.1; omega, fun h9 => (hpqF i hi.1).2 h9.1⟩, fun i hi => by have h9 := hi.2.1; omega, hFA, hFB, hFC, G⟩
  refine E_bs0 (i := 3) rfl U24 sz3 ?_
  intro b13 w13 fb13 g13 B13
  refine ⟨GS8.grow g13, ?_⟩
  have lb13 := B13.lt
  replace hA := hA.grow g13
  replace hB := hB.grow g13
  replace hC := hC.grow g13
  replace G := G.grow g13
  replace GS8 := GS8.grow g13
  replace B1 := B1.grow g13
  replace B2 := B2.grow g13
  replace B3 := B3.grow g13
  have zg13 := g13.size
  refine D_1 (i := 2) (by kernel_rfl) ?_
  refine E_call rfl rfl en25 (spec_l7Copy2_c _ _ _ h _ _ _ hA hB (by omega)) ?_
  rintro v14 w14 ⟨A14, B14, n114, c114, n214, c214, rs14, rfl, hn114, hn214, O14, g14⟩
  replace hA := hA.grow g14
  replace hB := hB.grow g14
  replace hC := hC.grow g14
  replace G := G.grow g14
  replace GS8 := GS8.grow g14
  replace B1 := B1.grow g14
  replace B2 := B2.grow g14
  replace B3 := B3.grow g14
  replace B13 := B13.grow g14
  have zg14 := g14.size
  subst hn114
  subst hn214
  obtain ⟨AH, rfl⟩ : ∃ x, x = A14 := ⟨_, rfl⟩
  obtain ⟨BH, rfl⟩ : ∃ x, x = B14 := ⟨_, rfl⟩
  obtain ⟨cH, rfl⟩ : ∃ x, x = c114 := ⟨_, rfl⟩
  obtain ⟨dH, rfl⟩ : ∃ x, x = c214 := ⟨_, rfl⟩
  obtain ⟨rsH, rfl⟩ : ∃ x, x = rs14 := ⟨_, rfl⟩
  obtain ⟨loX, hloX⟩ : ∃ x, x = w13.heap.size := ⟨_, rfl⟩
  obtain ⟨hiX, hhiX⟩ : ∃ x, x = w14.heap.size := ⟨_, rfl⟩
  have OX := (O14.lt).weak (Pr' := fun i => loX ≤ i ∧ i < hiX) (fun i hi => by first | omega | (dsimp only at hi ⊢; omega))
  refine ⟨GS8, ?_⟩
  refine D_1 (i := 6) (by kernel_rfl) ?_
  obtain ⟨loZ, hloZ⟩ : ∃ x, x = w14.heap.size := ⟨_, rfl⟩
  have OY : OW (fun i => i = b13) w14 3 1 (some ⟨b13, 0, none⟩) 0 0 [] := OW.of_blk B13 rfl (by decide) rfl
  refine E_app0 (i := 6) rfl (news := ints (countsV h)) U24 zr3 sz3 by3 rfl rfl OY (by rw [ints_len]; omega) (by have hsr := Src.r1 hC; rw [ints_len] at hsr; exact hsr) ints_one (by omega) (Pr' := fun i => i = b13 ∨ loZ ≤ i) (fun i hi => .inl hi) (by first | omega | (dsimp only; omega)) ?_
  intro A15 cap15 w15 X15 m15
  replace OY := X15
  clear X15
  replace G := G.abv m15
  replace GS8 := GS8.abv m15
  replace hA := hA0.grow G
  replace hB := hB0.grow G
  replace hC := hC0.grow G
  replace OX := OX.md m15
  replace B1 := B1.md m15
  replace B2 := B2.md m15
  replace B3 := B3.md m15
  have zm15 := m15.size
  refine ⟨GS8, ?_⟩
  obtain ⟨AY, rfl⟩ : ∃ x, x = A15 := ⟨_, rfl⟩
  obtain ⟨capY, rfl⟩ : ∃ x, x = cap15 := ⟨_, rfl⟩
  have hcY := OY.cap
  refine Dq (i := 7) rfl GS8 (fun _ _ => Y_build (cs := [_, _, _]) zr28 pc28 rfl rfl) ?_
  refine D_1 (i := 8) (by kernel_rfl) ?_
  refine E_stM (pre := []) (old := [_, _, _]) (post := []) (vs := [_, _, _]) (i := 8) rfl sz28 rfl rfl rfl (by first | rfl | assumption) B3 rfl rfl ?_
  intro w16 m16 X16
  replace B3 := Blk.eq (ys := [_, _, _]) X16 rfl
  clear X16
  replace G := G.abv m16
  replace GS8 := GS8.trn m16
  replace hA := hA0.grow G
  replace hB := hB0.grow G
  replace hC := hC0.grow G
  replace OX := OX.md m16
  replace OY := OY.md m16
  replace B1 := B1.md m16
  replace B2 := B2.md m16
  have zm16 := m16.size
  refine ⟨GS8, ?_⟩
  refine Dq (i := 9) rfl GS8 (fun _ _ => Y_assign rfl) ?_
  refine D_en (by kernel_rfl) rfl rfl ?_
  refine th_n (hK7 _ _ ?_)
  clear hK7 K7
  refine wp_ret ?_
  refine th_r ?_
  clear hK5 K5
  refine ret_rct (cs := [_, _, _]) U28 rfl sz28 rfl rfl rfl (B3.row (by rfl)) ?_
  first | exact ⟨_, _, _, _, _, _, _, _, _, h, (fun i => loX ≤ i ∧ i < hiX), (fun i => i = b13 ∨ loZ ≤ i), _, rfl, rfl, rfl, rfl, hcY, va, fun i hi => ⟨by omega, by omega⟩, fun i hi => by omega, OX.rc, OX.r1, OY.oi, G⟩ | exact ⟨_, _, _, _, _, _, _, _, _, hF, (fun k => PF1 k ∧ loF ≤ k ∧ k < hiF), (fun k => PF2 k ∧ loF ≤ k ∧ k < hiF), _, rfl, rfl, rfl, rfl, hncF, hvF, fun i hi => ⟨by have h9 := hi.2.1; omega, fun h9 => (hpqF i hi.1).2 h9.1⟩, fun i hi => by have h9 := hi.2.1; omega, hFA, hFB, hFC, G⟩
 first | with_reducible (replace hb3 := nb_nf hb3) | with_reducible (replace hb3 := nb_tf hb3) | with_reducible (replace hb3 := nb_bf hb3) | skip
 have hef : effectB h ⟨oop, oa, ob, oc⟩ = true := by rw [possB_t hv9 (by simp [cvB, hcv])] at hb3; exact hb3
 refine S_on rfl rfl ?_
 refine S_val (Y_field U104 rfl fz104_0 (by decide) rfl) ?_
 refine S_on rfl rfl ?_
 refine S_val (Y_load U3 rfl rfl (B2.at (by rfl))) ?_
 refine S_on rfl rfl ?_
 refine S_val (Y_eql rfl rfl) ?_
 refine S_on rfl rfl ?_
 refine Smv rfl ?_
 refine S_g 28 rfl (fun hb4 => ?_) (fun hb4 => ?_)
 ·
  replace hb4 := nb_tt hb4
  refine S_on rfl rfl ?_
  refine Smv rfl ?_
  refine S_on rfl rfl ?_
  refine S_val (Y_eql rfl rfl) ?_
  refine S_on rfl rfl ?_
  refine S_val (Y_pickT rfl rfl) ?_
  refine S_val (Y_pickF rfl rfl) ?_
  refine S_nl rfl rfl ?_
  refine th_n (hK6 _ _ ?_)
  clear hK6 K6
  refine S_if rfl (fun hb5 => ?_) (fun hb5 => ?_)
  ·
   first | with_reducible (replace hb5 := nb_nt hb5) | with_reducible (replace hb5 := nb_tt hb5) | with_reducible (replace hb5 := nb_bt hb5) | skip
   refine wp_seq_k fun K8 hK8 => ?_
   refine D_start 10 47 (fun w => Mod (fun i => i = b3) w) follows rfl rfl ?_
   intro w17 g17
   replace hA := hA.grow g17
   replace hB := hB.grow g17
   replace hC := hC.grow g17
   replace G := G.grow g17
   replace B1 := B1.grow g17
   replace B2 := B2.grow g17
   replace B3 := B3.grow g17
   have zg17 := g17.size
   have GS17 := Mod.refl (fun i => i = b3) w17
   refine Dq (i := 0) rfl GS17 (fun _ _ => Y_field U28 rfl fz28_0 (by decide) rfl) ?_
   refine Dq (i := 1) rfl GS17 (fun _ hs => Y_loadS U26 rfl sz26 rfl (by first | exact CellsAt.mod ((CellsAt.of_blk (pre := []) (us := [_, _]) (post := [_]) B1 rfl)) hs (by intro h; first | omega | (dsimp only at h; omega)))) ?_
   refine Dq (i := 4) rfl GS17 (fun _ _ => Y_field U28 rfl fz28_1 (by decide) rfl) ?_
   refine Dq (i := 5) rfl GS17 (fun _ hs => Y_load U24 rfl rfl (by first | exact hs.cel (B1.at (by rfl)))) ?_
   refine D_2 (i := 2) (j := 3) (by kernel_rfl) ?_ ?_
   ·
    refine E_call rfl rfl en25 (spec_l7Copy2_c _ _ _ h _ _ _ hA hB (by omega)) ?_
    rintro v18 w18 ⟨A18, B18, n118, c118, n218, c218, rs18, rfl, hn118, hn218, O18, g18⟩
    replace hA := hA.grow g18
    replace hB := hB.grow g18
    replace hC := hC.grow g18
    replace G := G.grow g18
    replace GS17 := GS17.grow g18
    replace B1 := B1.grow g18
    replace B2 := B2.grow g18
    replace B3 := B3.grow g18
    have zg18 := g18.size
    subst hn118
    subst hn218
    obtain ⟨AH, rfl⟩ : ∃ x, x = A18 := ⟨_, rfl⟩
    obtain ⟨BH, rfl⟩ : ∃ x, x = B18 := ⟨_, rfl⟩
    obtain ⟨cH, rfl⟩ : ∃ x, x = c118 := ⟨_, rfl⟩
    obtain ⟨dH, rfl⟩ : ∃ x, x = c218 := ⟨_, rfl⟩
    obtain ⟨rsH, rfl⟩ : ∃ x, x = rs18 := ⟨_, rfl⟩
    obtain ⟨loX, hloX⟩ : ∃ x, x = w17.heap.size := ⟨_, rfl⟩
    obtain ⟨hiX, hhiX⟩ : ∃ x, x = w18.heap.size := ⟨_, rfl⟩
    have OX := (O18.lt).weak (Pr' := fun i => loX ≤ i ∧ i < hiX) (fun i hi => by first | omega | (dsimp only at hi ⊢; omega))
    refine ⟨GS17, ?_⟩
    refine D_1 (i := 3) (by kernel_rfl) ?_
    refine E_bs0 (i := 3) rfl U24 sz3 ?_
    intro b19 w19 fb19 g19 B19
    refine ⟨GS17.grow g19, ?_⟩
    have lb19 := B19.lt
    replace hA := hA.grow g19
    replace hB := hB.grow g19
    replace hC := hC.grow g19
    replace OX := OX.grow g19
    replace G := G.grow g19
    replace GS17 := GS17.grow g19
    replace B1 := B1.grow g19
    replace B2 := B2.grow g19
    replace B3 := B3.grow g19
    have zg19 := g19.size
    refine D_1 (i := 6) (by kernel_rfl) ?_
    obtain ⟨loZ, hloZ⟩ : ∃ x, x = w19.heap.size := ⟨_, rfl⟩
    have OY : OW (fun i => i = b19) w19 3 1 (some ⟨b19, 0, none⟩) 0 0 [] := OW.of_blk B19 rfl (by decide) rfl
    refine E_app0 (i := 6) rfl (news := ints (countsV h)) U24 zr3 sz3 by3 rfl rfl OY (by rw [ints_len]; omega) (by have hsr := Src.r1 hC; rw [ints_len] at hsr; exact hsr) ints_one (by omega) (Pr' := fun i => i = b19 ∨ loZ ≤ i) (fun i hi => .inl hi) (by first | omega | (dsimp only; omega)) ?_
    intro A20 cap20 w20 X20 m20
    replace OY := X20
    clear X20
    replace G := G.abv m20
    replace GS17 := GS17.abv m20
    replace hA := hA0.grow G
    replace hB := hB0.grow G
    replace hC := hC0.grow G
    replace OX := OX.md m20
    replace B1 := B1.md m20
    replace B2 := B2.md m20
    replace B3 := B3.md m20
    have zm20 := m20.size
    refine ⟨GS17, ?_⟩
    obtain ⟨AY, rfl⟩ : ∃ x, x = A20 := ⟨_, rfl⟩
    obtain ⟨capY, rfl⟩ : ∃ x, x = cap20 := ⟨_, rfl⟩
    have hcY := OY.cap
    refine Dq (i := 7) rfl GS17 (fun _ _ => Y_build (cs := [_, _, _]) zr28 pc28 rfl rfl) ?_
    refine D_1 (i := 8) (by kernel_rfl) ?_
    refine E_stM (pre := []) (old := [_, _, _]) (post := []) (vs := [_, _, _]) (i := 8) rfl sz28 rfl rfl rfl (by first | rfl | assumption) B3 rfl rfl ?_
    intro w21 m21 X21
    replace B3 := Blk.eq (ys := [_, _, _]) X21 rfl
    clear X21
    replace G := G.abv m21
    replace GS17 := GS17.trn m21
    replace hA := hA0.grow G
    replace hB := hB0.grow G
    replace hC := hC0.grow G
    replace OX := OX.md m21
    replace OY := OY.md m21
    replace B1 := B1.md m21
    replace B2 := B2.md m21
    have zm21 := m21.size
    refine ⟨GS17, ?_⟩
    refine Dq (i := 9) rfl GS17 (fun _ _ => Y_assign rfl) ?_
    refine D_en (by kernel_rfl) rfl rfl ?_
    refine th_n (hK8 _ _ ?_)
    clear hK8 K8
    refine wp_ret ?_
    refine th_r ?_
    clear hK5 K5
    refine ret_rct (cs := [_, _, _]) U28 rfl sz28 rfl rfl rfl (B3.row (by rfl)) ?_
    first | exact ⟨_, _, _, _, _, _, _, _, _, h, (fun i => loX ≤ i ∧ i < hiX), (fun i => i = b19 ∨ loZ ≤ i), _, rfl, rfl, rfl, rfl, hcY, va, fun i hi => ⟨by omega, by omega⟩, fun i hi => by omega, OX.rc, OX.r1, OY.oi, G⟩ | exact ⟨_, _, _, _, _, _, _, _, _, hF, (fun k => PF1 k ∧ loF ≤ k ∧ k < hiF), (fun k => PF2 k ∧ loF ≤ k ∧ k < hiF), _, rfl, rfl, rfl, rfl, hncF, hvF, fun i hi => ⟨by have h9 := hi.2.1; omega, fun h9 => (hpqF i hi.1).2 h9.1⟩, fun i hi => by have h9 := hi.2.1; omega, hFA, hFB, hFC, G⟩
   refine E_bs0 (i := 3) rfl U24 sz3 ?_
   intro b22 w22 fb22 g22 B22
   refine ⟨GS17.grow g22, ?_⟩
   have lb22 := B22.lt
   replace hA := hA.grow g22
   replace hB := hB.grow g22
   replace hC := hC.grow g22
   replace G := G.grow g22
   replace GS17 := GS17.grow g22
   replace B1 := B1.grow g22
   replace B2 := B2.grow g22
   replace B3 := B3.grow g22
   have zg22 := g22.size
   refine D_1 (i := 2) (by kernel_rfl) ?_
   refine E_call rfl rfl en25 (spec_l7Copy2_c _ _ _ h _ _ _ hA hB (by omega)) ?_
   rintro v23 w23 ⟨A23, B23, n123, c123, n223, c223, rs23, rfl, hn123, hn223, O23, g23⟩
   replace hA := hA.grow g23
   replace hB := hB.grow g23
   replace hC := hC.grow g23
   replace G := G.grow g23
   replace GS17 := GS17.grow g23
   replace B1 := B1.grow g23
   replace B2 := B2.grow g23
   replace B3 := B3.grow g23
   replace B22 := B22.grow g23
   have zg23 := g23.size
   subst hn123
   subst hn223
   obtain ⟨AH, rfl⟩ : ∃ x, x = A23 := ⟨_, rfl⟩
   obtain ⟨BH, rfl⟩ : ∃ x, x = B23 := ⟨_, rfl⟩
   obtain ⟨cH, rfl⟩ : ∃ x, x = c123 := ⟨_, rfl⟩
   obtain ⟨dH, rfl⟩ : ∃ x, x = c223 := ⟨_, rfl⟩
   obtain ⟨rsH, rfl⟩ : ∃ x, x = rs23 := ⟨_, rfl⟩
   obtain ⟨loX, hloX⟩ : ∃ x, x = w22.heap.size := ⟨_, rfl⟩
   obtain ⟨hiX, hhiX⟩ : ∃ x, x = w23.heap.size := ⟨_, rfl⟩
   have OX := (O23.lt).weak (Pr' := fun i => loX ≤ i ∧ i < hiX) (fun i hi => by first | omega | (dsimp only at hi ⊢; omega))
   refine ⟨GS17, ?_⟩
   refine D_1 (i := 6) (by kernel_rfl) ?_
   obtain ⟨loZ, hloZ⟩ : ∃ x, x = w23.heap.size := ⟨_, rfl⟩
   have OY : OW (fun i => i = b22) w23 3 1 (some ⟨b22, 0, none⟩) 0 0 [] := OW.of_blk B22 rfl (by decide) rfl
   refine E_app0 (i := 6) rfl (news := ints (countsV h)) U24 zr3 sz3 by3 rfl rfl OY (by rw [ints_len]; omega) (by have hsr := Src.r1 hC; rw [ints_len] at hsr; exact hsr) ints_one (by omega) (Pr' := fun i => i = b22 ∨ loZ ≤ i) (fun i hi => .inl hi) (by first | omega | (dsimp only; omega)) ?_
   intro A24 cap24 w24 X24 m24
   replace OY := X24
   clear X24
   replace G := G.abv m24
   replace GS17 := GS17.abv m24
   replace hA := hA0.grow G
   replace hB := hB0.grow G
   replace hC := hC0.grow G
   replace OX := OX.md m24
   replace B1 := B1.md m24
   replace B2 := B2.md m24
   replace B3 := B3.md m24
   have zm24 := m24.size
   refine ⟨GS17, ?_⟩
   obtain ⟨AY, rfl⟩ : ∃ x, x = A24 := ⟨_, rfl⟩
   obtain ⟨capY, rfl⟩ : ∃ x, x = cap24 := ⟨_, rfl⟩
   have hcY := OY.cap
   refine Dq (i := 7) rfl GS17 (fun _ _ => Y_build (cs := [_, _, _]) zr28 pc28 rfl rfl) ?_
   refine D_1 (i := 8) (by kernel_rfl) ?_
   refine E_stM (pre := []) (old := [_, _, _]) (post := []) (vs := [_, _, _]) (i := 8) rfl sz28 rfl rfl rfl (by first | rfl | assumption) B3 rfl rfl ?_
   intro w25 m25 X25
   replace B3 := Blk.eq (ys := [_, _, _]) X25 rfl
   clear X25
   replace G := G.abv m25
   replace GS17 := GS17.trn m25
   replace hA := hA0.grow G
   replace hB := hB0.grow G
   replace hC := hC0.grow G
   replace OX := OX.md m25
   replace OY := OY.md m25
   replace B1 := B1.md m25
   replace B2 := B2.md m25
   have zm25 := m25.size
   refine ⟨GS17, ?_⟩
   refine Dq (i := 9) rfl GS17 (fun _ _ => Y_assign rfl) ?_
   refine D_en (by kernel_rfl) rfl rfl ?_
   refine th_n (hK8 _ _ ?_)
   clear hK8 K8
   refine wp_ret ?_
   refine th_r ?_
   clear hK5 K5
   refine ret_rct (cs := [_, _, _]) U28 rfl sz28 rfl rfl rfl (B3.row (by rfl)) ?_
   first | exact ⟨_, _, _, _, _, _, _, _, _, h, (fun i => loX ≤ i ∧ i < hiX), (fun i => i = b22 ∨ loZ ≤ i), _, rfl, rfl, rfl, rfl, hcY, va, fun i hi => ⟨by omega, by omega⟩, fun i hi => by omega, OX.rc, OX.r1, OY.oi, G⟩ | exact ⟨_, _, _, _, _, _, _, _, _, hF, (fun k => PF1 k ∧ loF ≤ k ∧ k < hiF), (fun k => PF2 k ∧ loF ≤ k ∧ k < hiF), _, rfl, rfl, rfl, rfl, hncF, hvF, fun i hi => ⟨by have h9 := hi.2.1; omega, fun h9 => (hpqF i hi.1).2 h9.1⟩, fun i hi => by have h9 := hi.2.1; omega, hFA, hFB, hFC, G⟩
  first | with_reducible (replace hb5 := nb_nf hb5) | with_reducible (replace hb5 := nb_tf hb5) | with_reducible (replace hb5 := nb_bf hb5) | skip
  refine wp_skip ?_
  refine th_n (hK5 _ _ ?_)
  clear hK5 K5
  refine wp_seq_k fun K9 hK9 => ?_
  refine Sb 47 rfl ?_
  refine S_val (Y_field U28 rfl fz28_0 (by decide) rfl) ?_
  refine S_val (Y_loadS U26 rfl sz26 rfl (CellsAt.of_blk (pre := []) (us := [_, _]) (post := [_]) B1 rfl)) ?_
  refine S_val (Y_loadS U104 rfl sz104 rfl (B2.row (by rfl))) ?_
  refine Smv rfl ?_
  refine S_call rfl en85 (spec_l8Do_c _ _ _ h _ _ (placeN h.cells) _ _ _ _ _ hA hB va hcv hef (fun h1 => ⟨hpl0, by omega⟩)) ?_
  rintro v26 w26 ⟨A26, B26, n126, c126, n226, c226, rs26, h26, rfl, hn126, hn226, va26, O26, g26⟩
  replace hA := hA.grow g26
  replace hB := hB.grow g26
  replace hC := hC.grow g26
  replace G := G.grow g26
  replace B1 := B1.grow g26
  replace B2 := B2.grow g26
  replace B3 := B3.grow g26
  have zg26 := g26.size
  obtain ⟨hG, rfl⟩ : ∃ x, x = h26 := ⟨_, rfl⟩
  have hvG := va26
  subst hn126
  subst hn226
  have hGA := O26.lt.rc
  have hGB := O26.lt.r1
  refine S_call rfl en84 (spec_l10Free_c _ _ _ hG _ _ _ hGA hGB hvG) ?_
  rintro v27 w27 ⟨A27, B27, C27, n127, c127, n227, c227, n327, c327, h27, P27, Q27, rfl, hn127, hn227, hn327, hnc27, va27, hPQ27, hQ27, RC27, RR27, OC27, g27⟩
  replace hA := hA.grow g27
  replace hB := hB.grow g27
  replace hC := hC.grow g27
  replace hGA := hGA.grow g27
  replace hGB := hGB.grow g27
  replace G := G.grow g27
  replace B1 := B1.grow g27
  replace B2 := B2.grow g27
  replace B3 := B3.grow g27
  have zg27 := g27.size
  subst hn127
  subst hn227
  subst hn327
  obtain ⟨hF, rfl⟩ : ∃ x, x = h27 := ⟨_, rfl⟩
  have hvF := va27
  have hncF := hnc27
  obtain ⟨PF1, rfl⟩ : ∃ x, x = P27 := ⟨_, rfl⟩
  obtain ⟨PF2, rfl⟩ : ∃ x, x = Q27 := ⟨_, rfl⟩
  obtain ⟨loF, hloF⟩ : ∃ x, x = w26.heap.size := ⟨_, rfl⟩
  obtain ⟨hiF, hhiF⟩ : ∃ x, x = w27.heap.size := ⟨_, rfl⟩
  have hpqF := hPQ27
  have hqF := hQ27
  have hFA : RC (fun k => PF1 k ∧ loF ≤ k ∧ k < hiF) w27 _ hF.cells := RC.tight RC27 (fun k hk => by have h9 := (hpqF k hk).1; omega) hhiF
  have hFB : R1 (fun k => PF1 k ∧ loF ≤ k ∧ k < hiF) w27 _ (ints hF.roots) := R1.tight RR27 (fun k hk => by have h9 := (hpqF k hk).1; omega) hhiF
  have hFC : OI (fun k => PF2 k ∧ loF ≤ k ∧ k < hiF) w27 3 _ (ints (countsV hF)) := OI.tight OC27 (fun k hk => by have h9 := hqF k hk; omega) hhiF
  refine S_stM (pre := []) (old := [_, _, _]) (post := []) (vs := [_, _, _]) sz28 rfl rfl rfl (by first | rfl | assumption) B3 rfl rfl ?_
  intro w28 m28 X28
  replace B3 := Blk.eq (ys := [_, _, _]) X28 rfl
  clear X28
  replace G := G.abv m28
  replace hA := hA0.grow G
  replace hB := hB0.grow G
  replace hC := hC0.grow G
  replace hGA := hGA.md m28
  replace hGB := hGB.md m28
  replace hFA := hFA.md m28
  replace hFB := hFB.md m28
  replace hFC := hFC.md m28
  replace B1 := B1.md m28
  replace B2 := B2.md m28
  have zm28 := m28.size
  refine Sas rfl ?_
  refine S_nl rfl rfl ?_
  refine th_n (hK9 _ _ ?_)
  clear hK9 K9
  refine wp_ret ?_
  refine ret_rct (cs := [_, _, _]) U28 rfl sz28 rfl rfl rfl (B3.row (by rfl)) ?_
  first | exact ⟨_, _, _, _, _, _, _, _, _, h, (fun i => loX ≤ i ∧ i < hiX), (fun i => i = b? ∨ loZ ≤ i), _, rfl, rfl, rfl, rfl, hcY, va, fun i hi => ⟨by omega, by omega⟩, fun i hi => by omega, OX.rc, OX.r1, OY.oi, G⟩ | exact ⟨_, _, _, _, _, _, _, _, _, hF, (fun k => PF1 k ∧ loF ≤ k ∧ k < hiF), (fun k => PF2 k ∧ loF ≤ k ∧ k < hiF), _, rfl, rfl, rfl, rfl, hncF, hvF, fun i hi => ⟨by have h9 := hi.2.1; omega, fun h9 => (hpqF i hi.1).2 h9.1⟩, fun i hi => by have h9 := hi.2.1; omega, hFA, hFB, hFC, G⟩
 replace hb4 := nb_tf hb4
 refine S_off rfl rfl ?_
 refine S_off rfl rfl ?_
 refine S_on rfl rfl ?_
 refine S_val (Y_pickF rfl rfl) ?_
 refine S_val (Y_pickF rfl rfl) ?_
 refine S_nl rfl rfl ?_
 refine th_n (hK6 _ _ ?_)
 clear hK6 K6
 refine S_ifF rfl ?_
 refine wp_skip ?_
 refine th_n (hK5 _ _ ?_)
 clear hK5 K5
 refine wp_seq_k fun K10 hK10 => ?_
 refine Sb 47 rfl ?_
 refine S_val (Y_field U28 rfl fz28_0 (by decide) rfl) ?_
 refine S_val (Y_loadS U26 rfl sz26 rfl (CellsAt.of_blk (pre := []) (us := [_, _]) (post := [_]) B1 rfl)) ?_
 refine S_val (Y_loadS U104 rfl sz104 rfl (B2.row (by rfl))) ?_
 refine Smv rfl ?_
 refine S_call rfl en85 (spec_l8Do_c _ _ _ h _ _ (placeN h.cells) _ _ _ _ _ hA hB va hcv hef (fun h1 => ⟨hpl0, by omega⟩)) ?_
 rintro v29 w29 ⟨A29, B29, n129, c129, n229, c229, rs29, h29, rfl, hn129, hn229, va29, O29, g29⟩
 replace hA := hA.grow g29
 replace hB := hB.grow g29
 replace hC := hC.grow g29
 replace G := G.grow g29
 replace B1 := B1.grow g29
 replace B2 := B2.grow g29
 replace B3 := B3.grow g29
 have zg29 := g29.size
 obtain ⟨hG, rfl⟩ : ∃ x, x = h29 := ⟨_, rfl⟩
 have hvG := va29
 subst hn129
 subst hn229
 have hGA := O29.lt.rc
 have hGB := O29.lt.r1
 refine S_call rfl en84 (spec_l10Free_c _ _ _ hG _ _ _ hGA hGB hvG) ?_
 rintro v30 w30 ⟨A30, B30, C30, n130, c130, n230, c230, n330, c330, h30, P30, Q30, rfl, hn130, hn230, hn330, hnc30, va30, hPQ30, hQ30, RC30, RR30, OC30, g30⟩
 replace hA := hA.grow g30
 replace hB := hB.grow g30
 replace hC := hC.grow g30
 replace hGA := hGA.grow g30
 replace hGB := hGB.grow g30
 replace G := G.grow g30
 replace B1 := B1.grow g30
 replace B2 := B2.grow g30
 replace B3 := B3.grow g30
 have zg30 := g30.size
 subst hn130
 subst hn230
 subst hn330
 obtain ⟨hF, rfl⟩ : ∃ x, x = h30 := ⟨_, rfl⟩
 have hvF := va30
 have hncF := hnc30
 obtain ⟨PF1, rfl⟩ : ∃ x, x = P30 := ⟨_, rfl⟩
 obtain ⟨PF2, rfl⟩ : ∃ x, x = Q30 := ⟨_, rfl⟩
 obtain ⟨loF, hloF⟩ : ∃ x, x = w29.heap.size := ⟨_, rfl⟩
 obtain ⟨hiF, hhiF⟩ : ∃ x, x = w30.heap.size := ⟨_, rfl⟩
 have hpqF := hPQ30
 have hqF := hQ30
 have hFA : RC (fun k => PF1 k ∧ loF ≤ k ∧ k < hiF) w30 _ hF.cells := RC.tight RC30 (fun k hk => by have h9 := (hpqF k hk).1; omega) hhiF
 have hFB : R1 (fun k => PF1 k ∧ loF ≤ k ∧ k < hiF) w30 _ (ints hF.roots) := R1.tight RR30 (fun k hk => by have h9 := (hpqF k hk).1; omega) hhiF
 have hFC : OI (fun k => PF2 k ∧ loF ≤ k ∧ k < hiF) w30 3 _ (ints (countsV hF)) := OI.tight OC30 (fun k hk => by have h9 := hqF k hk; omega) hhiF
 refine S_stM (pre := []) (old := [_, _, _]) (post := []) (vs := [_, _, _]) sz28 rfl rfl rfl (by first | rfl | assumption) B3 rfl rfl ?_
 intro w31 m31 X31
 replace B3 := Blk.eq (ys := [_, _, _]) X31 rfl
 clear X31
 replace G := G.abv m31
 replace hA := hA0.grow G
 replace hB := hB0.grow G
 replace hC := hC0.grow G
 replace hGA := hGA.md m31
 replace hGB := hGB.md m31
 replace hFA := hFA.md m31
 replace hFB := hFB.md m31
 replace hFC := hFC.md m31
 replace B1 := B1.md m31
 replace B2 := B2.md m31
 have zm31 := m31.size
 refine Sas rfl ?_
 refine S_nl rfl rfl ?_
 refine th_n (hK10 _ _ ?_)
 clear hK10 K10
 refine wp_ret ?_
 refine ret_rct (cs := [_, _, _]) U28 rfl sz28 rfl rfl rfl (B3.row (by rfl)) ?_
 first | exact ⟨_, _, _, _, _, _, _, _, _, h, (fun i => loX ≤ i ∧ i < hiX), (fun i => i = b? ∨ loZ ≤ i), _, rfl, rfl, rfl, rfl, hcY, va, fun i hi => ⟨by omega, by omega⟩, fun i hi => by omega, OX.rc, OX.r1, OY.oi, G⟩ | exact ⟨_, _, _, _, _, _, _, _, _, hF, (fun k => PF1 k ∧ loF ≤ k ∧ k < hiF), (fun k => PF2 k ∧ loF ≤ k ∧ k < hiF), _, rfl, rfl, rfl, rfl, hncF, hvF, fun i hi => ⟨by have h9 := hi.2.1; omega, fun h9 => (hpqF i hi.1).2 h9.1⟩, fun i hi => by have h9 := hi.2.1; omega, hFA, hFB, hFC, G⟩
set_option maxHeartbeats 2000000 in
set_option maxRecDepth 20000 in
theorem spec_RunCounted_c (Pr : Nat → Prop) (A : Option Addr) (xs : List LCmd) (c : Nat) (w : World) (hA : RO Pr w A xs) (hx : xs.length ≤ 1048576) (hcs : csB xs = true) :
    Calls Try.prog 51 #[.slice A xs.length c] w (Ret fun v w' => ∃ (A1 B1 C1 : Option Addr) (n1 c1 n2 c2 n3 c3 : Nat) (h2 : LH) (P1 P2 : Nat → Prop), v = .agg #[.slice A1 n1 c1, .slice B1 n2 c2, .slice C1 n3 c3] ∧ n1 = h2.cells.length ∧ n2 = h2.roots.length ∧ n3 = (countsV h2).length ∧ n3 ≤ c3 ∧ Valid h2 ∧ (∀ i : Nat, P1 i → w.heap.size ≤ i ∧ ¬ P2 i) ∧ (∀ i : Nat, P2 i → w.heap.size ≤ i) ∧ RC P1 w' A1 h2.cells ∧ R1 P1 w' B1 (ints h2.roots) ∧ OI P2 w' 3 C1 (ints (countsV h2)) ∧ Grow w w') := by
 have hAl := hA.below
 have hne : (50 : TypeId) ≠ 3 := by decide
 have hall : ∀ (k : Nat) (hk : k < xs.length), cvB xs[k] = true := fun k hk => by unfold csB at hcs; rw [decide_eq_true_eq] at hcs; exact List.all_eq_true.1 hcs.2 _ (List.getElem_mem hk)
 have hce : countsV emptyH = [] := by decide
 refine enter Try.func51 rfl Try.ntmps51 (L := [_,_,_,_,_,_,_,_,_,_,_,_,_,_,_,_,_,_,_,_,_,_,_,_,_,_,_,_,_,_,_]) rfl ?_
 have G := Mod.refl No w
 have hAl0 := hAl
 refine wp_seq_k fun K1 hK1 => ?_
 refine Sb 31 rfl ?_
 refine S_alloc (cs := [_, _, _]) zr28 rfl ?_
 intro b1 w1 fb1 g1 B1
 have lb1 := B1.lt
 replace hAl := hAl.grow g1
 replace G := G.grow g1
 have zg1 := g1.size
 refine S_nl rfl rfl ?_
 refine th_n (hK1 _ _ ?_)
 clear hK1 K1
 refine wp_seq_k fun K2 hK2 => ?_
 refine wp_seq_k fun K3 hK3 => ?_
 refine Sb 31 rfl ?_
 refine Smv rfl ?_
 refine S_call rfl en72 (spec_CommandsValid_c _ _ _ _ _ (by assumption) (by omega)) ?_
 rintro v2 w2 ⟨rfl, g2⟩
 replace hAl := hAl.grow g2
 replace G := G.grow g2
 replace B1 := B1.grow g2
 have zg2 := g2.size
 refine S_val (Y_not rfl) ?_
 refine S_nl rfl rfl ?_
 refine th_n (hK3 _ _ ?_)
 clear hK3 K3
 refine S_if rfl (fun hb1 => ?_) (fun hb1 => ?_)
 ·
  first | with_reducible (replace hb1 := nb_nt hb1) | with_reducible (replace hb1 := nb_tt hb1) | with_reducible (replace hb1 := nb_bt hb1) | skip
  rw [hcs] at hb1; cases hb1
 first | with_reducible (replace hb1 := nb_nf hb1) | with_reducible (replace hb1 := nb_tf hb1) | with_reducible (replace hb1 := nb_bf hb1) | skip
 refine wp_skip ?_
 refine th_n (hK2 _ _ ?_)
 clear hK2 K2
 refine wp_seq_k fun K4 hK4 => ?_
 refine Sb 31 rfl ?_
 refine S_call rfl en73 (spec_EmptyHeap2_c _) ?_
 rintro v3 w3 ⟨A3, B3, n13, c13, n23, c23, rs3, rfl, hn13, hn23, O3, g3⟩
 replace hAl := hAl.grow g3
 replace G := G.grow g3
 replace B1 := B1.grow g3
 have zg3 := g3.size
 subst hn13
 subst hn23
 obtain ⟨AH, rfl⟩ : ∃ x, x = A3 := ⟨_, rfl⟩
 obtain ⟨BH, rfl⟩ : ∃ x, x = B3 := ⟨_, rfl⟩
 obtain ⟨cH, rfl⟩ : ∃ x, x = c13 := ⟨_, rfl⟩
 obtain ⟨dH, rfl⟩ : ∃ x, x = c23 := ⟨_, rfl⟩
 obtain ⟨rsH, rfl⟩ : ∃ x, x = rs3 := ⟨_, rfl⟩
 have OX := O3.lt
 refine S_bs0 U24 sz3 ?_
 intro b4 w4 fb4 g4 B4
 have lb4 := B4.lt
 replace hAl := hAl.grow g4
 replace OX := OX.grow g4
 replace G := G.grow g4
 replace B1 := B1.grow g4
 have zg4 := g4.size
 refine S_val (Y_build (cs := [_, _, _]) zr28 pc28 rfl rfl) ?_
 refine S_alloc (cs := [_, _, _]) zr28 rfl ?_
 intro b5 w5 fb5 g5 B5
 have lb5 := B5.lt
 replace hAl := hAl.grow g5
 replace OX := OX.grow g5
 replace G := G.grow g5
 replace B1 := B1.grow g5
 replace B4 := B4.grow g5
 have zg5 := g5.size
 refine S_stM (pre := []) (old := [_, _, _]) (post := []) (vs := [_, _, _]) sz28 rfl rfl rfl (by first | rfl | assumption) B5 rfl rfl ?_
 intro w6 m6 X6
 replace B5 := Blk.eq (ys := [_, _, _]) X6 rfl
 clear X6
 replace G := G.abv m6
 replace hAl := hAl0.grow G
 replace OX := OX.md m6
 replace B1 := B1.md m6
 replace B4 := B4.md m6
 have zm6 := m6.size
 refine S_nl rfl rfl ?_
 refine th_n (hK4 _ _ ?_)
 clear hK4 K4
 refine wp_seq_k fun K5 hK5 => ?_
 refine wp_seq_k fun K6 hK6 => ?_
 refine Sb 31 rfl ?_
 refine Sas rfl ?_
 refine S_nl rfl rfl ?_
 refine th_n (hK6 _ _ ?_)
 clear hK6 K6
 refine wp_block ?_
 replace OX := OX.weak (Pr' := fun i => b1 < i ∧ i ≠ b5) (fun i hi => by first | omega | (dsimp only at hi; omega))
 go_loopw [4] (fun u4 wr => (∃ (k : Nat) (hK : LH) (AK BK CK : Option Addr) (c1 c2 c3 : Nat) (P1 P2 : Nat → Prop), u4 = .int .i64 k ∧ k ≤ xs.length ∧ Blk wr b5 28 [.slice AK hK.cells.length c1, .slice BK hK.roots.length c2, .slice CK (countsV hK).length c3].toArray ∧ (countsV hK).length ≤ c3 ∧ Valid hK ∧ (∀ i : Nat, P1 i → b1 < i ∧ i ≠ b5 ∧ ¬ P2 i) ∧ (∀ i : Nat, P2 i → b1 < i ∧ i ≠ b5) ∧ RC P1 wr AK hK.cells ∧ R1 P1 wr BK (ints hK.roots) ∧ OI P2 wr 3 CK (ints (countsV hK))) ∧ Mod (fun i => i = b5) w6 wr) (fun u4 wr => xs.length - (intOf u4).toNat)
 case atStart =>
  refine ⟨?_, Mod.refl _ _⟩
  exact ⟨0, emptyH, _, _, _, _, _, _, (fun i => b1 < i ∧ i ≠ b5), No, rfl, by omega, by rw [hce]; exact B5, by rw [hce]; exact Nat.zero_le _, valid_iff.1 (by decide), fun i hi => ⟨hi.1, hi.2, fun h9 => h9⟩, fun i h9 => h9.elim, OX.rc, OX.r1, by rw [hce]; exact OI.nil _ _ _ _⟩
 case round =>
  obtain ⟨w7, rfl⟩ : ∃ x : World, x = wr := ⟨_, rfl⟩
  obtain ⟨hrel, g7⟩ := hrel
  clear B5
  clear OX
  replace G := G.abv g7
  replace hAl := hAl0.grow G
  replace B1 := B1.md g7
  replace B4 := B4.md g7
  have zg7 := g7.size
  obtain ⟨k, hK, AK, BK, CK, c1, c2, c3, P1, P2, rfl, hk, B5, hcK, vK, hp1, hp2, hKA, hKB, hKC⟩ := hrel
  obtain ⟨hiK, hhiK⟩ : ∃ x, x = w7.heap.size := ⟨_, rfl⟩
  replace hKA := RC.tight (lo := 0) (hi := hiK) hKA (fun _ _ => Nat.zero_le _) hhiK
  replace hKB := R1.tight (lo := 0) (hi := hiK) hKB (fun _ _ => Nat.zero_le _) hhiK
  replace hKC := OI.tight (lo := 0) (hi := hiK) hKC (fun _ _ => Nat.zero_le _) hhiK
  replace hKA := hKA.weak (Pr' := (fun k => P1 k ∧ b1 < k ∧ k ≠ b5 ∧ k < hiK)) (fun i hi => ⟨hi.1, (hp1 i hi.1).1, (hp1 i hi.1).2.1, hi.2.2⟩)
  replace hKB := hKB.weak (Pr' := (fun k => P1 k ∧ b1 < k ∧ k ≠ b5 ∧ k < hiK)) (fun i hi => ⟨hi.1, (hp1 i hi.1).1, (hp1 i hi.1).2.1, hi.2.2⟩)
  replace hKC := hKC.weak (Pr' := (fun k => P2 k ∧ b1 < k ∧ k ≠ b5 ∧ k < hiK)) (fun i hi => ⟨hi.1, (hp2 i hi.1).1, (hp2 i hi.1).2, hi.2.2⟩)
  have hSA := hKA.weak (Pr' := (fun k => b1 < k ∧ k ≠ b5 ∧ k < hiK)) (fun i hi => hi.2)
  have hSB := hKB.weak (Pr' := (fun k => b1 < k ∧ k ≠ b5 ∧ k < hiK)) (fun i hi => hi.2)
  have hSC := (hKC.weak (Pr' := (fun k => b1 < k ∧ k ≠ b5 ∧ k < hiK)) (fun i hi => hi.2)).r1
  have GL7 := g7
  refine wp_seq_k fun K7 hK7 => ?_
  refine wp_seq_k fun K8 hK8 => ?_
  refine Sb 31 rfl ?_
  refine Smv rfl ?_
  refine Smv rfl ?_
  refine S_val (Y_len U78 rfl) ?_
  refine S_val (Y_lss rfl rfl) ?_
  refine S_nl rfl rfl ?_
  refine th_n (hK8 _ _ ?_)
  clear hK8 K8
  refine S_if rfl (fun hb2 => ?_) (fun hb2 => ?_)
  ·
   replace hb2 := nb_tt hb2
   have hk1 : k < xs.length := by omega
   obtain ⟨g2, o2, rfl, hp2b, cc20⟩ := hAl0.cell hk1
   have cc2 := cc20.grow G
   refine wp_skip ?_
   refine th_n (hK7 _ _ ?_)
   clear hK7 K7
   refine wp_seq_k fun K9 hK9 => ?_
   refine wp_block ?_
   refine wp_seq_k fun K10 hK10 => ?_
   refine D_start 12 31 (fun w => Mod (No) w) follows rfl rfl ?_
   intro w8 g8
   replace hAl := hAl.grow g8
   replace cc2 := cc2.grow g8
   replace hKA := hKA.grow g8
   replace hKB := hKB.grow g8
   replace hKC := hKC.grow g8
   replace hSA := hSA.grow g8
   replace hSB := hSB.grow g8
   replace hSC := hSC.grow g8
   replace G := G.grow g8
   replace GL7 := GL7.grow g8
   replace B1 := B1.grow g8
   replace B4 := B4.grow g8
   replace B5 := B5.grow g8
   have zg8 := g8.size
   have GS8 := Mod.refl (No) w8
   have B5d8 := B5
   refine Dq (i := 0) rfl GS8 (fun _ hs => Y_loadS U28 rfl sz28 rfl (by first | exact hs.cells0 (B5.row (by rfl)))) ?_
   refine Dq (i := 1) rfl GS8 (fun _ _ => Y_move rfl) ?_
   refine Dq (i := 2) rfl GS8 (fun _ _ => Y_move rfl) ?_
   refine Dq (i := 3) rfl GS8 (fun _ _ => Y_index U78 sz104 rfl rfl (by first | assumption | omega)) ?_
   refine Dq (i := 4) rfl GS8 (fun _ hs => Y_loadS U104 rfl sz104 rfl (by first | exact hs.cells0 (by assumption) | exact hs.cells0 (B1.row (by rfl)) | exact hs.cells0 (B4.row (by rfl)) | exact hs.cells0 (B5.row (by rfl)))) ?_
   refine D_2 (i := 5) (j := 9) (by kernel_rfl) ?_ ?_
   ·
    refine E_call rfl rfl en74 (spec_StepCounted_c (fun k => b1 < k ∧ k ≠ b5 ∧ k < hiK) _ _ _ hK _ _ _ _ _ _ _ _ hSA hSB hSC vK (cvB_d0 (hall k hk1))) ?_
    rintro v9 w9 ⟨A9, B9, C9, n19, c19, n29, c29, n39, c39, h9, P9, Q9, ok9, rfl, hn19, hn29, hn39, hnc9, va9, hPQ9, hQ9, RC9, RR9, OC9, g9⟩
    replace hAl := hAl.grow g9
    replace cc2 := cc2.grow g9
    replace hKA := hKA.grow g9
    replace hKB := hKB.grow g9
    replace hKC := hKC.grow g9
    replace hSA := hSA.grow g9
    replace hSB := hSB.grow g9
    replace hSC := hSC.grow g9
    replace G := G.grow g9
    replace GL7 := GL7.grow g9
    replace GS8 := GS8.grow g9
    replace B1 := B1.grow g9
    replace B4 := B4.grow g9
    replace B5 := B5.grow g9
    have zg9 := g9.size
    subst hn19
    subst hn29
    subst hn39
    obtain ⟨hF, rfl⟩ : ∃ x, x = h9 := ⟨_, rfl⟩
    have hvF := va9
    have hncF := hnc9
    obtain ⟨PF1, rfl⟩ : ∃ x, x = P9 := ⟨_, rfl⟩
    obtain ⟨PF2, rfl⟩ : ∃ x, x = Q9 := ⟨_, rfl⟩
    obtain ⟨loF, hloF⟩ : ∃ x, x = w8.heap.size := ⟨_, rfl⟩
    obtain ⟨hiF, hhiF⟩ : ∃ x, x = w9.heap.size := ⟨_, rfl⟩
    have hpqF := hPQ9
    have hqF := hQ9
    have hFA : RC (fun k => PF1 k ∧ loF ≤ k ∧ k < hiF) w9 _ hF.cells := RC.tight RC9 (fun k hk => by have h9 := (hpqF k hk).1; omega) hhiF
    have hFB : R1 (fun k => PF1 k ∧ loF ≤ k ∧ k < hiF) w9 _ (ints hF.roots) := R1.tight RR9 (fun k hk => by have h9 := (hpqF k hk).1; omega) hhiF
    have hFC : OI (fun k => PF2 k ∧ loF ≤ k ∧ k < hiF) w9 3 _ (ints (countsV hF)) := OI.tight OC9 (fun k hk => by have h9 := hqF k hk; omega) hhiF
    refine ⟨GS8, ?_⟩
    refine Dq (i := 6) rfl GS8 (fun _ _ => Y_move rfl) ?_
    refine Dq (i := 7) rfl GS8 (fun _ _ => Y_extract rfl rfl) ?_
    refine Dq (i := 8) rfl GS8 (fun _ _ => Y_extract rfl rfl) ?_
    refine D_1 (i := 9) (by kernel_rfl) ?_
    refine E_alloc (cs := [_, _, _]) rfl zr28 rfl (fun b10 w10 fb10 g10 B10 => ⟨GS8.grow g10, ?_⟩)
    have lb10 := B10.lt
    replace hAl := hAl.grow g10
    replace cc2 := cc2.grow g10
    replace hKA := hKA.grow g10
    replace hKB := hKB.grow g10
    replace hKC := hKC.grow g10
    replace hSA := hSA.grow g10
    replace hSB := hSB.grow g10
    replace hSC := hSC.grow g10
    replace hFA := hFA.grow g10
    replace hFB := hFB.grow g10
    replace hFC := hFC.grow g10
    replace G := G.grow g10
    replace GL7 := GL7.grow g10
    replace GS8 := GS8.grow g10
    replace B1 := B1.grow g10
    replace B4 := B4.grow g10
    replace B5 := B5.grow g10
    have zg10 := g10.size
    refine D_1 (i := 10) (by kernel_rfl) ?_
    refine E_stM (pre := []) (old := [_, _, _]) (post := []) (vs := [_, _, _]) (i := 10) rfl sz28 rfl rfl rfl (by first | rfl | assumption) B10 rfl rfl ?_
    intro w11 m11 X11
    replace B10 := Blk.eq (ys := [_, _, _]) X11 rfl
    clear X11
    replace G := G.abv m11
    first | replace GL7 := GL7.abv m11 | try clear GL7
    replace GS8 := GS8.abv m11
    replace hAl := hAl0.grow G
    replace cc2 := cc20.grow G
    replace hKA := hKA.md m11
    replace hKB := hKB.md m11
    replace hKC := hKC.md m11
    replace hSA := hSA.md m11
    replace hSB := hSB.md m11
    replace hSC := hSC.md m11
    replace hFA := hFA.md m11
    replace hFB := hFB.md m11
    replace hFC := hFC.md m11
    replace B1 := B1.md m11
    replace B4 := B4.md m11
    replace B5 := B5.md m11
    have zm11 := m11.size
    refine ⟨GS8, ?_⟩
    refine Dq (i := 11) rfl GS8 (fun _ _ => Y_assign rfl) ?_
    refine D_en (by kernel_rfl) rfl rfl ?_
    refine th_n (hK10 _ _ ?_)
    clear hK10 K10
    refine Sb 31 rfl ?_
    refine S_val (Y_loadS U28 rfl sz28 rfl (B10.row (by rfl))) ?_
    refine S_stM (pre := []) (old := [_, _, _]) (post := []) (vs := [_, _, _]) sz28 rfl rfl rfl (by first | rfl | assumption) B5 rfl rfl ?_
    intro w12 m12 X12
    replace B5 := Blk.eq (ys := [_, _, _]) X12 rfl
    clear X12
    replace G := G.abv m12
    replace GL7 := GL7.trn m12
    replace hAl := hAl0.grow G
    replace cc2 := cc20.grow G
    replace hKA := hKA.md m12
    replace hKB := hKB.md m12
    replace hKC := hKC.md m12
    replace hSA := hSA.md m12
    replace hSB := hSB.md m12
    replace hSC := hSC.md m12
    replace hFA := hFA.md m12
    replace hFB := hFB.md m12
    replace hFC := hFC.md m12
    replace B1 := B1.md m12
    replace B4 := B4.md m12
    replace B10 := B10.md m12
    have zm12 := m12.size
    refine S_nl rfl rfl ?_
    refine ib_n ?_
    refine th_n (hK9 _ _ ?_)
    clear hK9 K9
    refine Sb 31 rfl ?_
    refine Smv rfl ?_
    refine S_val (Y_inc rfl rfl (by omega)) ?_
    refine Sas rfl ?_
    refine S_nl rfl rfl ?_
    refine th_n ?_
    go_roundw
    case rel =>
     refine ⟨?_, GL7⟩
     exact ⟨k + 1, hF, _, _, _, _, _, _, (fun k => PF1 k ∧ loF ≤ k ∧ k < hiF), (fun k => PF2 k ∧ loF ≤ k ∧ k < hiF), rfl, by omega, B5, hncF, hvF, fun i hi => ⟨by have h9 := hi.2.1; omega, by have h9 := hi.2.1; omega, fun h9 => (hpqF i hi.1).2 h9.1⟩, fun i hi => ⟨by have h9 := hi.2.1; omega, by have h9 := hi.2.1; omega⟩, hFA, hFB, hFC⟩
    case measure =>
     exact dec_nat (by omega)
   refine E_alloc (cs := [_, _, _]) rfl zr28 rfl (fun b13 w13 fb13 g13 B13 => ⟨GS8.grow g13, ?_⟩)
   have lb13 := B13.lt
   replace hAl := hAl.grow g13
   replace cc2 := cc2.grow g13
   replace hKA := hKA.grow g13
   replace hKB := hKB.grow g13
   replace hKC := hKC.grow g13
   replace hSA := hSA.grow g13
   replace hSB := hSB.grow g13
   replace hSC := hSC.grow g13
   replace G := G.grow g13
   replace GL7 := GL7.grow g13
   replace GS8 := GS8.grow g13
   replace B1 := B1.grow g13
   replace B4 := B4.grow g13
   replace B5 := B5.grow g13
   have zg13 := g13.size
   refine D_1 (i := 5) (by kernel_rfl) ?_
   refine E_call rfl rfl en74 (spec_StepCounted_c (fun k => b1 < k ∧ k ≠ b5 ∧ k < hiK) _ _ _ hK _ _ _ _ _ _ _ _ hSA hSB hSC vK (cvB_d0 (hall k hk1))) ?_
   rintro v14 w14 ⟨A14, B14, C14, n114, c114, n214, c214, n314, c314, h14, P14, Q14, ok14, rfl, hn114, hn214, hn314, hnc14, va14, hPQ14, hQ14, RC14, RR14, OC14, g14⟩
   replace hAl := hAl.grow g14
   replace cc2 := cc2.grow g14
   replace hKA := hKA.grow g14
   replace hKB := hKB.grow g14
   replace hKC := hKC.grow g14
   replace hSA := hSA.grow g14
   replace hSB := hSB.grow g14
   replace hSC := hSC.grow g14
   replace G := G.grow g14
   replace GL7 := GL7.grow g14
   replace GS8 := GS8.grow g14
   replace B1 := B1.grow g14
   replace B4 := B4.grow g14
   replace B5 := B5.grow g14
   replace B13 := B13.grow g14
   have zg14 := g14.size
   subst hn114
   subst hn214
   subst hn314
   obtain ⟨hF, rfl⟩ : ∃ x, x = h14 := ⟨_, rfl⟩
   have hvF := va14
   have hncF := hnc14
   obtain ⟨PF1, rfl⟩ : ∃ x, x = P14 := ⟨_, rfl⟩
   obtain ⟨PF2, rfl⟩ : ∃ x, x = Q14 := ⟨_, rfl⟩
   obtain ⟨loF, hloF⟩ : ∃ x, x = w13.heap.size := ⟨_, rfl⟩
   obtain ⟨hiF, hhiF⟩ : ∃ x, x = w14.heap.size := ⟨_, rfl⟩
   have hpqF := hPQ14
   have hqF := hQ14
   have hFA : RC (fun k => PF1 k ∧ loF ≤ k ∧ k < hiF) w14 _ hF.cells := RC.tight RC14 (fun k hk => by have h9 := (hpqF k hk).1; omega) hhiF
   have hFB : R1 (fun k => PF1 k ∧ loF ≤ k ∧ k < hiF) w14 _ (ints hF.roots) := R1.tight RR14 (fun k hk => by have h9 := (hpqF k hk).1; omega) hhiF
   have hFC : OI (fun k => PF2 k ∧ loF ≤ k ∧ k < hiF) w14 3 _ (ints (countsV hF)) := OI.tight OC14 (fun k hk => by have h9 := hqF k hk; omega) hhiF
   refine ⟨GS8, ?_⟩
   refine Dq (i := 6) rfl GS8 (fun _ _ => Y_move rfl) ?_
   refine Dq (i := 7) rfl GS8 (fun _ _ => Y_extract rfl rfl) ?_
   refine Dq (i := 8) rfl GS8 (fun _ _ => Y_extract rfl rfl) ?_
   refine D_1 (i := 10) (by kernel_rfl) ?_
   refine E_stM (pre := []) (old := [_, _, _]) (post := []) (vs := [_, _, _]) (i := 10) rfl sz28 rfl rfl rfl (by first | rfl | assumption) B13 rfl rfl ?_
   intro w15 m15 X15
   replace B13 := Blk.eq (ys := [_, _, _]) X15 rfl
   clear X15
   replace G := G.abv m15
   first | replace GL7 := GL7.abv m15 | try clear GL7
   replace GS8 := GS8.abv m15
   replace hAl := hAl0.grow G
   replace cc2 := cc20.grow G
   replace hKA := hKA.md m15
   replace hKB := hKB.md m15
   replace hKC := hKC.md m15
   replace hSA := hSA.md m15
   replace hSB := hSB.md m15
   replace hSC := hSC.md m15
   replace hFA := hFA.md m15
   replace hFB := hFB.md m15
   replace hFC := hFC.md m15
   replace B1 := B1.md m15
   replace B4 := B4.md m15
   replace B5 := B5.md m15
   have zm15 := m15.size
   refine ⟨GS8, ?_⟩
   refine Dq (i := 11) rfl GS8 (fun _ _ => Y_assign rfl) ?_
   refine D_en (by kernel_rfl) rfl rfl ?_
   refine th_n (hK10 _ _ ?_)
   clear hK10 K10
   refine Sb 31 rfl ?_
   refine S_val (Y_loadS U28 rfl sz28 rfl (B13.row (by rfl))) ?_
   refine S_stM (pre := []) (old := [_, _, _]) (post := []) (vs := [_, _, _]) sz28 rfl rfl rfl (by first | rfl | assumption) B5 rfl rfl ?_
   intro w16 m16 X16
   replace B5 := Blk.eq (ys := [_, _, _]) X16 rfl
   clear X16
   replace G := G.abv m16
   replace GL7 := GL7.trn m16
   replace hAl := hAl0.grow G
   replace cc2 := cc20.grow G
   replace hKA := hKA.md m16
   replace hKB := hKB.md m16
   replace hKC := hKC.md m16
   replace hSA := hSA.md m16
   replace hSB := hSB.md m16
   replace hSC := hSC.md m16
   replace hFA := hFA.md m16
   replace hFB := hFB.md m16
   replace hFC := hFC.md m16
   replace B1 := B1.md m16
   replace B4 := B4.md m16
   replace B13 := B13.md m16
   have zm16 := m16.size
   refine S_nl rfl rfl ?_
   refine ib_n ?_
   refine th_n (hK9 _ _ ?_)
   clear hK9 K9
   refine Sb 31 rfl ?_
   refine Smv rfl ?_
   refine S_val (Y_inc rfl rfl (by omega)) ?_
   refine Sas rfl ?_
   refine S_nl rfl rfl ?_
   refine th_n ?_
   go_roundw
   case rel =>
    refine ⟨?_, GL7⟩
    exact ⟨k + 1, hF, _, _, _, _, _, _, (fun k => PF1 k ∧ loF ≤ k ∧ k < hiF), (fun k => PF2 k ∧ loF ≤ k ∧ k < hiF), rfl, by omega, B5, hncF, hvF, fun i hi => ⟨by have h9 := hi.2.1; omega, by have h9 := hi.2.1; omega, fun h9 => (hpqF i hi.1).2 h9.1⟩, fun i hi => ⟨by have h9 := hi.2.1; omega, by have h9 := hi.2.1; omega⟩, hFA, hFB, hFC⟩
   case measure =>
    exact dec_nat (by omega)
  replace hb2 := nb_tf hb2
  refine wp_exit ?_
  refine th_x ?_
  try clear GL7
  refine th_x ?_
  refine ib_e ?_
  refine th_n (hK5 _ _ ?_)
  clear hK7 K7 hK5 K5
  refine wp_seq_k fun K11 hK11 => ?_
  refine Sb 31 rfl ?_
  refine S_val (Y_loadS U28 rfl sz28 rfl (B5.row (by rfl))) ?_
  refine S_stM (pre := []) (old := [_, _, _]) (post := []) (vs := [_, _, _]) sz28 rfl rfl rfl (by first | rfl | assumption) B1 rfl rfl ?_
  intro w17 m17 X17
  replace B1 := Blk.eq (ys := [_, _, _]) X17 rfl
  clear X17
  replace G := G.abv m17
  replace hAl := hAl0.grow G
  replace hKA := hKA.md m17
  replace hKB := hKB.md m17
  replace hKC := hKC.md m17
  replace hSA := hSA.md m17
  replace hSB := hSB.md m17
  replace hSC := hSC.md m17
  replace B4 := B4.md m17
  replace B5 := B5.md m17
  have zm17 := m17.size
  refine S_nl rfl rfl ?_
  refine th_n (hK11 _ _ ?_)
  clear hK11 K11
  refine wp_ret ?_
  refine ret_rc (cs := [_, _, _]) U28 rfl sz28 rfl rfl (B1.row (by rfl)) ?_
  exact ⟨_, _, _, _, _, _, _, _, _, hK, (fun k => P1 k ∧ b1 < k ∧ k ≠ b5 ∧ k < hiK), (fun k => P2 k ∧ b1 < k ∧ k ≠ b5 ∧ k < hiK), rfl, rfl, rfl, rfl, hcK, vK, fun i hi => ⟨by have h9 := hi.2.1; omega, fun h9 => (hp1 i hi.1).2.2 h9.1⟩, fun i hi => by have h9 := hi.2.1; omega, hKA, hKB, hKC, G⟩
set_option maxHeartbeats 400000 in
set_option maxRecDepth 20000 in
theorem spec_RefCounts2_c (Pr : Nat → Prop) (A B : Option Addr) (h : LH) (c d : Nat) (w : World) (hA : RC Pr w A h.cells) (hB : R1 Pr w B (ints h.roots)) (hz : hsize h ≤ 1048576) :
    Calls Try.prog 49 #[.agg #[.slice A h.cells.length c, .slice B h.roots.length d]] w (Ret fun v w' => ∃ A1 q cap, v = .slice A1 q cap ∧ q = (countsV h).length ∧ q ≤ cap ∧ OI (fun i => w.heap.size ≤ i) w' 3 A1 (ints (countsV h)) ∧ Grow w w') := by
 refine enter Try.func49 rfl Try.ntmps49 (L := [_,_,_,_,_,_,_,_,_]) rfl ?_
 have G := Mod.refl No w
 have hA0 := hA
 have hB0 := hB
 refine wp_seq_k fun K1 hK1 => ?_
 refine Sb 9 rfl ?_
 refine S_box (cs := [_, _]) rfl rfl ?_
 intro b1 w1 fb1 g1 B1
 have lb1 := B1.lt
 replace hA := hA.grow g1
 replace hB := hB.grow g1
 replace G := G.grow g1
 have zg1 := g1.size
 refine Sas rfl ?_
 refine S_nl rfl rfl ?_
 refine th_n (hK1 _ _ ?_)
 clear hK1 K1
 refine wp_seq_k fun K2 hK2 => ?_
 refine wp_seq_k fun K3 hK3 => ?_
 refine Sb 9 rfl ?_
 refine S_val (Y_loadS U26 rfl sz26 rfl (B1.row (by rfl))) ?_
 refine S_call rfl en44 (spec_HeapValid_c _ _ _ _ _ _ _ (by assumption) (by assumption) (by omega)) ?_
 rintro v2 w2 ⟨rfl, g2⟩
 replace hA := hA.grow g2
 replace hB := hB.grow g2
 replace G := G.grow g2
 replace B1 := B1.grow g2
 have zg2 := g2.size
 refine S_val (Y_not rfl) ?_
 refine S_nl rfl rfl ?_
 refine th_n (hK3 _ _ ?_)
 clear hK3 K3
 refine S_if rfl (fun hb1 => ?_) (fun hb1 => ?_)
 ·
  first | with_reducible (replace hb1 := nb_nt hb1) | with_reducible (replace hb1 := nb_tt hb1) | with_reducible (replace hb1 := nb_bt hb1) | skip
  refine wp_seq_k fun K4 hK4 => ?_
  refine Sb 9 rfl ?_
  refine S_bs0 U24 sz3 ?_
  intro b3 w3 fb3 g3 B3
  have lb3 := B3.lt
  replace hA := hA.grow g3
  replace hB := hB.grow g3
  replace G := G.grow g3
  replace B1 := B1.grow g3
  have zg3 := g3.size
  refine Sas rfl ?_
  refine S_nl rfl rfl ?_
  refine th_n (hK4 _ _ ?_)
  clear hK4 K4
  refine wp_ret ?_
  refine th_r ?_
  clear hK2 K2
  refine ret_r1 rfl rfl ?_
  exact ⟨_, _, _, rfl, by rw [countsV_f hb1]; rfl, Nat.le_refl _, by rw [countsV_f hb1]; exact OI.nil _ _ _ _, G⟩
 first | with_reducible (replace hb1 := nb_nf hb1) | with_reducible (replace hb1 := nb_tf hb1) | with_reducible (replace hb1 := nb_bf hb1) | skip
 have va := valid_iff.1 hb1
 have hl := va.leads
 have h40 := va.le
 have hr4 := va.roots4
 refine wp_skip ?_
 refine th_n (hK2 _ _ ?_)
 clear hK2 K2
 refine wp_seq_k fun K5 hK5 => ?_
 refine Sb 9 rfl ?_
 refine S_val (Y_loadS U26 rfl sz26 rfl (B1.row (by rfl))) ?_
 refine S_call rfl en28 (spec_l7Counts_c _ _ _ _ _ _ _ (by assumption) (by assumption) (by omega) (by assumption)) ?_
 rintro v4 w4 ⟨b4, rfl, fb4, B4, g4⟩
 replace hA := hA.grow g4
 replace hB := hB.grow g4
 replace G := G.grow g4
 replace B1 := B1.grow g4
 have zg4 := g4.size
 have lb4 := B4.lt
 refine Sas rfl ?_
 refine S_nl rfl rfl ?_
 refine th_n (hK5 _ _ ?_)
 clear hK5 K5
 refine wp_ret ?_
 refine ret_r1 rfl rfl ?_
 exact ⟨_, _, _, rfl, by rw [countsV_t hb1, cntL_len], Nat.le_refl _, by rw [countsV_t hb1]; exact OI.of_blk' (by first | assumption | (simp only [Nat.zero_testBit] at B3; assumption)) (by omega), G⟩
set_option maxHeartbeats 4000000 in
set_option maxRecDepth 20000 in
theorem spec_l20Counted_c (bR p : Nat) (n : Int) (w : World) (RD : Rd w bR p) (hp : p ≤ 600000) (hn : n ≤ 9223372036854775807) :
    Calls Try.prog 18 #[.pointer (some ⟨bR, 0, none⟩), .int .i64 n] w (Ret fun v w' => ∃ (hD : LH) (ys : List Int) (A1 B1 C1 : Option Addr) (n1 c1 n2 c2 n3 c3 : Nat) (p2 : Nat), v = .agg #[.slice A1 n1 c1, .slice B1 n2 c2, .slice C1 n3 c3] ∧ n1 = hD.cells.length ∧ n2 = hD.roots.length ∧ n3 = ys.length ∧ hsize hD ≤ 300 ∧ ys.length ≤ 301 ∧ RC (fun i => w.heap.size ≤ i) w' A1 hD.cells ∧ R1 (fun i => w.heap.size ≤ i) w' B1 (ints hD.roots) ∧ R1 (fun i => w.heap.size ≤ i) w' C1 (ints ys) ∧ p2 ≤ p + 3000 ∧ Rd w' bR p2 ∧ Mod (fun i => i = bR) w w') := by
 have lbR := RD.lt
 obtain ⟨z0, hz0⟩ : ∃ x, x = w.heap.size := ⟨_, rfl⟩
 refine enter Try.func18 rfl Try.ntmps18 (L := [_,_,_,_,_,_,_,_,_,_,_,_,_,_,_,_,_,_,_,_,_,_,_,_,_,_,_,_,_,_,_,_,_,_,_,_,_,_,_,_,_,_,_,_,_,_,_,_,_,_,_,_,_]) rfl ?_
 have G := Mod.refl (fun i => i = bR) w
 refine wp_seq_k fun K1 hK1 => ?_
 refine Sb 53 rfl ?_
 refine S_alloc (cs := [_, _, _]) zr28 rfl ?_
 intro b1 w1 fb1 g1 B1
 have lb1 := B1.lt
 replace RD := RD.grow g1
 replace G := G.grow g1
 have zg1 := g1.size
 refine S_nl rfl rfl ?_
 refine th_n (hK1 _ _ ?_)
 clear hK1 K1
 refine wp_seq_k fun K2 hK2 => ?_
 refine Sb 53 rfl ?_
 refine Smv rfl ?_
 refine Smv rfl ?_
 refine S_call rfl en48 (spec_l20Heap_c _ _ _ _ RD (by omega) (by omega)) ?_
 rintro v2 w2 ⟨hD2, A2, B2, n12, c12, n22, c22, p2, rfl, hn12, hn22, hz2, hp2, RC2, RR2, RD2, m2⟩
 subst hn12
 subst hn22
 obtain ⟨h, rfl⟩ : ∃ x, x = hD2 := ⟨_, rfl⟩
 obtain ⟨AD, rfl⟩ : ∃ x, x = A2 := ⟨_, rfl⟩
 obtain ⟨BD, rfl⟩ : ∃ x, x = B2 := ⟨_, rfl⟩
 obtain ⟨cD, rfl⟩ : ∃ x, x = c12 := ⟨_, rfl⟩
 obtain ⟨dD, rfl⟩ : ∃ x, x = c22 := ⟨_, rfl⟩
 have hzD := hz2
 have hzcD := hsize_cells h
 obtain ⟨pD, rfl⟩ : ∃ x, x = p2 := ⟨_, rfl⟩
 have hpD := hp2
 obtain ⟨loD, hloD⟩ : ∃ x, x = w1.heap.size := ⟨_, rfl⟩
 obtain ⟨hiD, hhiD⟩ : ∃ x, x = w2.heap.size := ⟨_, rfl⟩
 replace RD := RD2
 clear RD2
 replace G := Mod.trans' G m2 (fun _ h _ => h) (fun i h hl => by first | exact h | omega | (dsimp only at h ⊢; omega))
 replace B1 := B1.mod m2 (by intro h; first | omega | (dsimp only at h; omega) | (rw [h] at hk; exact absurd hpS.1 hk.1))
 have zm2 := m2.size
 have hDA : RC (fun k => loD ≤ k ∧ k < hiD) w2 AD h.cells := RC.both RC2 RC2.below hloD hhiD
 have hDB : R1 (fun k => loD ≤ k ∧ k < hiD) w2 BD (ints h.roots) := R1.both RR2 RR2.below hloD hhiD
 refine S_alloc (cs := [_, _]) zr26 rfl ?_
 intro b3 w3 fb3 g3 B3
 have lb3 := B3.lt
 replace RD := RD.grow g3
 replace hDA := hDA.grow g3
 replace hDB := hDB.grow g3
 replace G := G.grow g3
 replace B1 := B1.grow g3
 have zg3 := g3.size
 refine S_stM (pre := []) (old := [_, _]) (post := []) (vs := [_, _]) sz26 rfl rfl rfl (by first | rfl | assumption) B3 rfl rfl ?_
 intro w4 m4 X4
 replace B3 := Blk.eq (ys := [_, _]) X4 rfl
 clear X4
 replace G := Mod.trans' G m4 (fun _ h _ => h) (fun i h hl => by first | exact h | omega | (dsimp only at h ⊢; omega))
 replace RD := RD.mod m4 (by intro k hk h; first | omega | (dsimp only at hk h; omega) | (dsimp only at hk; omega) | (rw [h] at hk; exact absurd hpS.1 hk.1))
 replace hDA := hDA.mod m4 (by intro k hk h; first | omega | (dsimp only at hk h; omega) | (dsimp only at hk; omega) | (rw [h] at hk; exact absurd hpS.1 hk.1))
 replace hDB := hDB.mod m4 (by intro k hk h; first | omega | (dsimp only at hk h; omega) | (dsimp only at hk; omega) | (rw [h] at hk; exact absurd hpS.1 hk.1))
 replace B1 := B1.mod m4 (by intro h; first | omega | (dsimp only at h; omega) | (rw [h] at hk; exact absurd hpS.1 hk.1))
 have zm4 := m4.size
 refine S_nl rfl rfl ?_
 refine th_n (hK2 _ _ ?_)
 clear hK2 K2
 refine wp_seq_k fun K3 hK3 => ?_
 refine D_start 6 53 (fun w => Mod (No) w) follows rfl rfl ?_
 intro w5 g5
 replace RD := RD.grow g5
 replace hDA := hDA.grow g5
 replace hDB := hDB.grow g5
 replace G := G.grow g5
 replace B1 := B1.grow g5
 replace B3 := B3.grow g5
 have zg5 := g5.size
 have GS5 := Mod.refl (No) w5
 have B3d5 := B3
 refine Dq (i := 0) rfl GS5 (fun _ hs => Y_loadS U26 rfl sz26 rfl (by first | exact hs.cells0 (B3.row (by rfl)))) ?_
 refine Dq (i := 1) rfl GS5 (fun _ hs => Y_loadS U26 rfl sz26 rfl (by first | exact hs.cells0 (B3.row (by rfl)))) ?_
 refine D_2 (i := 2) (j := 4) (by kernel_rfl) ?_ ?_
 ·
  refine E_call rfl rfl en49 (spec_RefCounts2_c _ _ _ h _ _ _ hDA hDB (by omega)) ?_
  rintro v6 w6 ⟨A6, q6, cap6, rfl, hq6, hqc6, O6, g6⟩
  replace RD := RD.grow g6
  replace hDA := hDA.grow g6
  replace hDB := hDB.grow g6
  replace G := G.grow g6
  replace GS5 := GS5.grow g6
  replace B1 := B1.grow g6
  replace B3 := B3.grow g6
  have zg6 := g6.size
  subst hq6
  obtain ⟨CD, rfl⟩ : ∃ x, x = A6 := ⟨_, rfl⟩
  obtain ⟨eD, rfl⟩ : ∃ x, x = cap6 := ⟨_, rfl⟩
  have heD := hqc6
  obtain ⟨loC, hloC⟩ : ∃ x, x = w5.heap.size := ⟨_, rfl⟩
  obtain ⟨hiC, hhiC⟩ : ∃ x, x = w6.heap.size := ⟨_, rfl⟩
  have hDC := (O6.lt).weak (Pr' := fun k => loC ≤ k ∧ k < hiC) (fun i hi => by first | omega | (dsimp only at hi ⊢; omega))
  refine ⟨GS5, ?_⟩
  refine Dq (i := 3) rfl GS5 (fun _ _ => Y_build (cs := [_, _, _]) zr28 pc28 rfl rfl) ?_
  refine D_1 (i := 4) (by kernel_rfl) ?_
  refine E_alloc (cs := [_, _, _]) rfl zr28 rfl (fun b7 w7 fb7 g7 B7 => ⟨GS5.grow g7, ?_⟩)
  have lb7 := B7.lt
  replace RD := RD.grow g7
  replace hDA := hDA.grow g7
  replace hDB := hDB.grow g7
  replace hDC := hDC.grow g7
  replace G := G.grow g7
  replace GS5 := GS5.grow g7
  replace B1 := B1.grow g7
  replace B3 := B3.grow g7
  have zg7 := g7.size
  refine D_1 (i := 5) (by kernel_rfl) ?_
  refine E_stM (pre := []) (old := [_, _, _]) (post := []) (vs := [_, _, _]) (i := 5) rfl sz28 rfl rfl rfl (by first | rfl | assumption) B7 rfl rfl ?_
  intro w8 m8 X8
  replace B7 := Blk.eq (ys := [_, _, _]) X8 rfl
  clear X8
  replace G := Mod.trans' G m8 (fun _ h _ => h) (fun i h hl => by first | exact h | omega | (dsimp only at h ⊢; omega))
  replace GS5 := GS5.above m8 (by intro i h; first | omega | (dsimp only at h; omega) | (rw [h] at hk; exact absurd hpS.1 hk.1))
  replace RD := RD.mod m8 (by intro k hk h; first | omega | (dsimp only at hk h; omega) | (dsimp only at hk; omega) | (rw [h] at hk; exact absurd hpS.1 hk.1))
  replace hDA := hDA.mod m8 (by intro k hk h; first | omega | (dsimp only at hk h; omega) | (dsimp only at hk; omega) | (rw [h] at hk; exact absurd hpS.1 hk.1))
  replace hDB := hDB.mod m8 (by intro k hk h; first | omega | (dsimp only at hk h; omega) | (dsimp only at hk; omega) | (rw [h] at hk; exact absurd hpS.1 hk.1))
  replace hDC := hDC.mod m8 (by intro k hk h; first | omega | (dsimp only at hk h; omega) | (dsimp only at hk; omega) | (rw [h] at hk; exact absurd hpS.1 hk.1))
  replace B1 := B1.mod m8 (by intro h; first | omega | (dsimp only at h; omega) | (rw [h] at hk; exact absurd hpS.1 hk.1))
  replace B3 := B3.mod m8 (by intro h; first | omega | (dsimp only at h; omega) | (rw [h] at hk; exact absurd hpS.1 hk.1))
  have zm8 := m8.size
  refine ⟨GS5, ?_⟩
  refine D_en (by kernel_rfl) rfl rfl ?_
  refine th_n (hK3 _ _ ?_)
  clear hK3 K3
  refine wp_seq_k fun K4 hK4 => ?_
  refine wp_seq_k fun K5 hK5 => ?_
  refine Sb 53 rfl ?_
  refine Smv rfl ?_
  refine S_call rfl en50 (spec_l20Rd_pick_c _ _ _ _ RD (by omega) (by omega)) ?_
  rintro v9 w9 ⟨k9, rfl, hk9, RD9, m9⟩
  obtain ⟨k1, rfl⟩ : ∃ x, x = k9 := ⟨_, rfl⟩
  have hk1 := hk9 (by decide)
  replace RD := RD9
  clear RD9
  replace G := Mod.trans' G m9 (fun _ h _ => h) (fun i h hl => by first | exact h | omega | (dsimp only at h ⊢; omega))
  replace hDA := hDA.mod m9 (by intro k hk h; first | omega | (dsimp only at hk h; omega) | (dsimp only at hk; omega) | (rw [h] at hk; exact absurd hpS.1 hk.1))
  replace hDB := hDB.mod m9 (by intro k hk h; first | omega | (dsimp only at hk h; omega) | (dsimp only at hk; omega) | (rw [h] at hk; exact absurd hpS.1 hk.1))
  replace hDC := hDC.mod m9 (by intro k hk h; first | omega | (dsimp only at hk h; omega) | (dsimp only at hk; omega) | (rw [h] at hk; exact absurd hpS.1 hk.1))
  replace B1 := B1.mod m9 (by intro h; first | omega | (dsimp only at h; omega) | (rw [h] at hk; exact absurd hpS.1 hk.1))
  replace B3 := B3.mod m9 (by intro h; first | omega | (dsimp only at h; omega) | (rw [h] at hk; exact absurd hpS.1 hk.1))
  replace B7 := B7.mod m9 (by intro h; first | omega | (dsimp only at h; omega) | (rw [h] at hk; exact absurd hpS.1 hk.1))
  have zm9 := m9.size
  refine S_val (Y_eql rfl rfl) ?_
  refine S_nl rfl rfl ?_
  refine th_n (hK5 _ _ ?_)
  clear hK5 K5
  refine D_cut (fun a' w' => ∃ (hQ : LH) (ys : List Int) (AQ BQ CQ : Option Addr) (cQ dQ eQ pQ hi9 : Nat) (P2 : Nat → Prop) (L : List Value), a' = ⟨L.toArray, []⟩ ∧ L.length = 53 ∧ L[0]? = some (.pointer (some ⟨bR, 0, none⟩)) ∧ L[1]? = some (.int .i64 n) ∧ L[4]? = some (.pointer (some ⟨b1, 0, none⟩)) ∧ L[6]? = some (.pointer (some ⟨b7, 0, none⟩)) ∧ Mod (fun i => i = bR ∨ i = b7) w9 w' ∧ (Blk w' b7 28 [.slice AQ hQ.cells.length cQ, .slice BQ hQ.roots.length dQ, .slice CQ ys.length eQ].toArray) ∧ (RC (fun k => ¬ P2 k ∧ z0 ≤ k ∧ k ≠ b1 ∧ k ≠ b7 ∧ k < hi9) w' AQ hQ.cells) ∧ (R1 (fun k => ¬ P2 k ∧ z0 ≤ k ∧ k ≠ b1 ∧ k ≠ b7 ∧ k < hi9) w' BQ (ints hQ.roots)) ∧ (OI (fun k => P2 k ∧ z0 ≤ k ∧ k ≠ b1 ∧ k ≠ b7 ∧ k < hi9) w' 3 CQ (ints ys)) ∧ (Rd w' bR pQ) ∧ (pQ ≤ p + 2500) ∧ (hsize hQ ≤ 300) ∧ (ys.length ≤ 300) ∧ (∀ y ∈ ys, 0 ≤ y ∧ y ≤ 124) ∧ (ys.length ≤ eQ) ∧ (hi9 ≤ w'.heap.size)) ?_ ?_
  ·
   have GC10 := Mod.refl (fun i => i = bR ∨ i = b7) w9
   refine S_if rfl (fun hb1 => ?_) (fun hb1 => ?_)
   ·
    replace hb1 := nb_tt hb1
    refine Sb 53 rfl ?_
    refine Smv rfl ?_
    refine S_call rfl en52 (spec_l20Program_c _ _ 0 _ RD (by omega) (by omega)) ?_
    rintro v12 w12 ⟨l12, A12, q12, cap12, p12, rfl, hq12, hqc12, hl12, hcs12, hp12, RO12, RD12, m12⟩
    obtain ⟨lP, rfl⟩ : ∃ x, x = l12 := ⟨_, rfl⟩
    subst hq12
    obtain ⟨pP, rfl⟩ : ∃ x, x = p12 := ⟨_, rfl⟩
    have hcsP := hcs12 (by decide)
    have hlP := hl12
    have hpP := hp12
    have hROP := RO12.below
    replace RD := RD12
    clear RD12
    replace G := Mod.trans' G m12 (fun _ h _ => h) (fun i h hl => by first | exact h | omega | (dsimp only at h ⊢; omega))
    replace GC10 := GC10.trn m12
    replace hDA := hDA.mod m12 (by intro k hk h; first | omega | (dsimp only at hk h; omega) | (dsimp only at hk; omega) | (rw [h] at hk; exact absurd hpS.1 hk.1))
    replace hDB := hDB.mod m12 (by intro k hk h; first | omega | (dsimp only at hk h; omega) | (dsimp only at hk; omega) | (rw [h] at hk; exact absurd hpS.1 hk.1))
    replace hDC := hDC.mod m12 (by intro k hk h; first | omega | (dsimp only at hk h; omega) | (dsimp only at hk; omega) | (rw [h] at hk; exact absurd hpS.1 hk.1))
    replace B1 := B1.mod m12 (by intro h; first | omega | (dsimp only at h; omega) | (rw [h] at hk; exact absurd hpS.1 hk.1))
    replace B3 := B3.mod m12 (by intro h; first | omega | (dsimp only at h; omega) | (rw [h] at hk; exact absurd hpS.1 hk.1))
    replace B7 := B7.mod m12 (by intro h; first | omega | (dsimp only at h; omega) | (rw [h] at hk; exact absurd hpS.1 hk.1))
    have zm12 := m12.size
    refine S_call rfl en51 (spec_RunCounted_c _ _ lP _ _ hROP (by omega) hcsP) ?_
    rintro v13 w13 ⟨A13, B13, C13, n113, c113, n213, c213, n313, c313, h13, P13, Q13, rfl, hn113, hn213, hn313, hnc13, va13, hPQ13, hQ13, RC13, RR13, OC13, g13⟩
    replace hDA := hDA.grow g13
    replace hDB := hDB.grow g13
    replace hDC := hDC.grow g13
    replace RD := RD.grow g13
    replace hROP := hROP.grow g13
    replace G := G.grow g13
    replace GC10 := GC10.grow g13
    replace B1 := B1.grow g13
    replace B3 := B3.grow g13
    replace B7 := B7.grow g13
    have zg13 := g13.size
    subst hn113
    subst hn213
    subst hn313
    obtain ⟨hF, rfl⟩ : ∃ x, x = h13 := ⟨_, rfl⟩
    have hvF := va13
    have hncF := hnc13
    obtain ⟨PF1, rfl⟩ : ∃ x, x = P13 := ⟨_, rfl⟩
    obtain ⟨PF2, rfl⟩ : ∃ x, x = Q13 := ⟨_, rfl⟩
    obtain ⟨loF, hloF⟩ : ∃ x, x = w12.heap.size := ⟨_, rfl⟩
    obtain ⟨hiF, hhiF⟩ : ∃ x, x = w13.heap.size := ⟨_, rfl⟩
    have hpqF := hPQ13
    have hqF := hQ13
    have hFA : RC (fun k => PF1 k ∧ loF ≤ k ∧ k < hiF) w13 _ hF.cells := RC.tight RC13 (fun k hk => by have h9 := (hpqF k hk).1; omega) hhiF
    have hFB : R1 (fun k => PF1 k ∧ loF ≤ k ∧ k < hiF) w13 _ (ints hF.roots) := R1.tight RR13 (fun k hk => by have h9 := (hpqF k hk).1; omega) hhiF
    have hFC : OI (fun k => PF2 k ∧ loF ≤ k ∧ k < hiF) w13 3 _ (ints (countsV hF)) := OI.tight OC13 (fun k hk => by have h9 := hqF k hk; omega) hhiF
    have hQz : hsize hF ≤ 300 := by have h9 := hvF.small; omega
    have hclF := countsV_len hF
    have hzcF := hsize_cells hF
    have hQA : RC (fun k => ¬ (PF2 k ∧ loF ≤ k ∧ k < hiF) ∧ z0 ≤ k ∧ k ≠ b1 ∧ k ≠ b7 ∧ k < hiF) w13 _ hF.cells := hFA.weak (fun k hk => ⟨fun h9 => (hpqF k hk.1).2 h9.1, by have h9 := hk; omega, by have h9 := hk; omega, by have h9 := hk; omega, by have h9 := hk; omega⟩)
    have hQB : R1 (fun k => ¬ (PF2 k ∧ loF ≤ k ∧ k < hiF) ∧ z0 ≤ k ∧ k ≠ b1 ∧ k ≠ b7 ∧ k < hiF) w13 _ (ints hF.roots) := hFB.weak (fun k hk => ⟨fun h9 => (hpqF k hk.1).2 h9.1, by have h9 := hk; omega, by have h9 := hk; omega, by have h9 := hk; omega, by have h9 := hk; omega⟩)
    have hQC : OI (fun k => (PF2 k ∧ loF ≤ k ∧ k < hiF) ∧ z0 ≤ k ∧ k ≠ b1 ∧ k ≠ b7 ∧ k < hiF) w13 3 _ (ints (countsV hF)) := hFC.weak (fun k hk => ⟨hk, by have h9 := hk; omega, by have h9 := hk; omega, by have h9 := hk; omega, by have h9 := hk; omega⟩)
    have hyr := countsV_rg (h := hF)
    have hyl := countsV_len hF
    refine S_stM (pre := []) (old := [_, _, _]) (post := []) (vs := [_, _, _]) sz28 rfl rfl rfl (by first | rfl | assumption) B7 rfl rfl ?_
    intro w14 m14 X14
    replace B7 := Blk.eq (ys := [_, _, _]) X14 rfl
    clear X14
    replace G := Mod.trans' G m14 (fun _ h _ => h) (fun i h hl => by first | exact h | omega | (dsimp only at h ⊢; omega))
    replace GC10 := GC10.trn m14
    replace hDA := hDA.mod m14 (by intro k hk h; first | omega | (dsimp only at hk h; omega) | (dsimp only at hk; omega) | (rw [h] at hk; exact absurd hpS.1 hk.1))
    replace hDB := hDB.mod m14 (by intro k hk h; first | omega | (dsimp only at hk h; omega) | (dsimp only at hk; omega) | (rw [h] at hk; exact absurd hpS.1 hk.1))
    replace hDC := hDC.mod m14 (by intro k hk h; first | omega | (dsimp only at hk h; omega) | (dsimp only at hk; omega) | (rw [h] at hk; exact absurd hpS.1 hk.1))
    replace RD := RD.mod m14 (by intro k hk h; first | omega | (dsimp only at hk h; omega) | (dsimp only at hk; omega) | (rw [h] at hk; exact absurd hpS.1 hk.1))
    replace hFA := hFA.mod m14 (by intro k hk h; first | omega | (dsimp only at hk h; omega) | (dsimp only at hk; omega) | (rw [h] at hk; exact absurd hpS.1 hk.1))
    replace hFB := hFB.mod m14 (by intro k hk h; first | omega | (dsimp only at hk h; omega) | (dsimp only at hk; omega) | (rw [h] at hk; exact absurd hpS.1 hk.1))
    replace hFC := hFC.mod m14 (by intro k hk h; first | omega | (dsimp only at hk h; omega) | (dsimp only at hk; omega) | (rw [h] at hk; exact absurd hpS.1 hk.1))
    replace hQA := hQA.mod m14 (by intro k hk h; first | omega | (dsimp only at hk h; omega) | (dsimp only at hk; omega) | (rw [h] at hk; exact absurd hpS.1 hk.1))
    replace hQB := hQB.mod m14 (by intro k hk h; first | omega | (dsimp only at hk h; omega) | (dsimp only at hk; omega) | (rw [h] at hk; exact absurd hpS.1 hk.1))
    replace hQC := hQC.mod m14 (by intro k hk h; first | omega | (dsimp only at hk h; omega) | (dsimp only at hk; omega) | (rw [h] at hk; exact absurd hpS.1 hk.1))
    replace B1 := B1.mod m14 (by intro h; first | omega | (dsimp only at h; omega) | (rw [h] at hk; exact absurd hpS.1 hk.1))
    replace B3 := B3.mod m14 (by intro h; first | omega | (dsimp only at h; omega) | (rw [h] at hk; exact absurd hpS.1 hk.1))
    have zm14 := m14.size
    refine S_nl rfl rfl ?_
    exact ⟨rfl, _, _, _, _, _, _, _, _, _, _, _, _, rfl, rfl, rfl, rfl, rfl, rfl, GC10, B7, hQA, hQB, hQC, RD, by omega, hQz, by omega, hyr, by assumption, by omega⟩
   replace hb1 := nb_tf hb1
   have hQA : RC (fun k => ¬ (loC ≤ k ∧ k < hiC) ∧ z0 ≤ k ∧ k ≠ b1 ∧ k ≠ b7 ∧ k < hiC) w9 _ h.cells := hDA.weak (fun k hk => ⟨by have h9 := hk; omega, by have h9 := hk; omega, by have h9 := hk; omega, by have h9 := hk; omega, by have h9 := hk; omega⟩)
   have hQB : R1 (fun k => ¬ (loC ≤ k ∧ k < hiC) ∧ z0 ≤ k ∧ k ≠ b1 ∧ k ≠ b7 ∧ k < hiC) w9 _ (ints h.roots) := hDB.weak (fun k hk => ⟨by have h9 := hk; omega, by have h9 := hk; omega, by have h9 := hk; omega, by have h9 := hk; omega, by have h9 := hk; omega⟩)
   have hQC : OI (fun k => (loC ≤ k ∧ k < hiC) ∧ z0 ≤ k ∧ k ≠ b1 ∧ k ≠ b7 ∧ k < hiC) w9 3 _ (ints (countsV h)) := hDC.weak (fun k hk => ⟨hk, by have h9 := hk; omega, by have h9 := hk; omega, by have h9 := hk; omega, by have h9 := hk; omega⟩)
   have hyr := countsV_rg (h := h)
   have hyl := countsV_len h
   have hQz := hzD
   refine wp_skip ?_
   exact ⟨rfl, _, _, _, _, _, _, _, _, _, _, _, _, rfl, rfl, rfl, rfl, rfl, rfl, GC10, B7, hQA, hQB, hQC, RD, by omega, hQz, by omega, hyr, by assumption, by omega⟩
  rintro a' w11 ⟨hQ, ys, AQ, BQ, CQ, cQ, dQ, eQ, pQ, hi9, P2, L, rfl, hL, hs0, hs1, hs4, hs6, gJ11, B7, hQA, hQB, hQC, RD, hpQ, hQz, hyl, hyr, heQ, hh9⟩
  obtain ⟨x, rfl⟩ : ∃ x : Nat → Value, L = [(.pointer (some ⟨bR, 0, none⟩)), (.int .i64 n), x 2, x 3, (.pointer (some ⟨b1, 0, none⟩)), x 5, (.pointer (some ⟨b7, 0, none⟩)), x 7, x 8, x 9, x 10, x 11, x 12, x 13, x 14, x 15, x 16, x 17, x 18, x 19, x 20, x 21, x 22, x 23, x 24, x 25, x 26, x 27, x 28, x 29, x 30, x 31, x 32, x 33, x 34, x 35, x 36, x 37, x 38, x 39, x 40, x 41, x 42, x 43, x 44, x 45, x 46, x 47, x 48, x 49, x 50, x 51, x 52] := ⟨fun i => L.getD i undef, (slots_eta L 53 hL).trans (by show [L.getD 0 undef, L.getD 1 undef, L.getD 2 undef, L.getD 3 undef, L.getD 4 undef, L.getD 5 undef, L.getD 6 undef, L.getD 7 undef, L.getD 8 undef, L.getD 9 undef, L.getD 10 undef, L.getD 11 undef, L.getD 12 undef, L.getD 13 undef, L.getD 14 undef, L.getD 15 undef, L.getD 16 undef, L.getD 17 undef, L.getD 18 undef, L.getD 19 undef, L.getD 20 undef, L.getD 21 undef, L.getD 22 undef, L.getD 23 undef, L.getD 24 undef, L.getD 25 undef, L.getD 26 undef, L.getD 27 undef, L.getD 28 undef, L.getD 29 undef, L.getD 30 undef, L.getD 31 undef, L.getD 32 undef, L.getD 33 undef, L.getD 34 undef, L.getD 35 undef, L.getD 36 undef, L.getD 37 undef, L.getD 38 undef, L.getD 39 undef, L.getD 40 undef, L.getD 41 undef, L.getD 42 undef, L.getD 43 undef, L.getD 44 undef, L.getD 45 undef, L.getD 46 undef, L.getD 47 undef, L.getD 48 undef, L.getD 49 undef, L.getD 50 undef, L.getD 51 undef, L.getD 52 undef] = _; rw [slot_d hs0, slot_d hs1, slot_d hs4, slot_d hs6])⟩
  clear hL hs0 hs1 hs4 hs6
  replace G := Mod.trans' G gJ11 (fun _ h _ => h) (fun i h hl => by first | exact h | omega | (dsimp only at h ⊢; omega))
  replace hDA := hDA.mod gJ11 (by intro k hk h; first | omega | (dsimp only at hk h; omega) | (dsimp only at hk; omega) | (rw [h] at hk; exact absurd hpS.1 hk.1))
  replace hDB := hDB.mod gJ11 (by intro k hk h; first | omega | (dsimp only at hk h; omega) | (dsimp only at hk; omega) | (rw [h] at hk; exact absurd hpS.1 hk.1))
  replace hDC := hDC.mod gJ11 (by intro k hk h; first | omega | (dsimp only at hk h; omega) | (dsimp only at hk; omega) | (rw [h] at hk; exact absurd hpS.1 hk.1))
  replace B1 := B1.mod gJ11 (by intro h; first | omega | (dsimp only at h; omega) | (rw [h] at hk; exact absurd hpS.1 hk.1))
  replace B3 := B3.mod gJ11 (by intro h; first | omega | (dsimp only at h; omega) | (rw [h] at hk; exact absurd hpS.1 hk.1))
  have zgJ11 := gJ11.size
  have lb7 := B7.lt
  refine th_n (hK4 _ _ ?_)
  clear hK4 K4
  refine wp_seq_k fun K6 hK6 => ?_
  refine wp_seq_k fun K7 hK7 => ?_
  refine Sb 53 rfl ?_
  refine S_val (Y_field U28 rfl fz28_1 (by decide) rfl) ?_
  refine S_val (Y_load U24 rfl rfl (B7.at (by rfl))) ?_
  refine S_val (Y_len U24 rfl) ?_
  refine S_val (Y_gtr rfl rfl) ?_
  refine Smv rfl ?_
  refine S_g 25 rfl (fun hb1 => ?_) (fun hb1 => ?_)
  ·
   replace hb1 := nb_tt hb1
   refine S_on rfl rfl ?_
   refine Smv rfl ?_
   refine S_on rfl rfl ?_
   refine Smv rfl ?_
   refine S_on rfl rfl ?_
   refine S_call rfl en53 (spec_l20Rd_odd_c _ _ _ _ RD (by omega) (by omega)) ?_
   rintro v15 w15 ⟨r15, p15, rfl, hr15, hp15, RD15, m15⟩
   obtain ⟨r9, rfl⟩ : ∃ x, x = r15 := ⟨_, rfl⟩
   have hr9 := hr15
   replace RD := RD15
   clear RD15
   replace G := Mod.trans' G m15 (fun _ h _ => h) (fun i h hl => by first | exact h | omega | (dsimp only at h ⊢; omega))
   replace hQA := hQA.mod m15 (by intro k hk h; first | omega | (dsimp only at hk h; omega) | (dsimp only at hk; omega) | (rw [h] at hk; exact absurd hpS.1 hk.1))
   replace hQB := hQB.mod m15 (by intro k hk h; first | omega | (dsimp only at hk h; omega) | (dsimp only at hk; omega) | (rw [h] at hk; exact absurd hpS.1 hk.1))
   replace hQC := hQC.mod m15 (by intro k hk h; first | omega | (dsimp only at hk h; omega) | (dsimp only at hk; omega) | (rw [h] at hk; exact absurd hpS.1 hk.1))
   replace B1 := B1.mod m15 (by intro h; first | omega | (dsimp only at h; omega) | (rw [h] at hk; exact absurd hpS.1 hk.1))
   replace B7 := B7.mod m15 (by intro h; first | omega | (dsimp only at h; omega) | (rw [h] at hk; exact absurd hpS.1 hk.1))
   have zm15 := m15.size
   refine S_val (Y_pickT rfl rfl) ?_
   refine S_nl rfl rfl ?_
   refine th_n (hK7 _ _ ?_)
   clear hK7 K7
   refine S_if rfl (fun hb2 => ?_) (fun hb2 => ?_)
   ·
    first | with_reducible (replace hb2 := nb_nt hb2) | with_reducible (replace hb2 := nb_tt hb2) | with_reducible (replace hb2 := nb_bt hb2) | skip
    refine wp_seq_k fun K8 hK8 => ?_
    refine Sb 53 rfl ?_
    refine Smv rfl ?_
    refine S_call rfl en50 (spec_l20Rd_pick_c _ _ _ _ RD (by omega) (by omega)) ?_
    rintro v16 w16 ⟨k16, rfl, hk16, RD16, m16⟩
    obtain ⟨k2, rfl⟩ : ∃ x, x = k16 := ⟨_, rfl⟩
    have hk2 := hk16 (by decide)
    replace RD := RD16
    clear RD16
    replace G := Mod.trans' G m16 (fun _ h _ => h) (fun i h hl => by first | exact h | omega | (dsimp only at h ⊢; omega))
    replace hQA := hQA.mod m16 (by intro k hk h; first | omega | (dsimp only at hk h; omega) | (dsimp only at hk; omega) | (rw [h] at hk; exact absurd hpS.1 hk.1))
    replace hQB := hQB.mod m16 (by intro k hk h; first | omega | (dsimp only at hk h; omega) | (dsimp only at hk; omega) | (rw [h] at hk; exact absurd hpS.1 hk.1))
    replace hQC := hQC.mod m16 (by intro k hk h; first | omega | (dsimp only at hk h; omega) | (dsimp only at hk; omega) | (rw [h] at hk; exact absurd hpS.1 hk.1))
    replace B1 := B1.mod m16 (by intro h; first | omega | (dsimp only at h; omega) | (rw [h] at hk; exact absurd hpS.1 hk.1))
    replace B7 := B7.mod m16 (by intro h; first | omega | (dsimp only at h; omega) | (rw [h] at hk; exact absurd hpS.1 hk.1))
    have zm16 := m16.size
    refine S_val (Y_eql rfl rfl) ?_
    refine S_nl rfl rfl ?_
    refine th_n (hK8 _ _ ?_)
    clear hK8 K8
    refine S_if rfl (fun hb3 => ?_) (fun hb3 => ?_)
    ·
     replace hb3 := nb_tt hb3
     refine wp_seq_k fun K9 hK9 => ?_
     refine Sb 53 rfl ?_
     refine Smv rfl ?_
     refine S_val (Y_field U28 rfl fz28_1 (by decide) rfl) ?_
     refine S_val (Y_load U24 rfl rfl (B7.at (by rfl))) ?_
     refine S_val (Y_len U24 rfl) ?_
     refine S_call rfl en50 (spec_l20Rd_pick_c _ _ _ _ RD (by omega) (by omega)) ?_
     rintro v17 w17 ⟨k17, rfl, hk17, RD17, m17⟩
     obtain ⟨k3, rfl⟩ : ∃ x, x = k17 := ⟨_, rfl⟩
     have hk3 := hk17 (by omega)
     replace RD := RD17
     clear RD17
     replace G := Mod.trans' G m17 (fun _ h _ => h) (fun i h hl => by first | exact h | omega | (dsimp only at h ⊢; omega))
     replace hQA := hQA.mod m17 (by intro k hk h; first | omega | (dsimp only at hk h; omega) | (dsimp only at hk; omega) | (rw [h] at hk; exact absurd hpS.1 hk.1))
     replace hQB := hQB.mod m17 (by intro k hk h; first | omega | (dsimp only at hk h; omega) | (dsimp only at hk; omega) | (rw [h] at hk; exact absurd hpS.1 hk.1))
     replace hQC := hQC.mod m17 (by intro k hk h; first | omega | (dsimp only at hk h; omega) | (dsimp only at hk; omega) | (rw [h] at hk; exact absurd hpS.1 hk.1))
     replace B1 := B1.mod m17 (by intro h; first | omega | (dsimp only at h; omega) | (rw [h] at hk; exact absurd hpS.1 hk.1))
     replace B7 := B7.mod m17 (by intro h; first | omega | (dsimp only at h; omega) | (rw [h] at hk; exact absurd hpS.1 hk.1))
     have zm17 := m17.size
     have hk3l : k3 < ys.length := by omega
     have hrk := hyr _ (List.getElem_mem hk3l)
     obtain ⟨bS, postS, eS, hpS, _⟩ := hQC (ints_nz (by omega))
     subst eS
     try dsimp only at hpS
     refine Sas rfl ?_
     refine S_nl rfl rfl ?_
     refine th_n (hK9 _ _ ?_)
     clear hK9 K9
     refine D_start 11 53 (fun w => Mod (fun i => i = bS) w) follows rfl rfl ?_
     intro w18 g18
     replace hQA := hQA.grow g18
     replace hQB := hQB.grow g18
     replace hQC := hQC.grow g18
     replace RD := RD.grow g18
     replace G := G.grow g18
     replace B1 := B1.grow g18
     replace B7 := B7.grow g18
     have zg18 := g18.size
     have GS18 := Mod.refl (fun i => i = bS) w18
     obtain ⟨g5, o5, e5, hp5, hc5⟩ := hQC.r1.int (k := k3) hk3l
     cases e5
     refine Dq (i := 0) rfl GS18 (fun _ _ => Y_field U28 rfl fz28_1 (by decide) rfl) ?_
     refine Dq (i := 1) rfl GS18 (fun _ hs => Y_load U24 rfl rfl (by first | exact hs.cell (B7.at (by rfl)) (by intro h; first | omega | (dsimp only at h; omega) | (rw [h] at hk; exact absurd hpS.1 hk.1)))) ?_
     refine Dq (i := 2) rfl GS18 (fun _ _ => Y_move rfl) ?_
     refine Dq (i := 3) rfl GS18 (fun _ _ => Y_field U28 rfl fz28_1 (by decide) rfl) ?_
     refine Dq (i := 4) rfl GS18 (fun _ hs => Y_load U24 rfl rfl (by first | exact hs.cell (B7.at (by rfl)) (by intro h; first | omega | (dsimp only at h; omega) | (rw [h] at hk; exact absurd hpS.1 hk.1)))) ?_
     refine Dq (i := 5) rfl GS18 (fun _ _ => Y_move rfl) ?_
     refine Dq (i := 6) rfl GS18 (fun _ _ => Y_index U24 sz3 rfl rfl (by first | assumption | omega)) ?_
     refine D_1 (i := 7) (by kernel_rfl) ?_
     refine E_val (i := 7) rfl (Y_load U3 rfl rfl hc5) GS18 ?_
     refine Dq (i := 8) rfl GS18 (fun _ _ => Y_add (c := ys[k3] + 1) rfl rfl rfl (by omega) (by omega)) ?_
     refine Dq (i := 9) rfl GS18 (fun _ _ => Y_index U24 sz3 rfl rfl (by first | assumption | omega)) ?_
     refine D_1 (i := 10) (by kernel_rfl) ?_
     refine E_of (i := 10) rfl (Ys_row sz3 hQC (k := k3) (by rw [ints_len]; omega) rfl rfl rfl rfl) ?_
     rintro w20 ⟨m20, hp20, OZ⟩
     try dsimp only at hp20
     replace G := Mod.trans' G m20 (fun _ h _ => h) (fun i h hl => by first | exact h | omega | (dsimp only at h ⊢; omega))
     replace GS18 := GS18.trn m20
     replace hQA := hQA.mod m20 (by intro k hk h; first | omega | (dsimp only at hk h; omega) | (dsimp only at hk; omega) | (rw [h] at hk; exact absurd hpS.1 hk.1))
     replace hQB := hQB.mod m20 (by intro k hk h; first | omega | (dsimp only at hk h; omega) | (dsimp only at hk; omega) | (rw [h] at hk; exact absurd hpS.1 hk.1))
     replace RD := RD.mod m20 (by intro k hk h; first | omega | (dsimp only at hk h; omega) | (dsimp only at hk; omega) | (rw [h] at hk; exact absurd hpS.1 hk.1))
     replace B1 := B1.mod m20 (by intro h; first | omega | (dsimp only at h; omega) | (rw [h] at hk; exact absurd hpS.1 hk.1))
     replace B7 := B7.mod m20 (by intro h; first | omega | (dsimp only at h; omega) | (rw [h] at hk; exact absurd hpS.1 hk.1))
     have zm20 := m20.size
     rw [ints_set] at OZ
     replace hQC := OZ
     clear OZ
     refine ⟨GS18, ?_⟩
     refine D_en (by kernel_rfl) rfl rfl ?_
     refine th_n (hK6 _ _ ?_)
     clear hK6 K6
     refine wp_seq_k fun K10 hK10 => ?_
     refine Sb 53 rfl ?_
     refine S_val (Y_loadS U28 rfl sz28 rfl (B7.row (by rfl))) ?_
     refine S_stM (pre := []) (old := [_, _, _]) (post := []) (vs := [_, _, _]) sz28 rfl rfl rfl (by first | rfl | assumption) B1 rfl rfl ?_
     intro w21 m21 X21
     replace B1 := Blk.eq (ys := [_, _, _]) X21 rfl
     clear X21
     replace G := Mod.trans' G m21 (fun _ h _ => h) (fun i h hl => by first | exact h | omega | (dsimp only at h ⊢; omega))
     replace hQA := hQA.mod m21 (by intro k hk h; first | omega | (dsimp only at hk h; omega) | (dsimp only at hk; omega) | (rw [h] at hk; exact absurd hpS.1 hk.1))
     replace hQB := hQB.mod m21 (by intro k hk h; first | omega | (dsimp only at hk h; omega) | (dsimp only at hk; omega) | (rw [h] at hk; exact absurd hpS.1 hk.1))
     replace hQC := hQC.mod m21 (by intro k hk h; first | omega | (dsimp only at hk h; omega) | (dsimp only at hk; omega) | (rw [h] at hk; exact absurd hpS.1 hk.1))
     replace RD := RD.mod m21 (by intro k hk h; first | omega | (dsimp only at hk h; omega) | (dsimp only at hk; omega) | (rw [h] at hk; exact absurd hpS.1 hk.1))
     replace B7 := B7.mod m21 (by intro h; first | omega | (dsimp only at h; omega) | (rw [h] at hk; exact absurd hpS.1 hk.1))
     have zm21 := m21.size
     refine S_nl rfl rfl ?_
     refine th_n (hK10 _ _ ?_)
     clear hK10 K10
     refine wp_ret ?_
     refine ret_rc (cs := [_, _, _]) U28 rfl sz28 rfl rfl (B1.row (by rfl)) ?_
     first | exact ⟨hQ, ys, _, _, _, _, _, _, _, _, _, _, rfl, rfl, rfl, rfl, hQz, by omega, hQA.weak (fun i hi => by have h9 := hi.2.1; omega), hQB.weak (fun i hi => by have h9 := hi.2.1; omega), hQC.r1.weak (fun i hi => by have h9 := hi.2.1; omega), by omega, RD, G⟩ | exact ⟨hQ, ys.set k3 (ys[k3] + 1), _, _, _, _, _, _, _, _, _, _, rfl, rfl, rfl, (List.length_set ..).symm, hQz, by rw [List.length_set]; omega, hQA.weak (fun i hi => by have h9 := hi.2.1; omega), hQB.weak (fun i hi => by have h9 := hi.2.1; omega), hQC.r1.weak (fun i hi => by have h9 := hi.2.1; omega), by omega, RD, G⟩ | exact ⟨hQ, ys.drop (0 + 1), _, _, _, _, _, _, _, _, _, _, rfl, rfl, rfl, by rw [List.length_drop], hQz, by rw [List.length_drop]; omega, hQA.weak (fun i hi => by have h9 := hi.2.1; omega), hQB.weak (fun i hi => by have h9 := hi.2.1; omega), hR15.weak (fun i hi => by have h9 := hi.2.1; omega), by omega, RD, G⟩
    replace hb3 := nb_tf hb3
    obtain ⟨A15, hs15, hR15⟩ := R1.rest (p := 0) (n := ys.length) (j := 1) (cap := eQ) (show R1 _ _ CQ (ints (ys.drop 0)) from hQC.r1) (by omega) (by omega) heQ
    refine Sb 53 rfl ?_
    refine S_val (Y_field U28 rfl fz28_1 (by decide) rfl) ?_
    refine S_val (Y_load U24 rfl rfl (B7.at (by rfl))) ?_
    refine S_val (Yl.eq hs15 (Y_sliceL U24 sz3 rfl (j := 1) rfl (by omega))) ?_
    refine S_val (Y_field U28 rfl fz28_1 (by decide) rfl) ?_
    refine S_stM (pre := [_, _]) (old := [_]) (post := []) (vs := [_]) sz24 rfl rfl rfl (by first | rfl | assumption) B7 rfl rfl ?_
    intro w22 m22 X22
    replace B7 := Blk.eq (ys := [_, _, _]) X22 rfl
    clear X22
    replace G := Mod.trans' G m22 (fun _ h _ => h) (fun i h hl => by first | exact h | omega | (dsimp only at h ⊢; omega))
    replace hQA := hQA.mod m22 (by intro k hk h; first | omega | (dsimp only at hk h; omega) | (dsimp only at hk; omega) | (rw [h] at hk; exact absurd hpS.1 hk.1))
    replace hQB := hQB.mod m22 (by intro k hk h; first | omega | (dsimp only at hk h; omega) | (dsimp only at hk; omega) | (rw [h] at hk; exact absurd hpS.1 hk.1))
    replace hQC := hQC.mod m22 (by intro k hk h; first | omega | (dsimp only at hk h; omega) | (dsimp only at hk; omega) | (rw [h] at hk; exact absurd hpS.1 hk.1))
    replace RD := RD.mod m22 (by intro k hk h; first | omega | (dsimp only at hk h; omega) | (dsimp only at hk; omega) | (rw [h] at hk; exact absurd hpS.1 hk.1))
    replace hR15 := hR15.mod m22 (by intro k hk h; first | omega | (dsimp only at hk h; omega) | (dsimp only at hk; omega) | (rw [h] at hk; exact absurd hpS.1 hk.1))
    replace B1 := B1.mod m22 (by intro h; first | omega | (dsimp only at h; omega) | (rw [h] at hk; exact absurd hpS.1 hk.1))
    have zm22 := m22.size
    refine S_nl rfl rfl ?_
    refine th_n (hK6 _ _ ?_)
    clear hK6 K6
    refine wp_seq_k fun K11 hK11 => ?_
    refine Sb 53 rfl ?_
    refine S_val (Y_loadS U28 rfl sz28 rfl (B7.row (by rfl))) ?_
    refine S_stM (pre := []) (old := [_, _, _]) (post := []) (vs := [_, _, _]) sz28 rfl rfl rfl (by first | rfl | assumption) B1 rfl rfl ?_
    intro w23 m23 X23
    replace B1 := Blk.eq (ys := [_, _, _]) X23 rfl
    clear X23
    replace G := Mod.trans' G m23 (fun _ h _ => h) (fun i h hl => by first | exact h | omega | (dsimp only at h ⊢; omega))
    replace hQA := hQA.mod m23 (by intro k hk h; first | omega | (dsimp only at hk h; omega) | (dsimp only at hk; omega) | (rw [h] at hk; exact absurd hpS.1 hk.1))
    replace hQB := hQB.mod m23 (by intro k hk h; first | omega | (dsimp only at hk h; omega) | (dsimp only at hk; omega) | (rw [h] at hk; exact absurd hpS.1 hk.1))
    replace hQC := hQC.mod m23 (by intro k hk h; first | omega | (dsimp only at hk h; omega) | (dsimp only at hk; omega) | (rw [h] at hk; exact absurd hpS.1 hk.1))
    replace RD := RD.mod m23 (by intro k hk h; first | omega | (dsimp only at hk h; omega) | (dsimp only at hk; omega) | (rw [h] at hk; exact absurd hpS.1 hk.1))
    replace hR15 := hR15.mod m23 (by intro k hk h; first | omega | (dsimp only at hk h; omega) | (dsimp only at hk; omega) | (rw [h] at hk; exact absurd hpS.1 hk.1))
    replace B7 := B7.mod m23 (by intro h; first | omega | (dsimp only at h; omega) | (rw [h] at hk; exact absurd hpS.1 hk.1))
    have zm23 := m23.size
    refine S_nl rfl rfl ?_
    refine th_n (hK11 _ _ ?_)
    clear hK11 K11
    refine wp_ret ?_
    refine ret_rc (cs := [_, _, _]) U28 rfl sz28 rfl rfl (B1.row (by rfl)) ?_
    first | exact ⟨hQ, ys, _, _, _, _, _, _, _, _, _, _, rfl, rfl, rfl, rfl, hQz, by omega, hQA.weak (fun i hi => by have h9 := hi.2.1; omega), hQB.weak (fun i hi => by have h9 := hi.2.1; omega), hQC.r1.weak (fun i hi => by have h9 := hi.2.1; omega), by omega, RD, G⟩ | exact ⟨hQ, ys.set k3 (ys[k3] + 1), _, _, _, _, _, _, _, _, _, _, rfl, rfl, rfl, (List.length_set ..).symm, hQz, by rw [List.length_set]; omega, hQA.weak (fun i hi => by have h9 := hi.2.1; omega), hQB.weak (fun i hi => by have h9 := hi.2.1; omega), hQC.r1.weak (fun i hi => by have h9 := hi.2.1; omega), by omega, RD, G⟩ | exact ⟨hQ, ys.drop (0 + 1), _, _, _, _, _, _, _, _, _, _, rfl, rfl, rfl, by rw [List.length_drop], hQz, by rw [List.length_drop]; omega, hQA.weak (fun i hi => by have h9 := hi.2.1; omega), hQB.weak (fun i hi => by have h9 := hi.2.1; omega), hR15.weak (fun i hi => by have h9 := hi.2.1; omega), by omega, RD, G⟩
   first | with_reducible (replace hb2 := nb_nf hb2) | with_reducible (replace hb2 := nb_tf hb2) | with_reducible (replace hb2 := nb_bf hb2) | skip
   refine wp_skip ?_
   refine th_n (hK6 _ _ ?_)
   clear hK6 K6
   refine wp_seq_k fun K12 hK12 => ?_
   refine Sb 53 rfl ?_
   refine S_val (Y_loadS U28 rfl sz28 rfl (B7.row (by rfl))) ?_
   refine S_stM (pre := []) (old := [_, _, _]) (post := []) (vs := [_, _, _]) sz28 rfl rfl rfl (by first | rfl | assumption) B1 rfl rfl ?_
   intro w24 m24 X24
   replace B1 := Blk.eq (ys := [_, _, _]) X24 rfl
   clear X24
   replace G := Mod.trans' G m24 (fun _ h _ => h) (fun i h hl => by first | exact h | omega | (dsimp only at h ⊢; omega))
   replace hQA := hQA.mod m24 (by intro k hk h; first | omega | (dsimp only at hk h; omega) | (dsimp only at hk; omega) | (rw [h] at hk; exact absurd hpS.1 hk.1))
   replace hQB := hQB.mod m24 (by intro k hk h; first | omega | (dsimp only at hk h; omega) | (dsimp only at hk; omega) | (rw [h] at hk; exact absurd hpS.1 hk.1))
   replace hQC := hQC.mod m24 (by intro k hk h; first | omega | (dsimp only at hk h; omega) | (dsimp only at hk; omega) | (rw [h] at hk; exact absurd hpS.1 hk.1))
   replace RD := RD.mod m24 (by intro k hk h; first | omega | (dsimp only at hk h; omega) | (dsimp only at hk; omega) | (rw [h] at hk; exact absurd hpS.1 hk.1))
   replace B7 := B7.mod m24 (by intro h; first | omega | (dsimp only at h; omega) | (rw [h] at hk; exact absurd hpS.1 hk.1))
   have zm24 := m24.size
   refine S_nl rfl rfl ?_
   refine th_n (hK12 _ _ ?_)
   clear hK12 K12
   refine wp_ret ?_
   refine ret_rc (cs := [_, _, _]) U28 rfl sz28 rfl rfl (B1.row (by rfl)) ?_
   first | exact ⟨hQ, ys, _, _, _, _, _, _, _, _, _, _, rfl, rfl, rfl, rfl, hQz, by omega, hQA.weak (fun i hi => by have h9 := hi.2.1; omega), hQB.weak (fun i hi => by have h9 := hi.2.1; omega), hQC.r1.weak (fun i hi => by have h9 := hi.2.1; omega), by omega, RD, G⟩ | exact ⟨hQ, ys.set k3 (ys[k3] + 1), _, _, _, _, _, _, _, _, _, _, rfl, rfl, rfl, (List.length_set ..).symm, hQz, by rw [List.length_set]; omega, hQA.weak (fun i hi => by have h9 := hi.2.1; omega), hQB.weak (fun i hi => by have h9 := hi.2.1; omega), hQC.r1.weak (fun i hi => by have h9 := hi.2.1; omega), by omega, RD, G⟩ | exact ⟨hQ, ys.drop (0 + 1), _, _, _, _, _, _, _, _, _, _, rfl, rfl, rfl, by rw [List.length_drop], hQz, by rw [List.length_drop]; omega, hQA.weak (fun i hi => by have h9 := hi.2.1; omega), hQB.weak (fun i hi => by have h9 := hi.2.1; omega), hR15.weak (fun i hi => by have h9 := hi.2.1; omega), by omega, RD, G⟩
  replace hb1 := nb_tf hb1
  refine S_off rfl rfl ?_
  refine S_off rfl rfl ?_
  refine S_off rfl rfl ?_
  refine S_val (Y_pickF rfl rfl) ?_
  refine S_nl rfl rfl ?_
  refine th_n (hK7 _ _ ?_)
  clear hK7 K7
  refine S_ifF rfl ?_
  refine wp_skip ?_
  refine th_n (hK6 _ _ ?_)
  clear hK6 K6
  refine wp_seq_k fun K13 hK13 => ?_
  refine Sb 53 rfl ?_
  refine S_val (Y_loadS U28 rfl sz28 rfl (B7.row (by rfl))) ?_
  refine S_stM (pre := []) (old := [_, _, _]) (post := []) (vs := [_, _, _]) sz28 rfl rfl rfl (by first | rfl | assumption) B1 rfl rfl ?_
  intro w25 m25 X25
  replace B1 := Blk.eq (ys := [_, _, _]) X25 rfl
  clear X25
  replace G := Mod.trans' G m25 (fun _ h _ => h) (fun i h hl => by first | exact h | omega | (dsimp only at h ⊢; omega))
  replace hQA := hQA.mod m25 (by intro k hk h; first | omega | (dsimp only at hk h; omega) | (dsimp only at hk; omega) | (rw [h] at hk; exact absurd hpS.1 hk.1))
  replace hQB := hQB.mod m25 (by intro k hk h; first | omega | (dsimp only at hk h; omega) | (dsimp only at hk; omega) | (rw [h] at hk; exact absurd hpS.1 hk.1))
  replace hQC := hQC.mod m25 (by intro k hk h; first | omega | (dsimp only at hk h; omega) | (dsimp only at hk; omega) | (rw [h] at hk; exact absurd hpS.1 hk.1))
  replace RD := RD.mod m25 (by intro k hk h; first | omega | (dsimp only at hk h; omega) | (dsimp only at hk; omega) | (rw [h] at hk; exact absurd hpS.1 hk.1))
  replace B7 := B7.mod m25 (by intro h; first | omega | (dsimp only at h; omega) | (rw [h] at hk; exact absurd hpS.1 hk.1))
  have zm25 := m25.size
  refine S_nl rfl rfl ?_
  refine th_n (hK13 _ _ ?_)
  clear hK13 K13
  refine wp_ret ?_
  refine ret_rc (cs := [_, _, _]) U28 rfl sz28 rfl rfl (B1.row (by rfl)) ?_
  first | exact ⟨hQ, ys, _, _, _, _, _, _, _, _, _, _, rfl, rfl, rfl, rfl, hQz, by omega, hQA.weak (fun i hi => by have h9 := hi.2.1; omega), hQB.weak (fun i hi => by have h9 := hi.2.1; omega), hQC.r1.weak (fun i hi => by have h9 := hi.2.1; omega), by omega, RD, G⟩ | exact ⟨hQ, ys.set k3 (ys[k3] + 1), _, _, _, _, _, _, _, _, _, _, rfl, rfl, rfl, (List.length_set ..).symm, hQz, by rw [List.length_set]; omega, hQA.weak (fun i hi => by have h9 := hi.2.1; omega), hQB.weak (fun i hi => by have h9 := hi.2.1; omega), hQC.r1.weak (fun i hi => by have h9 := hi.2.1; omega), by omega, RD, G⟩ | exact ⟨hQ, ys.drop (0 + 1), _, _, _, _, _, _, _, _, _, _, rfl, rfl, rfl, by rw [List.length_drop], hQz, by rw [List.length_drop]; omega, hQA.weak (fun i hi => by have h9 := hi.2.1; omega), hQB.weak (fun i hi => by have h9 := hi.2.1; omega), hR15.weak (fun i hi => by have h9 := hi.2.1; omega), by omega, RD, G⟩
 refine E_alloc (cs := [_, _, _]) rfl zr28 rfl (fun b26 w26 fb26 g26 B26 => ⟨GS5.grow g26, ?_⟩)
 have lb26 := B26.lt
 replace RD := RD.grow g26
 replace hDA := hDA.grow g26
 replace hDB := hDB.grow g26
 replace G := G.grow g26
 replace GS5 := GS5.grow g26
 replace B1 := B1.grow g26
 replace B3 := B3.grow g26
 have zg26 := g26.size
 refine D_1 (i := 2) (by kernel_rfl) ?_
 refine E_call rfl rfl en49 (spec_RefCounts2_c _ _ _ h _ _ _ hDA hDB (by omega)) ?_
 rintro v27 w27 ⟨A27, q27, cap27, rfl, hq27, hqc27, O27, g27⟩
 replace RD := RD.grow g27
 replace hDA := hDA.grow g27
 replace hDB := hDB.grow g27
 replace G := G.grow g27
 replace GS5 := GS5.grow g27
 replace B1 := B1.grow g27
 replace B3 := B3.grow g27
 replace B26 := B26.grow g27
 have zg27 := g27.size
 subst hq27
 obtain ⟨CD, rfl⟩ : ∃ x, x = A27 := ⟨_, rfl⟩
 obtain ⟨eD, rfl⟩ : ∃ x, x = cap27 := ⟨_, rfl⟩
 have heD := hqc27
 obtain ⟨loC, hloC⟩ : ∃ x, x = w26.heap.size := ⟨_, rfl⟩
 obtain ⟨hiC, hhiC⟩ : ∃ x, x = w27.heap.size := ⟨_, rfl⟩
 have hDC := (O27.lt).weak (Pr' := fun k => loC ≤ k ∧ k < hiC) (fun i hi => by first | omega | (dsimp only at hi ⊢; omega))
 refine ⟨GS5, ?_⟩
 refine Dq (i := 3) rfl GS5 (fun _ _ => Y_build (cs := [_, _, _]) zr28 pc28 rfl rfl) ?_
 refine D_1 (i := 5) (by kernel_rfl) ?_
 refine E_stM (pre := []) (old := [_, _, _]) (post := []) (vs := [_, _, _]) (i := 5) rfl sz28 rfl rfl rfl (by first | rfl | assumption) B26 rfl rfl ?_
 intro w28 m28 X28
 replace B26 := Blk.eq (ys := [_, _, _]) X28 rfl
 clear X28
 replace G := Mod.trans' G m28 (fun _ h _ => h) (fun i h hl => by first | exact h | omega | (dsimp only at h ⊢; omega))
 replace GS5 := GS5.above m28 (by intro i h; first | omega | (dsimp only at h; omega) | (rw [h] at hk; exact absurd hpS.1 hk.1))
 replace RD := RD.mod m28 (by intro k hk h; first | omega | (dsimp only at hk h; omega) | (dsimp only at hk; omega) | (rw [h] at hk; exact absurd hpS.1 hk.1))
 replace hDA := hDA.mod m28 (by intro k hk h; first | omega | (dsimp only at hk h; omega) | (dsimp only at hk; omega) | (rw [h] at hk; exact absurd hpS.1 hk.1))
 replace hDB := hDB.mod m28 (by intro k hk h; first | omega | (dsimp only at hk h; omega) | (dsimp only at hk; omega) | (rw [h] at hk; exact absurd hpS.1 hk.1))
 replace hDC := hDC.mod m28 (by intro k hk h; first | omega | (dsimp only at hk h; omega) | (dsimp only at hk; omega) | (rw [h] at hk; exact absurd hpS.1 hk.1))
 replace B1 := B1.mod m28 (by intro h; first | omega | (dsimp only at h; omega) | (rw [h] at hk; exact absurd hpS.1 hk.1))
 replace B3 := B3.mod m28 (by intro h; first | omega | (dsimp only at h; omega) | (rw [h] at hk; exact absurd hpS.1 hk.1))
 have zm28 := m28.size
 refine ⟨GS5, ?_⟩
 refine D_en (by kernel_rfl) rfl rfl ?_
 refine th_n (hK3 _ _ ?_)
 clear hK3 K3
 refine wp_seq_k fun K14 hK14 => ?_
 refine wp_seq_k fun K15 hK15 => ?_
 refine Sb 53 rfl ?_
 refine Smv rfl ?_
 refine S_call rfl en50 (spec_l20Rd_pick_c _ _ _ _ RD (by omega) (by omega)) ?_
 rintro v29 w29 ⟨k29, rfl, hk29, RD29, m29⟩
 obtain ⟨k1, rfl⟩ : ∃ x, x = k29 := ⟨_, rfl⟩
 have hk1 := hk29 (by decide)
 replace RD := RD29
 clear RD29
 replace G := Mod.trans' G m29 (fun _ h _ => h) (fun i h hl => by first | exact h | omega | (dsimp only at h ⊢; omega))
 replace hDA := hDA.mod m29 (by intro k hk h; first | omega | (dsimp only at hk h; omega) | (dsimp only at hk; omega) | (rw [h] at hk; exact absurd hpS.1 hk.1))
 replace hDB := hDB.mod m29 (by intro k hk h; first | omega | (dsimp only at hk h; omega) | (dsimp only at hk; omega) | (rw [h] at hk; exact absurd hpS.1 hk.1))
 replace hDC := hDC.mod m29 (by intro k hk h; first | omega | (dsimp only at hk h; omega) | (dsimp only at hk; omega) | (rw [h] at hk; exact absurd hpS.1 hk.1))
 replace B1 := B1.mod m29 (by intro h; first | omega | (dsimp only at h; omega) | (rw [h] at hk; exact absurd hpS.1 hk.1))
 replace B3 := B3.mod m29 (by intro h; first | omega | (dsimp only at h; omega) | (rw [h] at hk; exact absurd hpS.1 hk.1))
 replace B26 := B26.mod m29 (by intro h; first | omega | (dsimp only at h; omega) | (rw [h] at hk; exact absurd hpS.1 hk.1))
 have zm29 := m29.size
 refine S_val (Y_eql rfl rfl) ?_
 refine S_nl rfl rfl ?_
 refine th_n (hK15 _ _ ?_)
 clear hK15 K15
 refine D_cut (fun a' w' => ∃ (hQ : LH) (ys : List Int) (AQ BQ CQ : Option Addr) (cQ dQ eQ pQ hi9 : Nat) (P2 : Nat → Prop) (L : List Value), a' = ⟨L.toArray, []⟩ ∧ L.length = 53 ∧ L[0]? = some (.pointer (some ⟨bR, 0, none⟩)) ∧ L[1]? = some (.int .i64 n) ∧ L[4]? = some (.pointer (some ⟨b1, 0, none⟩)) ∧ L[6]? = some (.pointer (some ⟨b26, 0, none⟩)) ∧ Mod (fun i => i = bR ∨ i = b26) w29 w' ∧ (Blk w' b26 28 [.slice AQ hQ.cells.length cQ, .slice BQ hQ.roots.length dQ, .slice CQ ys.length eQ].toArray) ∧ (RC (fun k => ¬ P2 k ∧ z0 ≤ k ∧ k ≠ b1 ∧ k ≠ b26 ∧ k < hi9) w' AQ hQ.cells) ∧ (R1 (fun k => ¬ P2 k ∧ z0 ≤ k ∧ k ≠ b1 ∧ k ≠ b26 ∧ k < hi9) w' BQ (ints hQ.roots)) ∧ (OI (fun k => P2 k ∧ z0 ≤ k ∧ k ≠ b1 ∧ k ≠ b26 ∧ k < hi9) w' 3 CQ (ints ys)) ∧ (Rd w' bR pQ) ∧ (pQ ≤ p + 2500) ∧ (hsize hQ ≤ 300) ∧ (ys.length ≤ 300) ∧ (∀ y ∈ ys, 0 ≤ y ∧ y ≤ 124) ∧ (ys.length ≤ eQ) ∧ (hi9 ≤ w'.heap.size)) ?_ ?_
 ·
  have GC30 := Mod.refl (fun i => i = bR ∨ i = b26) w29
  refine S_if rfl (fun hb1 => ?_) (fun hb1 => ?_)
  ·
   replace hb1 := nb_tt hb1
   refine Sb 53 rfl ?_
   refine Smv rfl ?_
   refine S_call rfl en52 (spec_l20Program_c _ _ 0 _ RD (by omega) (by omega)) ?_
   rintro v32 w32 ⟨l32, A32, q32, cap32, p32, rfl, hq32, hqc32, hl32, hcs32, hp32, RO32, RD32, m32⟩
   obtain ⟨lP, rfl⟩ : ∃ x, x = l32 := ⟨_, rfl⟩
   subst hq32
   obtain ⟨pP, rfl⟩ : ∃ x, x = p32 := ⟨_, rfl⟩
   have hcsP := hcs32 (by decide)
   have hlP := hl32
   have hpP := hp32
   have hROP := RO32.below
   replace RD := RD32
   clear RD32
   replace G := Mod.trans' G m32 (fun _ h _ => h) (fun i h hl => by first | exact h | omega | (dsimp only at h ⊢; omega))
   replace GC30 := GC30.trn m32
   replace hDA := hDA.mod m32 (by intro k hk h; first | omega | (dsimp only at hk h; omega) | (dsimp only at hk; omega) | (rw [h] at hk; exact absurd hpS.1 hk.1))
   replace hDB := hDB.mod m32 (by intro k hk h; first | omega | (dsimp only at hk h; omega) | (dsimp only at hk; omega) | (rw [h] at hk; exact absurd hpS.1 hk.1))
   replace hDC := hDC.mod m32 (by intro k hk h; first | omega | (dsimp only at hk h; omega) | (dsimp only at hk; omega) | (rw [h] at hk; exact absurd hpS.1 hk.1))
   replace B1 := B1.mod m32 (by intro h; first | omega | (dsimp only at h; omega) | (rw [h] at hk; exact absurd hpS.1 hk.1))
   replace B3 := B3.mod m32 (by intro h; first | omega | (dsimp only at h; omega) | (rw [h] at hk; exact absurd hpS.1 hk.1))
   replace B26 := B26.mod m32 (by intro h; first | omega | (dsimp only at h; omega) | (rw [h] at hk; exact absurd hpS.1 hk.1))
   have zm32 := m32.size
   refine S_call rfl en51 (spec_RunCounted_c _ _ lP _ _ hROP (by omega) hcsP) ?_
   rintro v33 w33 ⟨A33, B33, C33, n133, c133, n233, c233, n333, c333, h33, P33, Q33, rfl, hn133, hn233, hn333, hnc33, va33, hPQ33, hQ33, RC33, RR33, OC33, g33⟩
   replace hDA := hDA.grow g33
   replace hDB := hDB.grow g33
   replace hDC := hDC.grow g33
   replace RD := RD.grow g33
   replace hROP := hROP.grow g33
   replace G := G.grow g33
   replace GC30 := GC30.grow g33
   replace B1 := B1.grow g33
   replace B3 := B3.grow g33
   replace B26 := B26.grow g33
   have zg33 := g33.size
   subst hn133
   subst hn233
   subst hn333
   obtain ⟨hF, rfl⟩ : ∃ x, x = h33 := ⟨_, rfl⟩
   have hvF := va33
   have hncF := hnc33
   obtain ⟨PF1, rfl⟩ : ∃ x, x = P33 := ⟨_, rfl⟩
   obtain ⟨PF2, rfl⟩ : ∃ x, x = Q33 := ⟨_, rfl⟩
   obtain ⟨loF, hloF⟩ : ∃ x, x = w32.heap.size := ⟨_, rfl⟩
   obtain ⟨hiF, hhiF⟩ : ∃ x, x = w33.heap.size := ⟨_, rfl⟩
   have hpqF := hPQ33
   have hqF := hQ33
   have hFA : RC (fun k => PF1 k ∧ loF ≤ k ∧ k < hiF) w33 _ hF.cells := RC.tight RC33 (fun k hk => by have h9 := (hpqF k hk).1; omega) hhiF
   have hFB : R1 (fun k => PF1 k ∧ loF ≤ k ∧ k < hiF) w33 _ (ints hF.roots) := R1.tight RR33 (fun k hk => by have h9 := (hpqF k hk).1; omega) hhiF
   have hFC : OI (fun k => PF2 k ∧ loF ≤ k ∧ k < hiF) w33 3 _ (ints (countsV hF)) := OI.tight OC33 (fun k hk => by have h9 := hqF k hk; omega) hhiF
   have hQz : hsize hF ≤ 300 := by have h9 := hvF.small; omega
   have hclF := countsV_len hF
   have hzcF := hsize_cells hF
   have hQA : RC (fun k => ¬ (PF2 k ∧ loF ≤ k ∧ k < hiF) ∧ z0 ≤ k ∧ k ≠ b1 ∧ k ≠ b26 ∧ k < hiF) w33 _ hF.cells := hFA.weak (fun k hk => ⟨fun h9 => (hpqF k hk.1).2 h9.1, by have h9 := hk; omega, by have h9 := hk; omega, by have h9 := hk; omega, by have h9 := hk; omega⟩)
   have hQB : R1 (fun k => ¬ (PF2 k ∧ loF ≤ k ∧ k < hiF) ∧ z0 ≤ k ∧ k ≠ b1 ∧ k ≠ b26 ∧ k < hiF) w33 _ (ints hF.roots) := hFB.weak (fun k hk => ⟨fun h9 => (hpqF k hk.1).2 h9.1, by have h9 := hk; omega, by have h9 := hk; omega, by have h9 := hk; omega, by have h9 := hk; omega⟩)
   have hQC : OI (fun k => (PF2 k ∧ loF ≤ k ∧ k < hiF) ∧ z0 ≤ k ∧ k ≠ b1 ∧ k ≠ b26 ∧ k < hiF) w33 3 _ (ints (countsV hF)) := hFC.weak (fun k hk => ⟨hk, by have h9 := hk; omega, by have h9 := hk; omega, by have h9 := hk; omega, by have h9 := hk; omega⟩)
   have hyr := countsV_rg (h := hF)
   have hyl := countsV_len hF
   refine S_stM (pre := []) (old := [_, _, _]) (post := []) (vs := [_, _, _]) sz28 rfl rfl rfl (by first | rfl | assumption) B26 rfl rfl ?_
   intro w34 m34 X34
   replace B26 := Blk.eq (ys := [_, _, _]) X34 rfl
   clear X34
   replace G := Mod.trans' G m34 (fun _ h _ => h) (fun i h hl => by first | exact h | omega | (dsimp only at h ⊢; omega))
   replace GC30 := GC30.trn m34
   replace hDA := hDA.mod m34 (by intro k hk h; first | omega | (dsimp only at hk h; omega) | (dsimp only at hk; omega) | (rw [h] at hk; exact absurd hpS.1 hk.1))
   replace hDB := hDB.mod m34 (by intro k hk h; first | omega | (dsimp only at hk h; omega) | (dsimp only at hk; omega) | (rw [h] at hk; exact absurd hpS.1 hk.1))
   replace hDC := hDC.mod m34 (by intro k hk h; first | omega | (dsimp only at hk h; omega) | (dsimp only at hk; omega) | (rw [h] at hk; exact absurd hpS.1 hk.1))
   replace RD := RD.mod m34 (by intro k hk h; first | omega | (dsimp only at hk h; omega) | (dsimp only at hk; omega) | (rw [h] at hk; exact absurd hpS.1 hk.1))
   replace hFA := hFA.mod m34 (by intro k hk h; first | omega | (dsimp only at hk h; omega) | (dsimp only at hk; omega) | (rw [h] at hk; exact absurd hpS.1 hk.1))
   replace hFB := hFB.mod m34 (by intro k hk h; first | omega | (dsimp only at hk h; omega) | (dsimp only at hk; omega) | (rw [h] at hk; exact absurd hpS.1 hk.1))
   replace hFC := hFC.mod m34 (by intro k hk h; first | omega | (dsimp only at hk h; omega) | (dsimp only at hk; omega) | (rw [h] at hk; exact absurd hpS.1 hk.1))
   replace hQA := hQA.mod m34 (by intro k hk h; first | omega | (dsimp only at hk h; omega) | (dsimp only at hk; omega) | (rw [h] at hk; exact absurd hpS.1 hk.1))
   replace hQB := hQB.mod m34 (by intro k hk h; first | omega | (dsimp only at hk h; omega) | (dsimp only at hk; omega) | (rw [h] at hk; exact absurd hpS.1 hk.1))
   replace hQC := hQC.mod m34 (by intro k hk h; first | omega | (dsimp only at hk h; omega) | (dsimp only at hk; omega) | (rw [h] at hk; exact absurd hpS.1 hk.1))
   replace B1 := B1.mod m34 (by intro h; first | omega | (dsimp only at h; omega) | (rw [h] at hk; exact absurd hpS.1 hk.1))
   replace B3 := B3.mod m34 (by intro h; first | omega | (dsimp only at h; omega) | (rw [h] at hk; exact absurd hpS.1 hk.1))
   have zm34 := m34.size
   refine S_nl rfl rfl ?_
   exact ⟨rfl, _, _, _, _, _, _, _, _, _, _, _, _, rfl, rfl, rfl, rfl, rfl, rfl, GC30, B26, hQA, hQB, hQC, RD, by omega, hQz, by omega, hyr, by assumption, by omega⟩
  replace hb1 := nb_tf hb1
  have hQA : RC (fun k => ¬ (loC ≤ k ∧ k < hiC) ∧ z0 ≤ k ∧ k ≠ b1 ∧ k ≠ b26 ∧ k < hiC) w29 _ h.cells := hDA.weak (fun k hk => ⟨by have h9 := hk; omega, by have h9 := hk; omega, by have h9 := hk; omega, by have h9 := hk; omega, by have h9 := hk; omega⟩)
  have hQB : R1 (fun k => ¬ (loC ≤ k ∧ k < hiC) ∧ z0 ≤ k ∧ k ≠ b1 ∧ k ≠ b26 ∧ k < hiC) w29 _ (ints h.roots) := hDB.weak (fun k hk => ⟨by have h9 := hk; omega, by have h9 := hk; omega, by have h9 := hk; omega, by have h9 := hk; omega, by have h9 := hk; omega⟩)
  have hQC : OI (fun k => (loC ≤ k ∧ k < hiC) ∧ z0 ≤ k ∧ k ≠ b1 ∧ k ≠ b26 ∧ k < hiC) w29 3 _ (ints (countsV h)) := hDC.weak (fun k hk => ⟨hk, by have h9 := hk; omega, by have h9 := hk; omega, by have h9 := hk; omega, by have h9 := hk; omega⟩)
  have hyr := countsV_rg (h := h)
  have hyl := countsV_len h
  have hQz := hzD
  refine wp_skip ?_
  exact ⟨rfl, _, _, _, _, _, _, _, _, _, _, _, _, rfl, rfl, rfl, rfl, rfl, rfl, GC30, B26, hQA, hQB, hQC, RD, by omega, hQz, by omega, hyr, by assumption, by omega⟩
 rintro a' w31 ⟨hQ, ys, AQ, BQ, CQ, cQ, dQ, eQ, pQ, hi9, P2, L, rfl, hL, hs0, hs1, hs4, hs6, gJ31, B26, hQA, hQB, hQC, RD, hpQ, hQz, hyl, hyr, heQ, hh9⟩
 obtain ⟨x, rfl⟩ : ∃ x : Nat → Value, L = [(.pointer (some ⟨bR, 0, none⟩)), (.int .i64 n), x 2, x 3, (.pointer (some ⟨b1, 0, none⟩)), x 5, (.pointer (some ⟨b26, 0, none⟩)), x 7, x 8, x 9, x 10, x 11, x 12, x 13, x 14, x 15, x 16, x 17, x 18, x 19, x 20, x 21, x 22, x 23, x 24, x 25, x 26, x 27, x 28, x 29, x 30, x 31, x 32, x 33, x 34, x 35, x 36, x 37, x 38, x 39, x 40, x 41, x 42, x 43, x 44, x 45, x 46, x 47, x 48, x 49, x 50, x 51, x 52] := ⟨fun i => L.getD i undef, (slots_eta L 53 hL).trans (by show [L.getD 0 undef, L.getD 1 undef, L.getD 2 undef, L.getD 3 undef, L.getD 4 undef, L.getD 5 undef, L.getD 6 undef, L.getD 7 undef, L.getD 8 undef, L.getD 9 undef, L.getD 10 undef, L.getD 11 undef, L.getD 12 undef, L.getD 13 undef, L.getD 14 undef, L.getD 15 undef, L.getD 16 undef, L.getD 17 undef, L.getD 18 undef, L.getD 19 undef, L.getD 20 undef, L.getD 21 undef, L.getD 22 undef, L.getD 23 undef, L.getD 24 undef, L.getD 25 undef, L.getD 26 undef, L.getD 27 undef, L.getD 28 undef, L.getD 29 undef, L.getD 30 undef, L.getD 31 undef, L.getD 32 undef, L.getD 33 undef, L.getD 34 undef, L.getD 35 undef, L.getD 36 undef, L.getD 37 undef, L.getD 38 undef, L.getD 39 undef, L.getD 40 undef, L.getD 41 undef, L.getD 42 undef, L.getD 43 undef, L.getD 44 undef, L.getD 45 undef, L.getD 46 undef, L.getD 47 undef, L.getD 48 undef, L.getD 49 undef, L.getD 50 undef, L.getD 51 undef, L.getD 52 undef] = _; rw [slot_d hs0, slot_d hs1, slot_d hs4, slot_d hs6])⟩
 clear hL hs0 hs1 hs4 hs6
 replace G := Mod.trans' G gJ31 (fun _ h _ => h) (fun i h hl => by first | exact h | omega | (dsimp only at h ⊢; omega))
 replace hDA := hDA.mod gJ31 (by intro k hk h; first | omega | (dsimp only at hk h; omega) | (dsimp only at hk; omega) | (rw [h] at hk; exact absurd hpS.1 hk.1))
 replace hDB := hDB.mod gJ31 (by intro k hk h; first | omega | (dsimp only at hk h; omega) | (dsimp only at hk; omega) | (rw [h] at hk; exact absurd hpS.1 hk.1))
 replace hDC := hDC.mod gJ31 (by intro k hk h; first | omega | (dsimp only at hk h; omega) | (dsimp only at hk; omega) | (rw [h] at hk; exact absurd hpS.1 hk.1))
 replace B1 := B1.mod gJ31 (by intro h; first | omega | (dsimp only at h; omega) | (rw [h] at hk; exact absurd hpS.1 hk.1))
 replace B3 := B3.mod gJ31 (by intro h; first | omega | (dsimp only at h; omega) | (rw [h] at hk; exact absurd hpS.1 hk.1))
 have zgJ31 := gJ31.size
 have lb26 := B26.lt
 refine th_n (hK14 _ _ ?_)
 clear hK14 K14
 refine wp_seq_k fun K16 hK16 => ?_
 refine wp_seq_k fun K17 hK17 => ?_
 refine Sb 53 rfl ?_
 refine S_val (Y_field U28 rfl fz28_1 (by decide) rfl) ?_
 refine S_val (Y_load U24 rfl rfl (B26.at (by rfl))) ?_
 refine S_val (Y_len U24 rfl) ?_
 refine S_val (Y_gtr rfl rfl) ?_
 refine Smv rfl ?_
 refine S_g 25 rfl (fun hb1 => ?_) (fun hb1 => ?_)
 ·
  replace hb1 := nb_tt hb1
  refine S_on rfl rfl ?_
  refine Smv rfl ?_
  refine S_on rfl rfl ?_
  refine Smv rfl ?_
  refine S_on rfl rfl ?_
  refine S_call rfl en53 (spec_l20Rd_odd_c _ _ _ _ RD (by omega) (by omega)) ?_
  rintro v35 w35 ⟨r35, p35, rfl, hr35, hp35, RD35, m35⟩
  obtain ⟨r9, rfl⟩ : ∃ x, x = r35 := ⟨_, rfl⟩
  have hr9 := hr35
  replace RD := RD35
  clear RD35
  replace G := Mod.trans' G m35 (fun _ h _ => h) (fun i h hl => by first | exact h | omega | (dsimp only at h ⊢; omega))
  replace hQA := hQA.mod m35 (by intro k hk h; first | omega | (dsimp only at hk h; omega) | (dsimp only at hk; omega) | (rw [h] at hk; exact absurd hpS.1 hk.1))
  replace hQB := hQB.mod m35 (by intro k hk h; first | omega | (dsimp only at hk h; omega) | (dsimp only at hk; omega) | (rw [h] at hk; exact absurd hpS.1 hk.1))
  replace hQC := hQC.mod m35 (by intro k hk h; first | omega | (dsimp only at hk h; omega) | (dsimp only at hk; omega) | (rw [h] at hk; exact absurd hpS.1 hk.1))
  replace B1 := B1.mod m35 (by intro h; first | omega | (dsimp only at h; omega) | (rw [h] at hk; exact absurd hpS.1 hk.1))
  replace B26 := B26.mod m35 (by intro h; first | omega | (dsimp only at h; omega) | (rw [h] at hk; exact absurd hpS.1 hk.1))
  have zm35 := m35.size
  refine S_val (Y_pickT rfl rfl) ?_
  refine S_nl rfl rfl ?_
  refine th_n (hK17 _ _ ?_)
  clear hK17 K17
  refine S_if rfl (fun hb2 => ?_) (fun hb2 => ?_)
  ·
   first | with_reducible (replace hb2 := nb_nt hb2) | with_reducible (replace hb2 := nb_tt hb2) | with_reducible (replace hb2 := nb_bt hb2) | skip
   refine wp_seq_k fun K18 hK18 => ?_
   refine Sb 53 rfl ?_
   refine Smv rfl ?_
   refine S_call rfl en50 (spec_l20Rd_pick_c _ _ _ _ RD (by omega) (by omega)) ?_
   rintro v36 w36 ⟨k36, rfl, hk36, RD36, m36⟩
   obtain ⟨k2, rfl⟩ : ∃ x, x = k36 := ⟨_, rfl⟩
   have hk2 := hk36 (by decide)
   replace RD := RD36
   clear RD36
   replace G := Mod.trans' G m36 (fun _ h _ => h) (fun i h hl => by first | exact h | omega | (dsimp only at h ⊢; omega))
   replace hQA := hQA.mod m36 (by intro k hk h; first | omega | (dsimp only at hk h; omega) | (dsimp only at hk; omega) | (rw [h] at hk; exact absurd hpS.1 hk.1))
   replace hQB := hQB.mod m36 (by intro k hk h; first | omega | (dsimp only at hk h; omega) | (dsimp only at hk; omega) | (rw [h] at hk; exact absurd hpS.1 hk.1))
   replace hQC := hQC.mod m36 (by intro k hk h; first | omega | (dsimp only at hk h; omega) | (dsimp only at hk; omega) | (rw [h] at hk; exact absurd hpS.1 hk.1))
   replace B1 := B1.mod m36 (by intro h; first | omega | (dsimp only at h; omega) | (rw [h] at hk; exact absurd hpS.1 hk.1))
   replace B26 := B26.mod m36 (by intro h; first | omega | (dsimp only at h; omega) | (rw [h] at hk; exact absurd hpS.1 hk.1))
   have zm36 := m36.size
   refine S_val (Y_eql rfl rfl) ?_
   refine S_nl rfl rfl ?_
   refine th_n (hK18 _ _ ?_)
   clear hK18 K18
   refine S_if rfl (fun hb3 => ?_) (fun hb3 => ?_)
   ·
    replace hb3 := nb_tt hb3
    refine wp_seq_k fun K19 hK19 => ?_
    refine Sb 53 rfl ?_
    refine Smv rfl ?_
    refine S_val (Y_field U28 rfl fz28_1 (by decide) rfl) ?_
    refine S_val (Y_load U24 rfl rfl (B26.at (by rfl))) ?_
    refine S_val (Y_len U24 rfl) ?_
    refine S_call rfl en50 (spec_l20Rd_pick_c _ _ _ _ RD (by omega) (by omega)) ?_
    rintro v37 w37 ⟨k37, rfl, hk37, RD37, m37⟩
    obtain ⟨k3, rfl⟩ : ∃ x, x = k37 := ⟨_, rfl⟩
    have hk3 := hk37 (by omega)
    replace RD := RD37
    clear RD37
    replace G := Mod.trans' G m37 (fun _ h _ => h) (fun i h hl => by first | exact h | omega | (dsimp only at h ⊢; omega))
    replace hQA := hQA.mod m37 (by intro k hk h; first | omega | (dsimp only at hk h; omega) | (dsimp only at hk; omega) | (rw [h] at hk; exact absurd hpS.1 hk.1))
    replace hQB := hQB.mod m37 (by intro k hk h; first | omega | (dsimp only at hk h; omega) | (dsimp only at hk; omega) | (rw [h] at hk; exact absurd hpS.1 hk.1))
    replace hQC := hQC.mod m37 (by intro k hk h; first | omega | (dsimp only at hk h; omega) | (dsimp only at hk; omega) | (rw [h] at hk; exact absurd hpS.1 hk.1))
    replace B1 := B1.mod m37 (by intro h; first | omega | (dsimp only at h; omega) | (rw [h] at hk; exact absurd hpS.1 hk.1))
    replace B26 := B26.mod m37 (by intro h; first | omega | (dsimp only at h; omega) | (rw [h] at hk; exact absurd hpS.1 hk.1))
    have zm37 := m37.size
    have hk3l : k3 < ys.length := by omega
    have hrk := hyr _ (List.getElem_mem hk3l)
    obtain ⟨bS, postS, eS, hpS, _⟩ := hQC (ints_nz (by omega))
    subst eS
    try dsimp only at hpS
    refine Sas rfl ?_
    refine S_nl rfl rfl ?_
    refine th_n (hK19 _ _ ?_)
    clear hK19 K19
    refine D_start 11 53 (fun w => Mod (fun i => i = bS) w) follows rfl rfl ?_
    intro w38 g38
    replace hQA := hQA.grow g38
    replace hQB := hQB.grow g38
    replace hQC := hQC.grow g38
    replace RD := RD.grow g38
    replace G := G.grow g38
    replace B1 := B1.grow g38
    replace B26 := B26.grow g38
    have zg38 := g38.size
    have GS38 := Mod.refl (fun i => i = bS) w38
    obtain ⟨g5, o5, e5, hp5, hc5⟩ := hQC.r1.int (k := k3) hk3l
    cases e5
    refine Dq (i := 0) rfl GS38 (fun _ _ => Y_field U28 rfl fz28_1 (by decide) rfl) ?_
    refine Dq (i := 1) rfl GS38 (fun _ hs => Y_load U24 rfl rfl (by first | exact hs.cell (B26.at (by rfl)) (by intro h; first | omega | (dsimp only at h; omega) | (rw [h] at hk; exact absurd hpS.1 hk.1)))) ?_
    refine Dq (i := 2) rfl GS38 (fun _ _ => Y_move rfl) ?_
    refine Dq (i := 3) rfl GS38 (fun _ _ => Y_field U28 rfl fz28_1 (by decide) rfl) ?_
    refine Dq (i := 4) rfl GS38 (fun _ hs => Y_load U24 rfl rfl (by first | exact hs.cell (B26.at (by rfl)) (by intro h; first | omega | (dsimp only at h; omega) | (rw [h] at hk; exact absurd hpS.1 hk.1)))) ?_
    refine Dq (i := 5) rfl GS38 (fun _ _ => Y_move rfl) ?_
    refine Dq (i := 6) rfl GS38 (fun _ _ => Y_index U24 sz3 rfl rfl (by first | assumption | omega)) ?_
    refine D_1 (i := 7) (by kernel_rfl) ?_
    refine E_val (i := 7) rfl (Y_load U3 rfl rfl hc5) GS38 ?_
    refine Dq (i := 8) rfl GS38 (fun _ _ => Y_add (c := ys[k3] + 1) rfl rfl rfl (by omega) (by omega)) ?_
    refine Dq (i := 9) rfl GS38 (fun _ _ => Y_index U24 sz3 rfl rfl (by first | assumption | omega)) ?_
    refine D_1 (i := 10) (by kernel_rfl) ?_
    refine E_of (i := 10) rfl (Ys_row sz3 hQC (k := k3) (by rw [ints_len]; omega) rfl rfl rfl rfl) ?_
    rintro w40 ⟨m40, hp40, OZ⟩
    try dsimp only at hp40
    replace G := Mod.trans' G m40 (fun _ h _ => h) (fun i h hl => by first | exact h | omega | (dsimp only at h ⊢; omega))
    replace GS38 := GS38.trn m40
    replace hQA := hQA.mod m40 (by intro k hk h; first | omega | (dsimp only at hk h; omega) | (dsimp only at hk; omega) | (rw [h] at hk; exact absurd hpS.1 hk.1))
    replace hQB := hQB.mod m40 (by intro k hk h; first | omega | (dsimp only at hk h; omega) | (dsimp only at hk; omega) | (rw [h] at hk; exact absurd hpS.1 hk.1))
    replace RD := RD.mod m40 (by intro k hk h; first | omega | (dsimp only at hk h; omega) | (dsimp only at hk; omega) | (rw [h] at hk; exact absurd hpS.1 hk.1))
    replace B1 := B1.mod m40 (by intro h; first | omega | (dsimp only at h; omega) | (rw [h] at hk; exact absurd hpS.1 hk.1))
    replace B26 := B26.mod m40 (by intro h; first | omega | (dsimp only at h; omega) | (rw [h] at hk; exact absurd hpS.1 hk.1))
    have zm40 := m40.size
    rw [ints_set] at OZ
    replace hQC := OZ
    clear OZ
    refine ⟨GS38, ?_⟩
    refine D_en (by kernel_rfl) rfl rfl ?_
    refine th_n (hK16 _ _ ?_)
    clear hK16 K16
    refine wp_seq_k fun K20 hK20 => ?_
    refine Sb 53 rfl ?_
    refine S_val (Y_loadS U28 rfl sz28 rfl (B26.row (by rfl))) ?_
    refine S_stM (pre := []) (old := [_, _, _]) (post := []) (vs := [_, _, _]) sz28 rfl rfl rfl (by first | rfl | assumption) B1 rfl rfl ?_
    intro w41 m41 X41
    replace B1 := Blk.eq (ys := [_, _, _]) X41 rfl
    clear X41
    replace G := Mod.trans' G m41 (fun _ h _ => h) (fun i h hl => by first | exact h | omega | (dsimp only at h ⊢; omega))
    replace hQA := hQA.mod m41 (by intro k hk h; first | omega | (dsimp only at hk h; omega) | (dsimp only at hk; omega) | (rw [h] at hk; exact absurd hpS.1 hk.1))
    replace hQB := hQB.mod m41 (by intro k hk h; first | omega | (dsimp only at hk h; omega) | (dsimp only at hk; omega) | (rw [h] at hk; exact absurd hpS.1 hk.1))
    replace hQC := hQC.mod m41 (by intro k hk h; first | omega | (dsimp only at hk h; omega) | (dsimp only at hk; omega) | (rw [h] at hk; exact absurd hpS.1 hk.1))
    replace RD := RD.mod m41 (by intro k hk h; first | omega | (dsimp only at hk h; omega) | (dsimp only at hk; omega) | (rw [h] at hk; exact absurd hpS.1 hk.1))
    replace B26 := B26.mod m41 (by intro h; first | omega | (dsimp only at h; omega) | (rw [h] at hk; exact absurd hpS.1 hk.1))
    have zm41 := m41.size
    refine S_nl rfl rfl ?_
    refine th_n (hK20 _ _ ?_)
    clear hK20 K20
    refine wp_ret ?_
    refine ret_rc (cs := [_, _, _]) U28 rfl sz28 rfl rfl (B1.row (by rfl)) ?_
    first | exact ⟨hQ, ys, _, _, _, _, _, _, _, _, _, _, rfl, rfl, rfl, rfl, hQz, by omega, hQA.weak (fun i hi => by have h9 := hi.2.1; omega), hQB.weak (fun i hi => by have h9 := hi.2.1; omega), hQC.r1.weak (fun i hi => by have h9 := hi.2.1; omega), by omega, RD, G⟩ | exact ⟨hQ, ys.set k3 (ys[k3] + 1), _, _, _, _, _, _, _, _, _, _, rfl, rfl, rfl, (List.length_set ..).symm, hQz, by rw [List.length_set]; omega, hQA.weak (fun i hi => by have h9 := hi.2.1; omega), hQB.weak (fun i hi => by have h9 := hi.2.1; omega), hQC.r1.weak (fun i hi => by have h9 := hi.2.1; omega), by omega, RD, G⟩ | exact ⟨hQ, ys.drop (0 + 1), _, _, _, _, _, _, _, _, _, _, rfl, rfl, rfl, by rw [List.length_drop], hQz, by rw [List.length_drop]; omega, hQA.weak (fun i hi => by have h9 := hi.2.1; omega), hQB.weak (fun i hi => by have h9 := hi.2.1; omega), hR15.weak (fun i hi => by have h9 := hi.2.1; omega), by omega, RD, G⟩
   replace hb3 := nb_tf hb3
   obtain ⟨A15, hs15, hR15⟩ := R1.rest (p := 0) (n := ys.length) (j := 1) (cap := eQ) (show R1 _ _ CQ (ints (ys.drop 0)) from hQC.r1) (by omega) (by omega) heQ
   refine Sb 53 rfl ?_
   refine S_val (Y_field U28 rfl fz28_1 (by decide) rfl) ?_
   refine S_val (Y_load U24 rfl rfl (B26.at (by rfl))) ?_
   refine S_val (Yl.eq hs15 (Y_sliceL U24 sz3 rfl (j := 1) rfl (by omega))) ?_
   refine S_val (Y_field U28 rfl fz28_1 (by decide) rfl) ?_
   refine S_stM (pre := [_, _]) (old := [_]) (post := []) (vs := [_]) sz24 rfl rfl rfl (by first | rfl | assumption) B26 rfl rfl ?_
   intro w42 m42 X42
   replace B26 := Blk.eq (ys := [_, _, _]) X42 rfl
   clear X42
   replace G := Mod.trans' G m42 (fun _ h _ => h) (fun i h hl => by first | exact h | omega | (dsimp only at h ⊢; omega))
   replace hQA := hQA.mod m42 (by intro k hk h; first | omega | (dsimp only at hk h; omega) | (dsimp only at hk; omega) | (rw [h] at hk; exact absurd hpS.1 hk.1))
   replace hQB := hQB.mod m42 (by intro k hk h; first | omega | (dsimp only at hk h; omega) | (dsimp only at hk; omega) | (rw [h] at hk; exact absurd hpS.1 hk.1))
   replace hQC := hQC.mod m42 (by intro k hk h; first | omega | (dsimp only at hk h; omega) | (dsimp only at hk; omega) | (rw [h] at hk; exact absurd hpS.1 hk.1))
   replace RD := RD.mod m42 (by intro k hk h; first | omega | (dsimp only at hk h; omega) | (dsimp only at hk; omega) | (rw [h] at hk; exact absurd hpS.1 hk.1))
   replace hR15 := hR15.mod m42 (by intro k hk h; first | omega | (dsimp only at hk h; omega) | (dsimp only at hk; omega) | (rw [h] at hk; exact absurd hpS.1 hk.1))
   replace B1 := B1.mod m42 (by intro h; first | omega | (dsimp only at h; omega) | (rw [h] at hk; exact absurd hpS.1 hk.1))
   have zm42 := m42.size
   refine S_nl rfl rfl ?_
   refine th_n (hK16 _ _ ?_)
   clear hK16 K16
   refine wp_seq_k fun K21 hK21 => ?_
   refine Sb 53 rfl ?_
   refine S_val (Y_loadS U28 rfl sz28 rfl (B26.row (by rfl))) ?_
   refine S_stM (pre := []) (old := [_, _, _]) (post := []) (vs := [_, _, _]) sz28 rfl rfl rfl (by first | rfl | assumption) B1 rfl rfl ?_
   intro w43 m43 X43
   replace B1 := Blk.eq (ys := [_, _, _]) X43 rfl
   clear X43
   replace G := Mod.trans' G m43 (fun _ h _ => h) (fun i h hl => by first | exact h | omega | (dsimp only at h ⊢; omega))
   replace hQA := hQA.mod m43 (by intro k hk h; first | omega | (dsimp only at hk h; omega) | (dsimp only at hk; omega) | (rw [h] at hk; exact absurd hpS.1 hk.1))
   replace hQB := hQB.mod m43 (by intro k hk h; first | omega | (dsimp only at hk h; omega) | (dsimp only at hk; omega) | (rw [h] at hk; exact absurd hpS.1 hk.1))
   replace hQC := hQC.mod m43 (by intro k hk h; first | omega | (dsimp only at hk h; omega) | (dsimp only at hk; omega) | (rw [h] at hk; exact absurd hpS.1 hk.1))
   replace RD := RD.mod m43 (by intro k hk h; first | omega | (dsimp only at hk h; omega) | (dsimp only at hk; omega) | (rw [h] at hk; exact absurd hpS.1 hk.1))
   replace hR15 := hR15.mod m43 (by intro k hk h; first | omega | (dsimp only at hk h; omega) | (dsimp only at hk; omega) | (rw [h] at hk; exact absurd hpS.1 hk.1))
   replace B26 := B26.mod m43 (by intro h; first | omega | (dsimp only at h; omega) | (rw [h] at hk; exact absurd hpS.1 hk.1))
   have zm43 := m43.size
   refine S_nl rfl rfl ?_
   refine th_n (hK21 _ _ ?_)
   clear hK21 K21
   refine wp_ret ?_
   refine ret_rc (cs := [_, _, _]) U28 rfl sz28 rfl rfl (B1.row (by rfl)) ?_
   first | exact ⟨hQ, ys, _, _, _, _, _, _, _, _, _, _, rfl, rfl, rfl, rfl, hQz, by omega, hQA.weak (fun i hi => by have h9 := hi.2.1; omega), hQB.weak (fun i hi => by have h9 := hi.2.1; omega), hQC.r1.weak (fun i hi => by have h9 := hi.2.1; omega), by omega, RD, G⟩ | exact ⟨hQ, ys.set k3 (ys[k3] + 1), _, _, _, _, _, _, _, _, _, _, rfl, rfl, rfl, (List.length_set ..).symm, hQz, by rw [List.length_set]; omega, hQA.weak (fun i hi => by have h9 := hi.2.1; omega), hQB.weak (fun i hi => by have h9 := hi.2.1; omega), hQC.r1.weak (fun i hi => by have h9 := hi.2.1; omega), by omega, RD, G⟩ | exact ⟨hQ, ys.drop (0 + 1), _, _, _, _, _, _, _, _, _, _, rfl, rfl, rfl, by rw [List.length_drop], hQz, by rw [List.length_drop]; omega, hQA.weak (fun i hi => by have h9 := hi.2.1; omega), hQB.weak (fun i hi => by have h9 := hi.2.1; omega), hR15.weak (fun i hi => by have h9 := hi.2.1; omega), by omega, RD, G⟩
  first | with_reducible (replace hb2 := nb_nf hb2) | with_reducible (replace hb2 := nb_tf hb2) | with_reducible (replace hb2 := nb_bf hb2) | skip
  refine wp_skip ?_
  refine th_n (hK16 _ _ ?_)
  clear hK16 K16
  refine wp_seq_k fun K22 hK22 => ?_
  refine Sb 53 rfl ?_
  refine S_val (Y_loadS U28 rfl sz28 rfl (B26.row (by rfl))) ?_
  refine S_stM (pre := []) (old := [_, _, _]) (post := []) (vs := [_, _, _]) sz28 rfl rfl rfl (by first | rfl | assumption) B1 rfl rfl ?_
  intro w44 m44 X44
  replace B1 := Blk.eq (ys := [_, _, _]) X44 rfl
  clear X44
  replace G := Mod.trans' G m44 (fun _ h _ => h) (fun i h hl => by first | exact h | omega | (dsimp only at h ⊢; omega))
  replace hQA := hQA.mod m44 (by intro k hk h; first | omega | (dsimp only at hk h; omega) | (dsimp only at hk; omega) | (rw [h] at hk; exact absurd hpS.1 hk.1))
  replace hQB := hQB.mod m44 (by intro k hk h; first | omega | (dsimp only at hk h; omega) | (dsimp only at hk; omega) | (rw [h] at hk; exact absurd hpS.1 hk.1))
  replace hQC := hQC.mod m44 (by intro k hk h; first | omega | (dsimp only at hk h; omega) | (dsimp only at hk; omega) | (rw [h] at hk; exact absurd hpS.1 hk.1))
  replace RD := RD.mod m44 (by intro k hk h; first | omega | (dsimp only at hk h; omega) | (dsimp only at hk; omega) | (rw [h] at hk; exact absurd hpS.1 hk.1))
  replace B26 := B26.mod m44 (by intro h; first | omega | (dsimp only at h; omega) | (rw [h] at hk; exact absurd hpS.1 hk.1))
  have zm44 := m44.size
  refine S_nl rfl rfl ?_
  refine th_n (hK22 _ _ ?_)
  clear hK22 K22
  refine wp_ret ?_
  refine ret_rc (cs := [_, _, _]) U28 rfl sz28 rfl rfl (B1.row (by rfl)) ?_
  first | exact ⟨hQ, ys, _, _, _, _, _, _, _, _, _, _, rfl, rfl, rfl, rfl, hQz, by omega, hQA.weak (fun i hi => by have h9 := hi.2.1; omega), hQB.weak (fun i hi => by have h9 := hi.2.1; omega), hQC.r1.weak (fun i hi => by have h9 := hi.2.1; omega), by omega, RD, G⟩ | exact ⟨hQ, ys.set k3 (ys[k3] + 1), _, _, _, _, _, _, _, _, _, _, rfl, rfl, rfl, (List.length_set ..).symm, hQz, by rw [List.length_set]; omega, hQA.weak (fun i hi => by have h9 := hi.2.1; omega), hQB.weak (fun i hi => by have h9 := hi.2.1; omega), hQC.r1.weak (fun i hi => by have h9 := hi.2.1; omega), by omega, RD, G⟩ | exact ⟨hQ, ys.drop (0 + 1), _, _, _, _, _, _, _, _, _, _, rfl, rfl, rfl, by rw [List.length_drop], hQz, by rw [List.length_drop]; omega, hQA.weak (fun i hi => by have h9 := hi.2.1; omega), hQB.weak (fun i hi => by have h9 := hi.2.1; omega), hR15.weak (fun i hi => by have h9 := hi.2.1; omega), by omega, RD, G⟩
 replace hb1 := nb_tf hb1
 refine S_off rfl rfl ?_
 refine S_off rfl rfl ?_
 refine S_off rfl rfl ?_
 refine S_val (Y_pickF rfl rfl) ?_
 refine S_nl rfl rfl ?_
 refine th_n (hK17 _ _ ?_)
 clear hK17 K17
 refine S_ifF rfl ?_
 refine wp_skip ?_
 refine th_n (hK16 _ _ ?_)
 clear hK16 K16
 refine wp_seq_k fun K23 hK23 => ?_
 refine Sb 53 rfl ?_
 refine S_val (Y_loadS U28 rfl sz28 rfl (B26.row (by rfl))) ?_
 refine S_stM (pre := []) (old := [_, _, _]) (post := []) (vs := [_, _, _]) sz28 rfl rfl rfl (by first | rfl | assumption) B1 rfl rfl ?_
 intro w45 m45 X45
 replace B1 := Blk.eq (ys := [_, _, _]) X45 rfl
 clear X45
 replace G := Mod.trans' G m45 (fun _ h _ => h) (fun i h hl => by first | exact h | omega | (dsimp only at h ⊢; omega))
 replace hQA := hQA.mod m45 (by intro k hk h; first | omega | (dsimp only at hk h; omega) | (dsimp only at hk; omega) | (rw [h] at hk; exact absurd hpS.1 hk.1))
 replace hQB := hQB.mod m45 (by intro k hk h; first | omega | (dsimp only at hk h; omega) | (dsimp only at hk; omega) | (rw [h] at hk; exact absurd hpS.1 hk.1))
 replace hQC := hQC.mod m45 (by intro k hk h; first | omega | (dsimp only at hk h; omega) | (dsimp only at hk; omega) | (rw [h] at hk; exact absurd hpS.1 hk.1))
 replace RD := RD.mod m45 (by intro k hk h; first | omega | (dsimp only at hk h; omega) | (dsimp only at hk; omega) | (rw [h] at hk; exact absurd hpS.1 hk.1))
 replace B26 := B26.mod m45 (by intro h; first | omega | (dsimp only at h; omega) | (rw [h] at hk; exact absurd hpS.1 hk.1))
 have zm45 := m45.size
 refine S_nl rfl rfl ?_
 refine th_n (hK23 _ _ ?_)
 clear hK23 K23
 refine wp_ret ?_
 refine ret_rc (cs := [_, _, _]) U28 rfl sz28 rfl rfl (B1.row (by rfl)) ?_
 first | exact ⟨hQ, ys, _, _, _, _, _, _, _, _, _, _, rfl, rfl, rfl, rfl, hQz, by omega, hQA.weak (fun i hi => by have h9 := hi.2.1; omega), hQB.weak (fun i hi => by have h9 := hi.2.1; omega), hQC.r1.weak (fun i hi => by have h9 := hi.2.1; omega), by omega, RD, G⟩ | exact ⟨hQ, ys.set k3 (ys[k3] + 1), _, _, _, _, _, _, _, _, _, _, rfl, rfl, rfl, (List.length_set ..).symm, hQz, by rw [List.length_set]; omega, hQA.weak (fun i hi => by have h9 := hi.2.1; omega), hQB.weak (fun i hi => by have h9 := hi.2.1; omega), hQC.r1.weak (fun i hi => by have h9 := hi.2.1; omega), by omega, RD, G⟩ | exact ⟨hQ, ys.drop (0 + 1), _, _, _, _, _, _, _, _, _, _, rfl, rfl, rfl, by rw [List.length_drop], hQz, by rw [List.length_drop]; omega, hQA.weak (fun i hi => by have h9 := hi.2.1; omega), hQB.weak (fun i hi => by have h9 := hi.2.1; omega), hR15.weak (fun i hi => by have h9 := hi.2.1; omega), by omega, RD, G⟩
set_option maxHeartbeats 400000 in
set_option maxRecDepth 20000 in
theorem spec_DrawCollectCycles_c (Pr : Nat → Prop) (A : Option Addr) (xs : List Int) (c : Nat) (w : World) (hA : R1 Pr w A (u8s xs)) (hx : xs.length ≤ 1048576) (hc : xs.length ≤ c) (hr : ∀ x ∈ xs, 0 ≤ x ∧ x ≤ 255) :
    Calls Try.prog 5 #[.slice A xs.length c] w (Ret fun v w' => ∃ (hD : LH) (ys : List Int) (A1 B1 C1 : Option Addr) (n1 c1 n2 c2 n3 c3 : Nat), v = .agg #[.slice A1 n1 c1, .slice B1 n2 c2, .slice C1 n3 c3] ∧ n1 = hD.cells.length ∧ n2 = hD.roots.length ∧ n3 = ys.length ∧ hsize hD ≤ 300 ∧ ys.length ≤ 301 ∧ RC (fun i => w.heap.size ≤ i) w' A1 hD.cells ∧ R1 (fun i => w.heap.size ≤ i) w' B1 (ints hD.roots) ∧ R1 (fun i => w.heap.size ≤ i) w' C1 (ints ys) ∧ Grow w w') := by
 refine enter Try.func5 rfl Try.ntmps5 (L := [_,_,_,_,_,_]) rfl ?_
 have G := Mod.refl No w
 have hA0 := hA
 refine wp_seq_k fun K1 hK1 => ?_
 refine Sb 6 rfl ?_
 refine S_alloc (cs := [_, _, _]) zr28 rfl ?_
 intro b1 w1 fb1 g1 B1
 have lb1 := B1.lt
 replace hA := hA.grow g1
 replace G := G.grow g1
 have zg1 := g1.size
 refine S_nl rfl rfl ?_
 refine th_n (hK1 _ _ ?_)
 clear hK1 K1
 refine wp_seq_k fun K2 hK2 => ?_
 refine Sb 6 rfl ?_
 refine Smv rfl ?_
 refine S_call rfl en19 (spec_l20Open_c _ _ _ _ _ (by assumption) (by omega) (by omega) (by assumption)) ?_
 rintro v2 w2 ⟨b2, rfl, fb2, RD2, g2⟩
 replace hA := hA.grow g2
 replace G := G.grow g2
 replace B1 := B1.grow g2
 have zg2 := g2.size
 obtain ⟨bR, rfl⟩ : ∃ x, x = b2 := ⟨_, rfl⟩
 have RD := RD2
 have hbR := fb2
 refine S_call rfl en18 (spec_l20Counted_c _ _ _ _ RD (by omega) (by omega)) ?_
 rintro v3 w3 ⟨hD3, ys3, A3, B3, C3, n13, c13, n23, c23, n33, c33, p3, rfl, hn13, hn23, hn33, hz3, hy3, RC3, RR3, RY3, hp3, RD3, m3⟩
 subst hn13
 subst hn23
 subst hn33
 obtain ⟨h, rfl⟩ : ∃ x, x = hD3 := ⟨_, rfl⟩
 obtain ⟨ys, rfl⟩ : ∃ x, x = ys3 := ⟨_, rfl⟩
 have hzD := hz3
 have hyD := hy3
 obtain ⟨loD, hloD⟩ : ∃ x, x = w2.heap.size := ⟨_, rfl⟩
 obtain ⟨hiD, hhiD⟩ : ∃ x, x = w3.heap.size := ⟨_, rfl⟩
 replace RD := RD3
 clear RD3
 replace G := G.abv m3
 replace hA := hA0.grow G
 replace B1 := B1.md m3
 have zm3 := m3.size
 have hDA : RC (fun k => loD ≤ k ∧ k < hiD) w3 _ h.cells := RC.both RC3 RC3.below hloD hhiD
 have hDB : R1 (fun k => loD ≤ k ∧ k < hiD) w3 _ (ints h.roots) := R1.both RR3 RR3.below hloD hhiD
 have hDY : R1 (fun k => loD ≤ k ∧ k < hiD) w3 _ (ints ys) := R1.both RY3 RY3.below hloD hhiD
 refine S_stM (pre := []) (old := [_, _, _]) (post := []) (vs := [_, _, _]) sz28 rfl rfl rfl (by first | rfl | assumption) B1 rfl rfl ?_
 intro w4 m4 X4
 replace B1 := Blk.eq (ys := [_, _, _]) X4 rfl
 clear X4
 replace G := G.abv m4
 replace hA := hA0.grow G
 replace hDA := hDA.md m4
 replace hDB := hDB.md m4
 replace hDY := hDY.md m4
 have zm4 := m4.size
 refine S_nl rfl rfl ?_
 refine th_n (hK2 _ _ ?_)
 clear hK2 K2
 refine wp_ret ?_
 refine ret_rc (cs := [_, _, _]) U28 rfl sz28 rfl rfl (B1.row (by rfl)) ?_
 exact ⟨h, ys, _, _, _, _, _, _, _, _, _, rfl, rfl, rfl, rfl, hzD, hyD, hDA.weak (fun i hi => by first | omega | (dsimp only at hi ⊢; omega)), hDB.weak (fun i hi => by first | omega | (dsimp only at hi ⊢; omega)), hDY.weak (fun i hi => by first | omega | (dsimp only at hi ⊢; omega)), G⟩
set_option maxHeartbeats 400000 in
set_option maxRecDepth 20000 in
theorem laws_sameCounted_c (P1 P2 P5 P6 : Nat → Prop) (A B C Aq Bq Cq : Option Addr) (x y : LH) (us vs : List Int) (c d e c2 d2 e2 : Nat) (w : World) (hA : RC P1 w A x.cells) (hB : R1 P1 w B (ints x.roots)) (hC : R1 P5 w C (ints us)) (hA2 : RC P2 w Aq y.cells) (hB2 : R1 P2 w Bq (ints y.roots)) (hC2 : R1 P6 w Cq (ints vs)) (hz : hsize x ≤ 1048576) (hxz : us.length ≤ 1048576) :
    Calls Try.prog 8 #[.agg #[.slice A x.cells.length c, .slice B x.roots.length d, .slice C us.length e], .agg #[.slice Aq y.cells.length c2, .slice Bq y.roots.length d2, .slice Cq vs.length e2]] w (Ret fun v w' => v = .bool (decide (x = y) && decide (us = vs)) ∧ Grow w w') := by
 refine enter Try.func8 rfl Try.ntmps8 (L := [_,_,_,_,_,_,_,_,_,_,_,_,_,_,_,_,_]) rfl ?_
 have G := Mod.refl No w
 have hA0 := hA
 have hB0 := hB
 have hC0 := hC
 have hA20 := hA2
 have hB20 := hB2
 have hC20 := hC2
 refine wp_seq_k fun K1 hK1 => ?_
 refine Sb 17 rfl ?_
 refine S_box (cs := [_, _, _]) rfl rfl ?_
 intro b1 w1 fb1 g1 B1
 have lb1 := B1.lt
 replace hA := hA.grow g1
 replace hB := hB.grow g1
 replace hC := hC.grow g1
 replace hA2 := hA2.grow g1
 replace hB2 := hB2.grow g1
 replace hC2 := hC2.grow g1
 replace G := G.grow g1
 have zg1 := g1.size
 refine S_box (cs := [_, _, _]) rfl rfl ?_
 intro b2 w2 fb2 g2 B2
 have lb2 := B2.lt
 replace hA := hA.grow g2
 replace hB := hB.grow g2
 replace hC := hC.grow g2
 replace hA2 := hA2.grow g2
 replace hB2 := hB2.grow g2
 replace hC2 := hC2.grow g2
 replace G := G.grow g2
 replace B1 := B1.grow g2
 have zg2 := g2.size
 refine Sas rfl ?_
 refine S_nl rfl rfl ?_
 refine th_n (hK1 _ _ ?_)
 clear hK1 K1
 refine wp_seq_k fun K2 hK2 => ?_
 refine Sb 17 rfl ?_
 refine S_val (Y_field U28 rfl fz28_0 (by decide) rfl) ?_
 refine S_val (Y_loadS U26 rfl sz26 rfl (CellsAt.of_blk (pre := []) (us := [_, _]) (post := [_]) B1 rfl)) ?_
 refine S_val (Y_field U28 rfl fz28_0 (by decide) rfl) ?_
 refine S_val (Y_loadS U26 rfl sz26 rfl (CellsAt.of_blk (pre := []) (us := [_, _]) (post := [_]) B2 rfl)) ?_
 refine S_call rfl en29 (laws_sameHeap_c _ _ _ _ _ _ x y _ _ _ _ _ hA hB hA2 hB2 (by omega)) ?_
 rintro v3 w3 ⟨rfl, g3⟩
 replace hA := hA.grow g3
 replace hB := hB.grow g3
 replace hC := hC.grow g3
 replace hA2 := hA2.grow g3
 replace hB2 := hB2.grow g3
 replace hC2 := hC2.grow g3
 replace G := G.grow g3
 replace B1 := B1.grow g3
 replace B2 := B2.grow g3
 have zg3 := g3.size
 refine Smv rfl ?_
 refine S_g 10 rfl (fun hb1 => ?_) (fun hb1 => ?_)
 ·
  first | with_reducible (replace hb1 := nb_nt hb1) | with_reducible (replace hb1 := nb_tt hb1) | with_reducible (replace hb1 := nb_bt hb1) | skip
  refine S_on rfl rfl ?_
  refine S_val (Y_field U28 rfl fz28_1 (by decide) rfl) ?_
  refine S_on rfl rfl ?_
  refine S_val (Y_load U24 rfl rfl (B1.at (by rfl))) ?_
  refine S_on rfl rfl ?_
  refine S_val (Y_field U28 rfl fz28_1 (by decide) rfl) ?_
  refine S_on rfl rfl ?_
  refine S_val (Y_load U24 rfl rfl (B2.at (by rfl))) ?_
  refine S_on rfl rfl ?_
  refine S_call rfl en30 (laws_sameInts_c _ _ _ _ us vs _ _ _ hC hC2 (by omega)) ?_
  rintro v4 w4 ⟨rfl, g4⟩
  replace hA := hA.grow g4
  replace hB := hB.grow g4
  replace hC := hC.grow g4
  replace hA2 := hA2.grow g4
  replace hB2 := hB2.grow g4
  replace hC2 := hC2.grow g4
  replace G := G.grow g4
  replace B1 := B1.grow g4
  replace B2 := B2.grow g4
  have zg4 := g4.size
  refine S_val (Y_pickT rfl rfl) ?_
  refine Sas rfl ?_
  refine S_nl rfl rfl ?_
  refine th_n (hK2 _ _ ?_)
  clear hK2 K2
  refine wp_ret ?_
  refine ret_r1 rfl rfl ?_
  exact ⟨by first | (simp [hb1, hb2]; done) | simp [hb1], G⟩
 first | with_reducible (replace hb1 := nb_nf hb1) | with_reducible (replace hb1 := nb_tf hb1) | with_reducible (replace hb1 := nb_bf hb1) | skip
 refine S_off rfl rfl ?_
 refine S_off rfl rfl ?_
 refine S_off rfl rfl ?_
 refine S_off rfl rfl ?_
 refine S_off rfl rfl ?_
 refine S_val (Y_pickF rfl rfl) ?_
 refine Sas rfl ?_
 refine S_nl rfl rfl ?_
 refine th_n (hK2 _ _ ?_)
 clear hK2 K2
 refine wp_ret ?_
 refine ret_r1 rfl rfl ?_
 exact ⟨by first | (simp [hb1, hb2]; done) | simp [hb1], G⟩
end
/-! WalkCy -/
section
open Go Go.RowKit
attribute [local irreducible] wpList wpAnyH Code.wp dOp
set_option maxHeartbeats 400000 in
set_option maxRecDepth 20000 in
theorem impl_counted_c (Pr : Nat → Prop) (A B : Option Addr) (h : LH) (c d : Nat) (w : World) (hA : RC Pr w A h.cells) (hB : R1 Pr w B (ints h.roots)) (hz : hsize h ≤ 1048576) (hl : Leads h.cells h.roots nn) :
    Calls Try.prog 23 #[.agg #[.slice A h.cells.length c, .slice B h.roots.length d]] w (Ret fun v w' => ∃ b, v = .agg #[.slice A h.cells.length c, .slice B h.roots.length d, .slice (some ⟨b, 0, none⟩) h.cells.length h.cells.length] ∧ w.heap.size ≤ b ∧ Blk w' b 3 (ints (cntL h.cells.length (refsAll h fun _ => false))).toArray ∧ Grow w w') := by
 have hz1 := hsize_cells h
 have hz2 := hsize_roots h
 have hne : (50 : TypeId) ≠ 3 := by decide
 refine enter Try.func23 rfl Try.ntmps23 (L := [_,_,_,_,_,_,_]) rfl ?_
 have G := Mod.refl No w
 have hA0 := hA
 have hB0 := hB
 refine wp_seq_k fun K1 hK1 => ?_
 refine Sb 7 rfl ?_
 refine S_box (cs := [_, _]) rfl rfl ?_
 intro b1 w1 fb1 g1 B1
 have lb1 := B1.lt
 replace hA := hA.grow g1
 replace hB := hB.grow g1
 replace G := G.grow g1
 have zg1 := g1.size
 refine S_alloc (cs := [_, _, _]) zr28 rfl ?_
 intro b2 w2 fb2 g2 B2
 have lb2 := B2.lt
 replace hA := hA.grow g2
 replace hB := hB.grow g2
 replace G := G.grow g2
 replace B1 := B1.grow g2
 have zg2 := g2.size
 refine S_nl rfl rfl ?_
 refine th_n (hK1 _ _ ?_)
 clear hK1 K1
 refine wp_seq_k fun K2 hK2 => ?_
 refine D_start 5 7 (fun w => Mod (fun i => i = b2) w) follows rfl rfl ?_
 intro w3 g3
 replace hA := hA.grow g3
 replace hB := hB.grow g3
 replace G := G.grow g3
 replace B1 := B1.grow g3
 replace B2 := B2.grow g3
 have zg3 := g3.size
 have GS3 := Mod.refl (fun i => i = b2) w3
 refine Dq (i := 0) rfl GS3 (fun _ hs => Y_loadS U26 rfl sz26 rfl (by first | exact CellsAt.mod (B1.row (by rfl)) hs (by intro h; first | omega | (dsimp only at h; omega)))) ?_
 refine Dq (i := 1) rfl GS3 (fun _ hs => Y_loadS U26 rfl sz26 rfl (by first | exact CellsAt.mod (B1.row (by rfl)) hs (by intro h; first | omega | (dsimp only at h; omega)))) ?_
 refine D_1 (i := 2) (by kernel_rfl) ?_
 refine E_call rfl rfl en38 (impl_refCounts_c _ _ _ h _ _ 0 _ hA hB (by omega) hl (by decide)) ?_
 rintro v4 w4 ⟨b4, rfl, fb4, B4, g4⟩
 replace hA := hA.grow g4
 replace hB := hB.grow g4
 replace G := G.grow g4
 replace GS3 := GS3.grow g4
 replace B1 := B1.grow g4
 replace B2 := B2.grow g4
 have zg4 := g4.size
 have lb4 := B4.lt
 rw [show (fun i => Nat.testBit 0 i) = (fun _ => false) by funext i; simp] at B4
 have hfb := fb4
 obtain ⟨bC, rfl⟩ : ∃ x, x = b4 := ⟨_, rfl⟩
 have BC := B4
 refine ⟨GS3, ?_⟩
 refine Dq (i := 3) rfl GS3 (fun _ _ => Y_build (cs := [_, _, _]) zr28 pc28 rfl rfl) ?_
 refine D_1 (i := 4) (by kernel_rfl) ?_
 refine E_stM (pre := []) (old := [_, _, _]) (post := []) (vs := [_, _, _]) (i := 4) rfl sz28 rfl rfl rfl (by first | rfl | assumption) B2 rfl rfl ?_
 intro w5 m5 X5
 replace B2 := Blk.eq (ys := [_, _, _]) X5 rfl
 clear X5
 replace G := G.abv m5
 replace GS3 := GS3.trn m5
 replace hA := hA0.grow G
 replace hB := hB0.grow G
 replace B1 := B1.md m5
 replace BC := BC.md m5
 have zm5 := m5.size
 refine ⟨GS3, ?_⟩
 refine D_en (by kernel_rfl) rfl rfl ?_
 refine th_n (hK2 _ _ ?_)
 clear hK2 K2
 refine wp_ret ?_
 refine ret_rc (cs := [_, _, _]) U28 rfl sz28 rfl rfl (B2.row (by rfl)) ?_
 exact ⟨_, rfl, by omega, BC, G⟩
set_option maxHeartbeats 400000 in
set_option maxRecDepth 20000 in
theorem impl_CollectCycles_c (Pr : Nat → Prop) (A B C : Option Addr) (h : LH) (xs : List Int) (c d e : Nat) (w : World) (hA : RC Pr w A h.cells) (hB : R1 Pr w B (ints h.roots)) (hC : R1 Pr w C (ints xs)) (hz : hsize h ≤ 1048576) (hxz : xs.length ≤ 1048576) :
    Calls Try.prog 6 #[.agg #[.slice A h.cells.length c, .slice B h.roots.length d, .slice C xs.length e]] w (Ret fun v w' => ∃ A1 B1 C1 n1 c1 n2 c2 n3 c3 rs P1 P2, v = .tuple #[.agg #[.slice A1 n1 c1, .slice B1 n2 c2, .slice C1 n3 c3], .int .i64 (cycleV h xs).2] ∧ n1 = (cycleV h xs).1.1.cells.length ∧ n2 = (cycleV h xs).1.1.roots.length ∧ n3 = (cycleV h xs).1.2.length ∧ (∀ i : Nat, P1 i → w.heap.size ≤ i ∧ ¬ P2 i) ∧ (∀ i : Nat, P2 i → w.heap.size ≤ i) ∧ OH P1 w' 50 3 A1 B1 (cycleV h xs).1.1 rs ∧ OI P2 w' 3 C1 (ints (cycleV h xs).1.2) ∧ Grow w w') := by
 have hz1 := hsize_cells h
 have hz2 := hsize_roots h
 have hne : (50 : TypeId) ≠ 3 := by decide
 refine enter Try.func6 rfl Try.ntmps6 (L := [_,_,_,_,_,_,_,_,_,_,_,_,_,_,_,_,_,_,_,_,_,_,_,_,_,_,_,_,_,_,_,_,_,_,_,_]) rfl ?_
 have G := Mod.refl No w
 have hA0 := hA
 have hB0 := hB
 have hC0 := hC
 refine wp_seq_k fun K1 hK1 => ?_
 refine Sb 36 rfl ?_
 refine S_box (cs := [_, _, _]) rfl rfl ?_
 intro b1 w1 fb1 g1 B1
 have lb1 := B1.lt
 replace hA := hA.grow g1
 replace hB := hB.grow g1
 replace hC := hC.grow g1
 replace G := G.grow g1
 have zg1 := g1.size
 refine S_alloc (cs := [_, _, _]) zr28 rfl ?_
 intro b2 w2 fb2 g2 B2
 have lb2 := B2.lt
 replace hA := hA.grow g2
 replace hB := hB.grow g2
 replace hC := hC.grow g2
 replace G := G.grow g2
 replace B1 := B1.grow g2
 have zg2 := g2.size
 refine Sas rfl ?_
 refine S_nl rfl rfl ?_
 refine th_n (hK1 _ _ ?_)
 clear hK1 K1
 refine wp_seq_k fun K2 hK2 => ?_
 refine wp_seq_k fun K3 hK3 => ?_
 refine Sb 36 rfl ?_
 refine S_val (Y_loadS U28 rfl sz28 rfl (B1.row (by rfl))) ?_
 refine S_call rfl en11 (impl_CountedValid_c _ _ _ _ _ _ _ _ _ _ (by assumption) (by assumption) (by assumption) (by omega) (by omega)) ?_
 rintro v3 w3 ⟨rfl, g3⟩
 replace hA := hA.grow g3
 replace hB := hB.grow g3
 replace hC := hC.grow g3
 replace G := G.grow g3
 replace B1 := B1.grow g3
 replace B2 := B2.grow g3
 have zg3 := g3.size
 refine S_val (Y_not rfl) ?_
 refine S_nl rfl rfl ?_
 refine th_n (hK3 _ _ ?_)
 clear hK3 K3
 refine S_if rfl (fun hb1 => ?_) (fun hb1 => ?_)
 ·
  first | with_reducible (replace hb1 := nb_nt hb1) | with_reducible (replace hb1 := nb_tt hb1) | with_reducible (replace hb1 := nb_bt hb1) | skip
  refine wp_seq_k fun K4 hK4 => ?_
  refine Sb 36 rfl ?_
  refine S_val (Y_build (cs := [_, _, _]) zr28 pc28 rfl rfl) ?_
  refine S_stM (pre := []) (old := [_, _, _]) (post := []) (vs := [_, _, _]) sz28 rfl rfl rfl (by first | rfl | assumption) B2 rfl rfl ?_
  intro w4 m4 X4
  replace B2 := Blk.eq (ys := [_, _, _]) X4 rfl
  clear X4
  replace G := G.abv m4
  replace hA := hA0.grow G
  replace hB := hB0.grow G
  replace hC := hC0.grow G
  replace B1 := B1.md m4
  have zm4 := m4.size
  refine Sas rfl ?_
  refine S_nl rfl rfl ?_
  refine th_n (hK4 _ _ ?_)
  clear hK4 K4
  refine wp_ret ?_
  refine th_r ?_
  clear hK2 K2
  refine ret_rct (cs := [_, _, _]) U28 rfl sz28 rfl rfl rfl (B2.row (by rfl)) ?_
  have hsv := cycleV_f hb1
  exact ⟨_, _, _, _, _, _, _, _, _, [], No, No, by rw [hsv], by rw [hsv]; rfl, by rw [hsv]; rfl, by rw [hsv]; rfl, fun i h => h.elim, fun i h => h.elim, by rw [hsv]; exact OH.nil _ _ _ _ _ _, by rw [hsv]; exact OI.nil _ _ _ _, G⟩
 first | with_reducible (replace hb1 := nb_nf hb1) | with_reducible (replace hb1 := nb_tf hb1) | with_reducible (replace hb1 := nb_bf hb1) | skip
 have va := valid_iff.1 (cval_valid hb1)
 have h40 := va.le
 have hr4 := va.roots4
 refine wp_skip ?_
 refine th_n (hK2 _ _ ?_)
 clear hK2 K2
 refine wp_seq_k fun K5 hK5 => ?_
 refine Sb 36 rfl ?_
 refine S_val (Y_field U28 rfl fz28_0 (by decide) rfl) ?_
 refine S_val (Y_loadS U26 rfl sz26 rfl (CellsAt.of_blk (pre := []) (us := [_, _]) (post := [_]) B1 rfl)) ?_
 refine S_call rfl en20 (impl_copyHeap_c _ _ _ _ _ _ _ (by assumption) (by assumption) (by omega)) ?_
 rintro v5 w5 ⟨A5, B5, n15, c15, n25, c25, rs5, rfl, hn15, hn25, O5, g5⟩
 replace hA := hA.grow g5
 replace hB := hB.grow g5
 replace hC := hC.grow g5
 replace G := G.grow g5
 replace B1 := B1.grow g5
 replace B2 := B2.grow g5
 have zg5 := g5.size
 subst hn15
 subst hn25
 obtain ⟨AH, rfl⟩ : ∃ x, x = A5 := ⟨_, rfl⟩
 obtain ⟨BH, rfl⟩ : ∃ x, x = B5 := ⟨_, rfl⟩
 obtain ⟨cH, rfl⟩ : ∃ x, x = c15 := ⟨_, rfl⟩
 obtain ⟨dH, rfl⟩ : ∃ x, x = c25 := ⟨_, rfl⟩
 obtain ⟨rsH, rfl⟩ : ∃ x, x = rs5 := ⟨_, rfl⟩
 have OX := O5.lt
 refine S_alloc (cs := [_, _]) zr26 rfl ?_
 intro b6 w6 fb6 g6 B6
 have lb6 := B6.lt
 replace hA := hA.grow g6
 replace hB := hB.grow g6
 replace hC := hC.grow g6
 replace OX := OX.grow g6
 replace G := G.grow g6
 replace B1 := B1.grow g6
 replace B2 := B2.grow g6
 have zg6 := g6.size
 refine S_stM (pre := []) (old := [_, _]) (post := []) (vs := [_, _]) sz26 rfl rfl rfl (by first | rfl | assumption) B6 rfl rfl ?_
 intro w7 m7 X7
 replace B6 := Blk.eq (ys := [_, _]) X7 rfl
 clear X7
 replace G := G.abv m7
 replace hA := hA0.grow G
 replace hB := hB0.grow G
 replace hC := hC0.grow G
 replace OX := OX.md m7
 replace B1 := B1.md m7
 replace B2 := B2.md m7
 have zm7 := m7.size
 refine S_nl rfl rfl ?_
 refine th_n (hK5 _ _ ?_)
 clear hK5 K5
 refine wp_seq_k fun K6 hK6 => ?_
 refine Sb 36 rfl ?_
 refine Sas rfl ?_
 refine S_nl rfl rfl ?_
 refine th_n (hK6 _ _ ?_)
 clear hK6 K6
 refine wp_seq_k fun K7 hK7 => ?_
 refine wp_seq_k fun K8 hK8 => ?_
 refine Sb 36 rfl ?_
 refine S_val (Y_field U26 rfl fz26_0 (by decide) rfl) ?_
 refine S_val (Y_load U23 rfl rfl (B6.at (by rfl))) ?_
 refine S_val (Y_len U23 rfl) ?_
 refine Smv rfl ?_
 refine S_nl rfl rfl ?_
 refine th_n (hK8 _ _ ?_)
 clear hK8 K8
 refine wp_block ?_
 have OC1 := OX.split hne
 have OR1 := OX.roots
 replace OC1 : OC (fun i => b2 < i ∧ i < b6 ∧ ¬ (BH = some ⟨i, 0, none⟩ ∧ h.roots ≠ [])) w7 50 3 AH h.cells rsH := OC1.weak (fun i h => by have h1 := h.1; have h2 := h.2; dsimp only at h1; exact ⟨by omega, by omega, h2⟩)
 replace OR1 := OR1.weak (Pr' := fun i => b2 < i ∧ i < b6) (fun i h => by omega)
 go_loopw [5, 17] (fun u5 u17 wr => (∃ (k : Nat) (rs1 : List (Option Addr × Nat)), u17 = .int .i64 k ∧ u5 = .int .i64 ((cycN h k : Nat) : Int) ∧ k ≤ h.cells.length ∧ OC (fun i => b2 < i ∧ i < b6 ∧ ¬ (BH = some ⟨i, 0, none⟩ ∧ h.roots ≠ [])) wr 50 3 AH (cycH h k).cells rs1 ∧ SubC (cycH h k).cells rs1 h.cells rsH ∧ OI (fun i => b2 < i ∧ i < b6) wr 3 BH (ints h.roots)) ∧ Mod (fun i => b2 < i ∧ i < b6) w7 wr) (fun u5 u17 wr => h.cells.length - (intOf u17).toNat)
 case atStart =>
  refine ⟨?_, Mod.refl _ _⟩
  exact ⟨0, rsH, rfl, rfl, by omega, OC1, SubC.refl _ _, OR1⟩
 case round =>
  obtain ⟨w8, rfl⟩ : ∃ x : World, x = wr := ⟨_, rfl⟩
  obtain ⟨hrel, g8⟩ := hrel
  clear OC1
  clear OR1
  replace G := G.abv g8
  replace hA := hA0.grow G
  replace hB := hB0.grow G
  replace hC := hC0.grow G
  replace B1 := B1.md g8
  replace B2 := B2.md g8
  replace B6 := B6.md g8
  have zg8 := g8.size
  obtain ⟨k, rs1, rfl, rfl, hk, OC1, hsub, OR1⟩ := hrel
  have vk := cycH_valid va k
  have hlen := cycH_len h k
  have hrt := cycH_roots h k
  have GL8 := g8
  refine wp_seq_k fun K9 hK9 => ?_
  refine Sb 36 rfl ?_
  refine S_val (Y_lss rfl rfl) ?_
  refine S_nl rfl rfl ?_
  refine th_n (hK9 _ _ ?_)
  clear hK9 K9
  refine wp_seq_k fun K10 hK10 => ?_
  refine S_if rfl (fun hb2 => ?_) (fun hb2 => ?_)
  ·
   replace hb2 := nb_tt hb2
   have hk1 : k < h.cells.length := by omega
   have hRA := (OC1.weak (Pr' := fun i => b2 < i ∧ i < b6) (fun i h => ⟨h.1, h.2.1⟩)).rc
   have hRB : R1 (fun i => b2 < i ∧ i < b6) w8 BH (ints (cycH h k).roots) := by rw [hrt]; exact OR1.r1
   obtain ⟨g2, o2, E2, d2, rfl, hp2, cc2, _⟩ := hRA.cell (k := k) (by omega)
   have hcn := cycN_small va hk
   have hcn2 := cycN_small va (k := k + 1) hk1
   refine wp_skip ?_
   refine th_n (hK10 _ _ ?_)
   clear hK10 K10
   refine wp_seq_k fun K11 hK11 => ?_
   refine wp_block ?_
   refine wp_seq_k fun K12 hK12 => ?_
   refine Sb 36 rfl ?_
   refine Smv rfl ?_
   refine Sas rfl ?_
   refine S_nl rfl rfl ?_
   refine th_n (hK12 _ _ ?_)
   clear hK12 K12
   refine wp_seq_k fun K13 hK13 => ?_
   refine Sb 36 rfl ?_
   refine S_val (Y_field U26 rfl fz26_0 (by decide) rfl) ?_
   refine S_val (Y_load U23 rfl rfl (B6.at (by rfl))) ?_
   refine Smv rfl ?_
   refine S_val (Y_index U23 sz50 rfl rfl (by first | assumption | omega)) ?_
   refine S_val (Y_field U50 rfl fz50_0 (by decide) rfl) ?_
   refine S_val (Y_load U4 rfl rfl (by first | assumption | exact cc2.at (by rfl) | exact B1.at (by rfl) | exact B2.at (by rfl) | exact B6.at (by rfl))) ?_
   refine S_nl rfl rfl ?_
   refine th_n (hK13 _ _ ?_)
   clear hK13 K13
   refine S_if rfl (fun hb3 => ?_) (fun hb3 => ?_)
   ·
    first | with_reducible (replace hb3 := nb_nt hb3) | with_reducible (replace hb3 := nb_tt hb3) | with_reducible (replace hb3 := nb_bt hb3) | skip
    have hu : usedAt (cycH h k).cells k = true := by rw [usedAt_at (by omega)]; exact hb3
    refine Sb 36 rfl ?_
    refine Smv rfl ?_
    refine S_val (Y_loadS U26 rfl sz26 rfl (B6.row (by rfl))) ?_
    refine Smv rfl ?_
    refine S_call rfl en22 ((by have h0 := impl_deadCycle_c _ _ _ (cycH h k) k cH dH _ hRA hRB (by have := vk.small; omega) vk (by omega) hu; rw [hlen, hrt] at h0; exact h0)) ?_
    rintro v9 w9 ⟨m9, rfl, hs9, hr9, g9⟩
    replace hA := hA.grow g9
    replace hB := hB.grow g9
    replace hC := hC.grow g9
    replace OC1 := OC1.grow g9
    replace OR1 := OR1.grow g9
    replace G := G.grow g9
    replace GL8 := GL8.grow g9
    replace B1 := B1.grow g9
    replace B2 := B2.grow g9
    replace B6 := B6.grow g9
    replace cc2 := cc2.grow g9
    have zg9 := g9.size
    obtain ⟨m0, rfl⟩ : ∃ x, x = m9 := ⟨_, rfl⟩
    have hD0 := hs9
    have hD9 := hr9
    refine S_call rfl en21 (impl_freeCells_c _ b6 _ _ (cycH h k).cells rs1 cH m0 _ (by rw [hlen]; exact B6) OC1 hD0 (by omega) (fun hh => absurd hh.2.1 (by omega))) ?_
    rintro v10 w10 ⟨rs9, hv10, OC9, sub9, mq10⟩
    rw [dead_all vk (by omega) hu hD9] at hv10 OC9 sub9
    rw [hlen] at hv10
    subst hv10
    have OR9 := OR1.keep mq10 (fun b e1 e2 e3 => e3.2.2 ⟨e1, ints_ne.1 e2⟩)
    have m10 := mq10.weak (T := fun i => b2 < i ∧ i < b6) (fun i h _ => ⟨h.1, h.2.1⟩)
    replace G := G.abv m10
    replace GL8 := GL8.trn m10
    replace hA := hA0.grow G
    replace hB := hB0.grow G
    replace hC := hC0.grow G
    replace B1 := B1.md m10
    replace B2 := B2.md m10
    replace B6 := B6.md m10
    clear cc2
    have zm10 := m10.size
    refine S_val (Y_add (c := ((cycN h (k + 1) : Nat) : Int)) rfl rfl (by rw [cycN_t hu]; omega) (by omega) (by omega)) ?_
    refine Sas rfl ?_
    refine S_nl rfl rfl ?_
    refine ib_n ?_
    refine th_n (hK11 _ _ ?_)
    clear hK11 K11
    refine Sb 36 rfl ?_
    refine S_val (Y_inc rfl rfl (by omega)) ?_
    refine Smv rfl ?_
    refine S_nl rfl rfl ?_
    refine th_n ?_
    go_roundw
    case rel =>
     refine ⟨?_, GL8⟩
     first | exact ⟨k + 1, rs9, rfl, rfl, by omega, OC9.cast (by rw [cycH_t hu]; rfl), (sub9.trans hsub).cast (by rw [cycH_t hu]; rfl), OR9⟩ | exact ⟨k + 1, rs1, rfl, by rw [cycN_f hu], by omega, OC1.cast (by rw [cycH_f hu]), hsub.cast (by rw [cycH_f hu]), OR1⟩
    case measure =>
     exact dec_nat (by omega)
   first | with_reducible (replace hb3 := nb_nf hb3) | with_reducible (replace hb3 := nb_tf hb3) | with_reducible (replace hb3 := nb_bf hb3) | skip
   have hu : usedAt (cycH h k).cells k = false := by rw [usedAt_at (by omega)]; exact hb3
   refine wp_skip ?_
   refine ib_n ?_
   refine th_n (hK11 _ _ ?_)
   clear hK11 K11
   refine Sb 36 rfl ?_
   refine S_val (Y_inc rfl rfl (by omega)) ?_
   refine Smv rfl ?_
   refine S_nl rfl rfl ?_
   refine th_n ?_
   go_roundw
   case rel =>
    refine ⟨?_, GL8⟩
    first | exact ⟨k + 1, rs9, rfl, rfl, by omega, OC9.cast (by rw [cycH_t hu]; rfl), (sub9.trans hsub).cast (by rw [cycH_t hu]; rfl), OR9⟩ | exact ⟨k + 1, rs1, rfl, by rw [cycN_f hu], by omega, OC1.cast (by rw [cycH_f hu]), hsub.cast (by rw [cycH_f hu]), OR1⟩
   case measure =>
    exact dec_nat (by omega)
  replace hb2 := nb_tf hb2
  have hkN : k = h.cells.length := by omega
  have hRA := (OC1.weak (Pr' := fun i => b2 < i ∧ i < b6) (fun i h => ⟨h.1, h.2.1⟩)).rc
  have hRB : R1 (fun i => b2 < i ∧ i < b6) w8 BH (ints (cycH h k).roots) := by rw [hrt]; exact OR1.r1
  replace OC1 := OC1.weak (Pr' := fun i => b2 < i ∧ i < b6) (fun i h => ⟨h.1, h.2.1⟩)
  refine wp_exit ?_
  refine th_x ?_
  try clear GL8
  refine th_x ?_
  refine ib_e ?_
  refine th_n (hK7 _ _ ?_)
  clear hK10 K10 hK7 K7
  refine wp_seq_k fun K14 hK14 => ?_
  refine Sb 36 rfl ?_
  refine S_val (Y_loadS U26 rfl sz26 rfl (B6.row (by rfl))) ?_
  refine S_call rfl en23 ((by have h0 := impl_counted_c _ _ _ (cycH h k) cH dH _ hRA hRB (by have := vk.small; omega) vk.leads; rw [hlen, hrt] at h0; exact h0)) ?_
  rintro v11 w11 ⟨b11, rfl, fb11, B11, g11⟩
  replace hA := hA.grow g11
  replace hB := hB.grow g11
  replace hC := hC.grow g11
  replace OC1 := OC1.grow g11
  replace OR1 := OR1.grow g11
  replace G := G.grow g11
  replace B1 := B1.grow g11
  replace B2 := B2.grow g11
  replace B6 := B6.grow g11
  have zg11 := g11.size
  have lb11 := B11.lt
  have hfC := fb11
  obtain ⟨bC, rfl⟩ : ∃ x, x = b11 := ⟨_, rfl⟩
  have BC := B11
  refine Smv rfl ?_
  refine S_stM (pre := []) (old := [_, _, _]) (post := []) (vs := [_, _, _]) sz28 rfl rfl rfl (by first | rfl | assumption) B2 rfl rfl ?_
  intro w12 m12 X12
  replace B2 := Blk.eq (ys := [_, _, _]) X12 rfl
  clear X12
  replace G := G.abv m12
  replace hA := hA0.grow G
  replace hB := hB0.grow G
  replace hC := hC0.grow G
  replace OC1 := OC1.md m12
  replace OR1 := OR1.md m12
  replace B1 := B1.md m12
  replace B6 := B6.md m12
  replace BC := BC.md m12
  have zm12 := m12.size
  refine Sas rfl ?_
  refine S_nl rfl rfl ?_
  refine th_n (hK14 _ _ ?_)
  clear hK14 K14
  refine wp_ret ?_
  refine ret_rct (cs := [_, _, _]) U28 rfl sz28 rfl rfl rfl (B2.row (by rfl)) ?_
  have hsv := cycleV_t hb1
  subst hkN
  refine ⟨_, _, _, _, _, _, _, _, _, rs1, fun i => b2 < i ∧ i < b6, fun i => i = bC, by rw [hsv], by rw [hsv]; exact hlen.symm, by rw [hsv]; exact congrArg List.length hrt.symm, by rw [hsv]; exact (cntL_len _ _).symm, fun i hi => ⟨by omega, by omega⟩, fun i hi => by omega, ?_, by rw [hsv]; exact OI.of_blk' BC rfl, G⟩
  rw [hsv]
  have OF := OH.freed (S := fun i => b2 < i ∧ i < b6) OX OC1 hsub OR1 (fun _ h => h) (fun _ h => h)
  rw [← hrt] at OF
  exact OF
set_option maxHeartbeats 400000 in
set_option maxRecDepth 20000 in
theorem spec_CollectCycles_c (Pr : Nat → Prop) (A B C : Option Addr) (h : LH) (xs : List Int) (c d e : Nat) (w : World) (hA : RC Pr w A h.cells) (hB : R1 Pr w B (ints h.roots)) (hC : R1 Pr w C (ints xs)) (hz : hsize h ≤ 1048576) (hxz : xs.length ≤ 1048576) :
    Calls Try.prog 7 #[.agg #[.slice A h.cells.length c, .slice B h.roots.length d, .slice C xs.length e]] w (Ret fun v w' => ∃ A1 B1 C1 n1 c1 n2 c2 n3 c3 rs P1 P2, v = .tuple #[.agg #[.slice A1 n1 c1, .slice B1 n2 c2, .slice C1 n3 c3], .int .i64 (cycleV h xs).2] ∧ n1 = (cycleV h xs).1.1.cells.length ∧ n2 = (cycleV h xs).1.1.roots.length ∧ n3 = (cycleV h xs).1.2.length ∧ (∀ i : Nat, P1 i → w.heap.size ≤ i ∧ ¬ P2 i) ∧ (∀ i : Nat, P2 i → w.heap.size ≤ i) ∧ OH P1 w' 50 3 A1 B1 (cycleV h xs).1.1 rs ∧ OI P2 w' 3 C1 (ints (cycleV h xs).1.2) ∧ Grow w w') := by
 have hz1 := hsize_cells h
 have hz2 := hsize_roots h
 have hne : (50 : TypeId) ≠ 3 := by decide
 refine enter Try.func7 rfl Try.ntmps7 (L := [_,_,_,_,_,_,_,_,_,_,_,_,_,_,_,_,_,_,_,_,_,_,_,_,_,_,_,_,_,_,_,_,_,_,_,_,_,_,_,_,_,_,_,_,_,_,_,_,_,_,_,_,_]) rfl ?_
 have G := Mod.refl No w
 have hA0 := hA
 have hB0 := hB
 have hC0 := hC
 refine wp_seq_k fun K1 hK1 => ?_
 refine Sb 53 rfl ?_
 refine S_box (cs := [_, _, _]) rfl rfl ?_
 intro b1 w1 fb1 g1 B1
 have lb1 := B1.lt
 replace hA := hA.grow g1
 replace hB := hB.grow g1
 replace hC := hC.grow g1
 replace G := G.grow g1
 have zg1 := g1.size
 refine S_alloc (cs := [_, _, _]) zr28 rfl ?_
 intro b2 w2 fb2 g2 B2
 have lb2 := B2.lt
 replace hA := hA.grow g2
 replace hB := hB.grow g2
 replace hC := hC.grow g2
 replace G := G.grow g2
 replace B1 := B1.grow g2
 have zg2 := g2.size
 refine Sas rfl ?_
 refine S_nl rfl rfl ?_
 refine th_n (hK1 _ _ ?_)
 clear hK1 K1
 refine wp_seq_k fun K2 hK2 => ?_
 refine wp_seq_k fun K3 hK3 => ?_
 refine Sb 53 rfl ?_
 refine S_val (Y_loadS U28 rfl sz28 rfl (B1.row (by rfl))) ?_
 refine S_call rfl en24 (spec_CountedValid_c _ _ _ _ _ _ _ _ _ _ (by assumption) (by assumption) (by assumption) (by omega) (by omega)) ?_
 rintro v3 w3 ⟨rfl, g3⟩
 replace hA := hA.grow g3
 replace hB := hB.grow g3
 replace hC := hC.grow g3
 replace G := G.grow g3
 replace B1 := B1.grow g3
 replace B2 := B2.grow g3
 have zg3 := g3.size
 refine S_val (Y_not rfl) ?_
 refine S_nl rfl rfl ?_
 refine th_n (hK3 _ _ ?_)
 clear hK3 K3
 refine S_if rfl (fun hb1 => ?_) (fun hb1 => ?_)
 ·
  first | with_reducible (replace hb1 := nb_nt hb1) | with_reducible (replace hb1 := nb_tt hb1) | with_reducible (replace hb1 := nb_bt hb1) | skip
  refine wp_seq_k fun K4 hK4 => ?_
  refine Sb 53 rfl ?_
  refine S_val (Y_build (cs := [_, _, _]) zr28 pc28 rfl rfl) ?_
  refine S_stM (pre := []) (old := [_, _, _]) (post := []) (vs := [_, _, _]) sz28 rfl rfl rfl (by first | rfl | assumption) B2 rfl rfl ?_
  intro w4 m4 X4
  replace B2 := Blk.eq (ys := [_, _, _]) X4 rfl
  clear X4
  replace G := G.abv m4
  replace hA := hA0.grow G
  replace hB := hB0.grow G
  replace hC := hC0.grow G
  replace B1 := B1.md m4
  have zm4 := m4.size
  refine Sas rfl ?_
  refine S_nl rfl rfl ?_
  refine th_n (hK4 _ _ ?_)
  clear hK4 K4
  refine wp_ret ?_
  refine th_r ?_
  clear hK2 K2
  refine ret_rct (cs := [_, _, _]) U28 rfl sz28 rfl rfl rfl (B2.row (by rfl)) ?_
  have hsv := cycleV_f hb1
  exact ⟨_, _, _, _, _, _, _, _, _, [], No, No, by rw [hsv], by rw [hsv]; rfl, by rw [hsv]; rfl, by rw [hsv]; rfl, fun i h => h.elim, fun i h => h.elim, by rw [hsv]; exact OH.nil _ _ _ _ _ _, by rw [hsv]; exact OI.nil _ _ _ _, G⟩
 first | with_reducible (replace hb1 := nb_nf hb1) | with_reducible (replace hb1 := nb_tf hb1) | with_reducible (replace hb1 := nb_bf hb1) | skip
 have va := valid_iff.1 (cval_valid hb1)
 have h40 := va.le
 have hr4 := va.roots4
 refine wp_skip ?_
 refine th_n (hK2 _ _ ?_)
 clear hK2 K2
 refine wp_seq_k fun K5 hK5 => ?_
 refine Sb 53 rfl ?_
 refine S_val (Y_field U28 rfl fz28_0 (by decide) rfl) ?_
 refine S_val (Y_loadS U26 rfl sz26 rfl (CellsAt.of_blk (pre := []) (us := [_, _]) (post := [_]) B1 rfl)) ?_
 refine S_call rfl en25 (spec_l7Copy_c _ _ _ _ _ _ _ (by assumption) (by assumption) (by omega)) ?_
 rintro v5 w5 ⟨A5, B5, n15, c15, n25, c25, rs5, rfl, hn15, hn25, O5, g5⟩
 replace hA := hA.grow g5
 replace hB := hB.grow g5
 replace hC := hC.grow g5
 replace G := G.grow g5
 replace B1 := B1.grow g5
 replace B2 := B2.grow g5
 have zg5 := g5.size
 subst hn15
 subst hn25
 obtain ⟨AH, rfl⟩ : ∃ x, x = A5 := ⟨_, rfl⟩
 obtain ⟨BH, rfl⟩ : ∃ x, x = B5 := ⟨_, rfl⟩
 obtain ⟨cH, rfl⟩ : ∃ x, x = c15 := ⟨_, rfl⟩
 obtain ⟨dH, rfl⟩ : ∃ x, x = c25 := ⟨_, rfl⟩
 obtain ⟨rsH, rfl⟩ : ∃ x, x = rs5 := ⟨_, rfl⟩
 have OX := O5.lt
 refine S_alloc (cs := [_, _]) zr26 rfl ?_
 intro b6 w6 fb6 g6 B6
 have lb6 := B6.lt
 replace hA := hA.grow g6
 replace hB := hB.grow g6
 replace hC := hC.grow g6
 replace OX := OX.grow g6
 replace G := G.grow g6
 replace B1 := B1.grow g6
 replace B2 := B2.grow g6
 have zg6 := g6.size
 refine S_stM (pre := []) (old := [_, _]) (post := []) (vs := [_, _]) sz26 rfl rfl rfl (by first | rfl | assumption) B6 rfl rfl ?_
 intro w7 m7 X7
 replace B6 := Blk.eq (ys := [_, _]) X7 rfl
 clear X7
 replace G := G.abv m7
 replace hA := hA0.grow G
 replace hB := hB0.grow G
 replace hC := hC0.grow G
 replace OX := OX.md m7
 replace B1 := B1.md m7
 replace B2 := B2.md m7
 have zm7 := m7.size
 refine S_nl rfl rfl ?_
 refine th_n (hK5 _ _ ?_)
 clear hK5 K5
 refine wp_seq_k fun K6 hK6 => ?_
 refine Sb 53 rfl ?_
 refine Sas rfl ?_
 refine S_nl rfl rfl ?_
 refine th_n (hK6 _ _ ?_)
 clear hK6 K6
 refine wp_seq_k fun K7 hK7 => ?_
 refine wp_seq_k fun K8 hK8 => ?_
 refine Sb 53 rfl ?_
 refine Sas rfl ?_
 refine S_nl rfl rfl ?_
 refine th_n (hK8 _ _ ?_)
 clear hK8 K8
 refine wp_block ?_
 replace OX := OX.weak (Pr' := fun i => b2 < i ∧ i ≠ b6) (fun i h => by omega)
 go_loopw [5, 6] (fun u5 u6 wr => (∃ (k c1 d1 : Nat) (A1 B1 : Option Addr) (rs1 : List (Option Addr × Nat)), u6 = .int .i64 k ∧ u5 = .int .i64 ((cycN h k : Nat) : Int) ∧ k ≤ h.cells.length ∧ Blk wr b6 26 [.slice A1 (cycH h k).cells.length c1, .slice B1 (cycH h k).roots.length d1].toArray ∧ OH (fun i => b2 < i ∧ i ≠ b6) wr 50 3 A1 B1 (cycH h k) rs1) ∧ Mod (fun i => i = b6) w7 wr) (fun u5 u6 wr => h.cells.length - (intOf u6).toNat)
 case atStart =>
  refine ⟨?_, Mod.refl _ _⟩
  exact ⟨0, _, _, _, _, rsH, rfl, rfl, by omega, B6, OX⟩
 case round =>
  obtain ⟨w8, rfl⟩ : ∃ x : World, x = wr := ⟨_, rfl⟩
  obtain ⟨hrel, g8⟩ := hrel
  clear B6
  clear OX
  replace G := G.abv g8
  replace hA := hA0.grow G
  replace hB := hB0.grow G
  replace hC := hC0.grow G
  replace B1 := B1.md g8
  replace B2 := B2.md g8
  have zg8 := g8.size
  obtain ⟨k, cK, dK, AK, BK, rs1, rfl, rfl, hk, B6, OX⟩ := hrel
  have vk := cycH_valid va k
  have hlen := cycH_len h k
  have hrt := cycH_roots h k
  have hRA := OX.rc
  have hRB := OX.r1
  have GL8 := g8
  refine wp_seq_k fun K9 hK9 => ?_
  refine wp_seq_k fun K10 hK10 => ?_
  refine Sb 53 rfl ?_
  refine Smv rfl ?_
  refine S_val (Y_field U26 rfl fz26_0 (by decide) rfl) ?_
  refine S_val (Y_load U23 rfl rfl (B6.at (by rfl))) ?_
  refine S_val (Y_len U23 rfl) ?_
  refine S_val (Y_lss rfl rfl) ?_
  refine S_nl rfl rfl ?_
  refine th_n (hK10 _ _ ?_)
  clear hK10 K10
  refine S_if rfl (fun hb2 => ?_) (fun hb2 => ?_)
  ·
   replace hb2 := nb_tt hb2
   have hk1 : k < h.cells.length := by omega
   have hk2 : k < (cycH h k).cells.length := by omega
   obtain ⟨g2, o2, E2, d2, rfl, hp2, cc2, _⟩ := hRA.cell hk2
   have hcn := cycN_small va hk
   have hcn2 := cycN_small va (k := k + 1) hk1
   refine wp_skip ?_
   refine th_n (hK9 _ _ ?_)
   clear hK9 K9
   refine wp_seq_k fun K11 hK11 => ?_
   refine wp_block ?_
   refine wp_seq_k fun K12 hK12 => ?_
   refine wp_seq_k fun K13 hK13 => ?_
   refine Sb 53 rfl ?_
   refine S_val (Y_field U26 rfl fz26_0 (by decide) rfl) ?_
   refine S_val (Y_load U23 rfl rfl (B6.at (by rfl))) ?_
   refine Smv rfl ?_
   refine S_val (Y_index U23 sz50 rfl rfl (by first | assumption | omega)) ?_
   refine S_val (Y_field U50 rfl fz50_0 (by decide) rfl) ?_
   refine S_val (Y_load U4 rfl rfl (by first | assumption | exact cc2.at (by rfl) | exact B1.at (by rfl) | exact B2.at (by rfl) | exact B6.at (by rfl))) ?_
   refine S_val (Y_not rfl) ?_
   refine S_nl rfl rfl ?_
   refine th_n (hK13 _ _ ?_)
   clear hK13 K13
   refine S_if rfl (fun hb3 => ?_) (fun hb3 => ?_)
   ·
    first | with_reducible (replace hb3 := nb_nt hb3) | with_reducible (replace hb3 := nb_tt hb3) | with_reducible (replace hb3 := nb_bt hb3) | skip
    have hu : usedAt (cycH h k).cells k = false := by rw [usedAt_at hk2]; exact hb3
    refine wp_exit ?_
    refine th_x ?_
    refine ib_e ?_
    refine th_n (hK11 _ _ ?_)
    clear hK12 K12 hK11 K11
    refine Sb 53 rfl ?_
    refine Smv rfl ?_
    refine S_val (Y_inc rfl rfl (by omega)) ?_
    refine Sas rfl ?_
    refine S_nl rfl rfl ?_
    refine th_n ?_
    go_roundw
    case rel =>
     refine ⟨?_, GL8⟩
     first | exact ⟨k + 1, _, _, _, _, _, rfl, by rw [cycN_t hu, hjN], by omega, by rw [cycH_t hu]; exact B6, by rw [cycH_t hu]; exact OY⟩ | exact ⟨k + 1, _, _, _, _, _, rfl, by rw [cycN_f hu], by omega, by rw [cycH_f hu]; exact B6, by rw [cycH_f hu]; exact OX⟩
    case measure =>
     exact dec_nat (by omega)
   first | with_reducible (replace hb3 := nb_nf hb3) | with_reducible (replace hb3 := nb_tf hb3) | with_reducible (replace hb3 := nb_bf hb3) | skip
   have hu : usedAt (cycH h k).cells k = true := by rw [usedAt_at hk2]; exact hb3
   refine wp_skip ?_
   refine th_n (hK12 _ _ ?_)
   clear hK12 K12
   refine wp_seq_k fun K14 hK14 => ?_
   refine Sb 53 rfl ?_
   refine S_val (Y_loadS U26 rfl sz26 rfl (B6.row (by rfl))) ?_
   refine Smv rfl ?_
   refine S_call rfl en26 (spec_DeadCycle_c _ _ _ (cycH h k) _ _ (k : Int) _ hRA hRB (by have := vk.small; omega) ⟨by omega, by omega⟩) ?_
   rintro v9 w9 ⟨A9, q9, cap9, rfl, hq9, O9, g9⟩
   replace hA := hA.grow g9
   replace hB := hB.grow g9
   replace hC := hC.grow g9
   replace OX := OX.grow g9
   replace hRA := hRA.grow g9
   replace hRB := hRB.grow g9
   replace G := G.grow g9
   replace GL8 := GL8.grow g9
   replace B1 := B1.grow g9
   replace B2 := B2.grow g9
   replace B6 := B6.grow g9
   replace cc2 := cc2.grow g9
   have zg9 := g9.size
   have hut : usedR (cycH h k) (k : Int) = true := by rw [usedR_at (valid_iff.2 vk) hk2, ← usedAt_at hk2]; exact hu
   rw [deadV_t hut] at hq9 O9
   subst hq9
   have OD := O9.lt
   have hD := OD.r1
   have hdl := deadL_len (cycH h k) k
   refine Sas rfl ?_
   refine S_nl rfl rfl ?_
   refine th_n (hK14 _ _ ?_)
   clear hK14 K14
   refine wp_seq_k fun K15 hK15 => ?_
   refine wp_seq_k fun K16 hK16 => ?_
   refine Sb 53 rfl ?_
   refine Sas rfl ?_
   refine S_nl rfl rfl ?_
   refine th_n (hK16 _ _ ?_)
   clear hK16 K16
   refine wp_block ?_
   go_loopw [5, 8] (fun u5 u8 wr => (∃ j : Nat, u8 = .int .i64 j ∧ u5 = .int .i64 ((cycN h k + cntP (deadP (cycH h k) k) j : Nat) : Int) ∧ j ≤ (deadL (cycH h k) k).length) ∧ Mod No w9 wr) (fun u5 u8 wr => (deadL (cycH h k) k).length - (intOf u8).toNat)
   case atStart =>
    refine ⟨?_, Mod.refl _ _⟩
    exact ⟨0, rfl, rfl, by omega⟩
   case round =>
    obtain ⟨w10, rfl⟩ : ∃ x : World, x = wr := ⟨_, rfl⟩
    obtain ⟨hrel, g10⟩ := hrel
    replace hA := hA.grow g10
    replace hB := hB.grow g10
    replace hC := hC.grow g10
    replace OX := OX.grow g10
    replace hRA := hRA.grow g10
    replace hRB := hRB.grow g10
    replace hD := hD.grow g10
    replace G := G.grow g10
    replace GL8 := GL8.grow g10
    replace B1 := B1.grow g10
    replace B2 := B2.grow g10
    replace B6 := B6.grow g10
    replace cc2 := cc2.grow g10
    have zg10 := g10.size
    obtain ⟨j, rfl, rfl, hj⟩ := hrel
    have hcp := cntP_le (deadP (cycH h k) k) j
    have GL10 := g10
    refine wp_seq_k fun K17 hK17 => ?_
    refine wp_seq_k fun K18 hK18 => ?_
    refine Sb 53 rfl ?_
    refine Smv rfl ?_
    refine Smv rfl ?_
    refine S_val (Y_len U40 rfl) ?_
    refine S_val (Y_lss rfl rfl) ?_
    refine S_nl rfl rfl ?_
    refine th_n (hK18 _ _ ?_)
    clear hK18 K18
    refine S_if rfl (fun hb4 => ?_) (fun hb4 => ?_)
    ·
     replace hb4 := nb_tt hb4
     have hj1 : j < (deadL (cycH h k) k).length := by omega
     obtain ⟨g3, o3, e3, hp3, hc3⟩ := hD.bool hj1
     subst e3
     rw [deadL_at hj1] at hc3
     refine wp_skip ?_
     refine th_n (hK17 _ _ ?_)
     clear hK17 K17
     refine wp_seq_k fun K19 hK19 => ?_
     refine wp_block ?_
     refine wp_seq_k fun K20 hK20 => ?_
     refine Sb 53 rfl ?_
     refine Smv rfl ?_
     refine Smv rfl ?_
     refine S_val (Y_index U40 sz4 rfl rfl (by first | assumption | omega)) ?_
     refine S_val (Y_load U4 rfl rfl (by first | assumption | exact cc2.at (by rfl) | exact B1.at (by rfl) | exact B2.at (by rfl) | exact B6.at (by rfl))) ?_
     refine S_nl rfl rfl ?_
     refine th_n (hK20 _ _ ?_)
     clear hK20 K20
     refine S_if rfl (fun hb5 => ?_) (fun hb5 => ?_)
     ·
      first | with_reducible (replace hb5 := nb_nt hb5) | with_reducible (replace hb5 := nb_tt hb5) | with_reducible (replace hb5 := nb_bt hb5) | skip
      refine Sb 53 rfl ?_
      refine Smv rfl ?_
      refine S_val (Y_inc rfl rfl (by omega)) ?_
      refine Sas rfl ?_
      refine S_nl rfl rfl ?_
      refine ib_n ?_
      refine th_n (hK19 _ _ ?_)
      clear hK19 K19
      refine Sb 53 rfl ?_
      refine Smv rfl ?_
      refine S_val (Y_inc rfl rfl (by omega)) ?_
      refine Sas rfl ?_
      refine S_nl rfl rfl ?_
      refine th_n ?_
      go_roundw
      case rel =>
       refine ⟨?_, GL10⟩
       first | exact ⟨j + 1, rfl, by rw [cntP_yes (by assumption)]; rfl, by omega⟩ | exact ⟨j + 1, rfl, by rw [cntP_no (by assumption)], by omega⟩
      case measure =>
       exact dec_nat (by omega)
     first | with_reducible (replace hb5 := nb_nf hb5) | with_reducible (replace hb5 := nb_tf hb5) | with_reducible (replace hb5 := nb_bf hb5) | skip
     refine wp_skip ?_
     refine ib_n ?_
     refine th_n (hK19 _ _ ?_)
     clear hK19 K19
     refine Sb 53 rfl ?_
     refine Smv rfl ?_
     refine S_val (Y_inc rfl rfl (by omega)) ?_
     refine Sas rfl ?_
     refine S_nl rfl rfl ?_
     refine th_n ?_
     go_roundw
     case rel =>
      refine ⟨?_, GL10⟩
      first | exact ⟨j + 1, rfl, by rw [cntP_yes (by assumption)]; rfl, by omega⟩ | exact ⟨j + 1, rfl, by rw [cntP_no (by assumption)], by omega⟩
     case measure =>
      exact dec_nat (by omega)
    replace hb4 := nb_tf hb4
    have hjN : j = h.cells.length := by omega
    refine wp_exit ?_
    refine th_x ?_
    try clear GL10
    refine th_x ?_
    refine ib_e ?_
    refine th_n (hK15 _ _ ?_)
    clear hK17 K17 hK15 K15
    refine Sb 53 rfl ?_
    refine S_val (Y_loadS U26 rfl sz26 rfl (B6.row (by rfl))) ?_
    refine Smv rfl ?_
    refine S_call rfl en27 (spec_l11Drop_c _ _ _ _ _ (cycH h k) (deadL (cycH h k) k) _ _ _ _ hRA hRB hD (by have := vk.small; omega) (by omega)) ?_
    rintro v11 w11 ⟨A11, B11, n111, c111, n211, c211, rs11, rfl, hn111, hn211, O11, g11⟩
    replace hA := hA.grow g11
    replace hB := hB.grow g11
    replace hC := hC.grow g11
    replace OX := OX.grow g11
    replace hRA := hRA.grow g11
    replace hRB := hRB.grow g11
    replace hD := hD.grow g11
    replace G := G.grow g11
    replace GL8 := GL8.grow g11
    replace B1 := B1.grow g11
    replace B2 := B2.grow g11
    replace B6 := B6.grow g11
    replace cc2 := cc2.grow g11
    have zg11 := g11.size
    rw [deadL_drop] at hn111 hn211 O11
    subst hn111
    subst hn211
    have OY := O11.weak (Pr' := fun i => b2 < i ∧ i ≠ b6) (fun i h => by omega)
    refine S_stM (pre := []) (old := [_, _]) (post := []) (vs := [_, _]) sz26 rfl rfl rfl (by first | rfl | assumption) B6 rfl rfl ?_
    intro w12 m12 X12
    replace B6 := Blk.eq (ys := [_, _]) X12 rfl
    clear X12
    replace G := G.abv m12
    replace GL8 := GL8.trn m12
    replace hA := hA0.grow G
    replace hB := hB0.grow G
    replace hC := hC0.grow G
    replace OY := OY.md m12
    replace B1 := B1.md m12
    replace B2 := B2.md m12
    clear cc2
    have zm12 := m12.size
    refine S_nl rfl rfl ?_
    refine ib_n ?_
    refine th_n (hK11 _ _ ?_)
    clear hK11 K11
    refine Sb 53 rfl ?_
    refine Smv rfl ?_
    refine S_val (Y_inc rfl rfl (by omega)) ?_
    refine Sas rfl ?_
    refine S_nl rfl rfl ?_
    refine th_n ?_
    go_roundw
    case rel =>
     refine ⟨?_, GL8⟩
     first | exact ⟨k + 1, _, _, _, _, _, rfl, by rw [cycN_t hu, hjN], by omega, by rw [cycH_t hu]; exact B6, by rw [cycH_t hu]; exact OY⟩ | exact ⟨k + 1, _, _, _, _, _, rfl, by rw [cycN_f hu], by omega, by rw [cycH_f hu]; exact B6, by rw [cycH_f hu]; exact OX⟩
    case measure =>
     exact dec_nat (by omega)
  replace hb2 := nb_tf hb2
  have hkN : k = h.cells.length := by omega
  replace OX := OX.lt
  refine wp_exit ?_
  refine th_x ?_
  try clear GL8
  refine th_x ?_
  refine ib_e ?_
  refine th_n (hK7 _ _ ?_)
  clear hK9 K9 hK7 K7
  refine wp_seq_k fun K21 hK21 => ?_
  refine D_start 7 53 (fun w => Mod (fun i => i = b2) w) follows rfl rfl ?_
  intro w13 g13
  replace hA := hA.grow g13
  replace hB := hB.grow g13
  replace hC := hC.grow g13
  replace OX := OX.grow g13
  replace hRA := hRA.grow g13
  replace hRB := hRB.grow g13
  replace G := G.grow g13
  replace B1 := B1.grow g13
  replace B2 := B2.grow g13
  replace B6 := B6.grow g13
  have zg13 := g13.size
  have GS13 := Mod.refl (fun i => i = b2) w13
  refine Dq (i := 0) rfl GS13 (fun _ hs => Y_loadS U26 rfl sz26 rfl (by first | exact CellsAt.mod (B6.row (by rfl)) hs (by intro h; first | omega | (dsimp only at h; omega)))) ?_
  refine Dq (i := 1) rfl GS13 (fun _ hs => Y_loadS U26 rfl sz26 rfl (by first | exact CellsAt.mod (B6.row (by rfl)) hs (by intro h; first | omega | (dsimp only at h; omega)))) ?_
  refine Dq (i := 4) rfl GS13 (fun _ _ => Y_move rfl) ?_
  refine D_1 (i := 2) (by kernel_rfl) ?_
  refine E_call rfl rfl en28 (spec_l7Counts_c _ _ _ (cycH h k) _ _ _ hRA hRB (by have := vk.small; omega) vk.leads) ?_
  rintro v14 w14 ⟨b14, rfl, fb14, B14, g14⟩
  replace hA := hA.grow g14
  replace hB := hB.grow g14
  replace hC := hC.grow g14
  replace OX := OX.grow g14
  replace hRA := hRA.grow g14
  replace hRB := hRB.grow g14
  replace G := G.grow g14
  replace GS13 := GS13.grow g14
  replace B1 := B1.grow g14
  replace B2 := B2.grow g14
  replace B6 := B6.grow g14
  have zg14 := g14.size
  have lb14 := B14.lt
  have hfC := fb14
  obtain ⟨bC, rfl⟩ : ∃ x, x = b14 := ⟨_, rfl⟩
  have BC := B14
  refine ⟨GS13, ?_⟩
  refine Dq (i := 3) rfl GS13 (fun _ _ => Y_build (cs := [_, _, _]) zr28 pc28 rfl rfl) ?_
  refine D_1 (i := 5) (by kernel_rfl) ?_
  refine E_stM (pre := []) (old := [_, _, _]) (post := []) (vs := [_, _, _]) (i := 5) rfl sz28 rfl rfl rfl (by first | rfl | assumption) B2 rfl rfl ?_
  intro w15 m15 X15
  replace B2 := Blk.eq (ys := [_, _, _]) X15 rfl
  clear X15
  replace G := G.abv m15
  replace GS13 := GS13.trn m15
  replace hA := hA0.grow G
  replace hB := hB0.grow G
  replace hC := hC0.grow G
  replace OX := OX.md m15
  replace hRA := hRA.md m15
  replace hRB := hRB.md m15
  replace B1 := B1.md m15
  replace B6 := B6.md m15
  replace BC := BC.md m15
  have zm15 := m15.size
  refine ⟨GS13, ?_⟩
  refine Dq (i := 6) rfl GS13 (fun _ _ => Y_assign rfl) ?_
  refine D_en (by kernel_rfl) rfl rfl ?_
  refine th_n (hK21 _ _ ?_)
  clear hK21 K21
  refine wp_ret ?_
  refine ret_rct (cs := [_, _, _]) U28 rfl sz28 rfl rfl rfl (B2.row (by rfl)) ?_
  have hsv := cycleV_t hb1
  subst hkN
  rw [hlen] at BC
  refine ⟨_, _, _, _, _, _, _, _, _, rs1, fun i => b2 < i ∧ i ≠ bC, fun i => i = bC, by rw [hsv], by rw [hsv], by rw [hsv], by rw [hsv, hlen]; exact (cntL_len _ _).symm, fun i hi => ⟨by omega, by omega⟩, fun i hi => by omega, ?_, by rw [hsv]; exact OI.of_blk' BC rfl, G⟩
  rw [hsv]
  exact OX.weak (fun i hi => by omega)
end
/-! Open -/
section
open Go Go.ChangeShapes Go.WideShapes Go.ChangeAt Go.RowKit Go.Deep Go.Joins
section
variable {H : Type} {enc : TypeId × Value → H} {P : Program} {w : World} {base : Nat} {spare : Nat → Bool} {held : Bool}
theorem plain_of_cell {w : World} {a : Addr} {v : Value} (h : w.cell? a = some v) : ∃ g o, a = ⟨g, o, none⟩ := by
  obtain ⟨g, o, s⟩ := a
  have hs := World.cell?_spot h
  simp only at hs
  subst hs
  exact ⟨g, o, rfl⟩
theorem trod_top {t e : TypeId} {r : Reach} {b0 : Nat} {v : Value} {d : DataW H} {p : List MemPlace} (hu : P.underlying t = some (.slice e)) (hval : Value.okWide P w r b0 t v) (h : DataW.Trod enc P w base spare held t v d p) :
    ∃ fuel, DataW.trod enc P w base spare held fuel t [v] = some (d, p) := by
  obtain ⟨a, len, cap, rfl⟩ := okWide_slice hu hval
  obtain ⟨fuel, hf⟩ := h
  exact ⟨fuel, hf⟩
theorem open_ru {t e : TypeId} {fuel : Nat} {v : Value} {x : DataW H × List MemPlace} (ht : P.underlying t = some (.slice e)) (he : P.underlying e = some (.int .u8)) (hc : P.cellsOf e = 1)
    (h : DataW.trod enc P w base spare held fuel t [v] = some x) : ∃ (A : Option Addr) (xs : List Int) (c : Nat), v = .slice A xs.length c ∧ R1 (fun _ => True) w A (u8s xs) ∧ xs.length ≤ 9223372036854775807 ∧ xs.length ≤ c ∧ ∀ y ∈ xs, 0 ≤ y ∧ y ≤ 255 := by
  rcases open_ints ht he hc h with ⟨hcs, _⟩ | ⟨a, len, cap, zs, hcs, _, hl, hm, hz, _, hcell, hwz⟩
  · simp only [List.cons.injEq, and_true] at hcs
    subst hcs
    exact ⟨none, [], 0, rfl, R1.nil _ _ _, by simp, by simp, by simp⟩
  · simp only [List.cons.injEq, and_true] at hcs
    subst hcs
    have hlz : len ≤ zs.length := by
      rw [hz]
      split
      · exact hl
      · exact Nat.le_refl _
    have hlen : (zs.take len).length = len := by rw [List.length_take]; omega
    refine ⟨some a, zs.take len, cap, by rw [hlen], fun k u hu => ?_, by rw [hlen]; unfold maxLen at hm; omega, by rw [hlen]; exact hl, fun y hy => ?_⟩
    · have hk : k < len := by
        have := (List.getElem?_eq_some_iff.1 hu).1
        rw [u8s, List.length_map, hlen] at this
        exact this
      obtain ⟨g, o, rfl⟩ : ∃ g o, a = ⟨g, o, none⟩ := by
        have h0 := hcell 0 (by omega)
        rw [show a.add 0 = a by simp [Addr.add]] at h0
        exact plain_of_cell h0
      refine ⟨g, o, rfl, trivial, ?_⟩
      have hck := hcell k (by omega)
      rw [Addr.add_lit] at hck
      rw [Nat.mul_one, hck]
      have hu' : (u8s (zs.take len))[k]? = some (.int .u8 (zs.getD k 0)) := by
        unfold u8s
        rw [List.getElem?_map, List.getElem?_take, if_pos hk, List.getElem?_eq_getElem (show k < zs.length by omega)]
        simp [List.getD, List.getElem?_eq_getElem (show k < zs.length by omega)]
      rw [hu'] at hu
      exact hu
    · have hy' := List.mem_of_mem_take hy
      have := hwz y hy'
      simp [Lit.wf, IntKind.min, IntKind.max, IntKind.bits, IntKind.signed] at this
      omega
end
end
end Go.Proofs.Ytdlmjmcddafojaa
