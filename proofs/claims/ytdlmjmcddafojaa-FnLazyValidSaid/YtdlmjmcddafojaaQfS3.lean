/-
  Walks through functions of the program and the reference, and the plain laws behind them: what one claim needs of them.
  Conditions: those that each theorem states.
-/
import Derived.Test.YtdlmjmcddafojaaQfS2
set_option linter.unusedVariables false
set_option linter.unusedSimpArgs false
namespace Go.Proofs.Ytdlmjmcddafojaa
/-! WalkL -/
section
open Go Go.RowKit
attribute [local irreducible] wpList wpAnyH Code.wp dOp
theorem reach_bits {h : LH} {m u : Nat} (va : Valid h) (hu : SetOf u (usedL h.cells)) (hr : ∀ n, m.testBit n = true ↔ Rch h.cells h.roots (hasB u) n) (i : Nat) : m.testBit i = (decide (i < h.cells.length) && rB h i) := by
  rw [Bool.eq_iff_iff, hr, rch_used va.leadsU hu]
  unfold rB
  rw [Bool.and_eq_true, decide_eq_true_eq, decide_eq_true_eq, orderL_mem va.leads]
  exact ⟨fun hh => ⟨hh.lt va.leads, hh⟩, fun hh => hh.2⟩
set_option maxHeartbeats 400000 in
set_option maxRecDepth 20000 in
theorem impl_reachable2_c (Pr : Nat → Prop) (A B : Option Addr) (h : LH) (c d : Nat) (w : World) (hA : RC Pr w A h.cells) (hB : R1 Pr w B (ints h.roots)) (hz : hsize h ≤ 1048576) (va : Valid h) :
    Calls Try.prog 39 #[.agg #[.slice A h.cells.length c, .slice B h.roots.length d]] w (Ret fun v w' => ∃ m : Nat, v = .int .u64 (m : Int) ∧ m < 2 ^ 64 ∧ (∀ i, m.testBit i = (decide (i < h.cells.length) && rB h i)) ∧ Grow w w') := by
 have h40 := va.le
 have hr4 := va.roots4
 refine enter Try.func39 rfl Try.ntmps39 (L := [_,_,_,_,_,_,_,_,_]) rfl ?_
 have G := Mod.refl No w
 have hA0 := hA
 have hB0 := hB
 refine wp_seq_k fun K1 hK1 => ?_
 refine Sb 9 rfl ?_
 refine S_box (cs := [_, _]) rfl rfl ?_
 intro b1 w1 fb1 g1 B1
 have lb1 := B1.lt
 replace hA := hA.grow g1
 replace hB := hB.grow g1
 replace G := G.grow g1
 have zg1 := g1.size
 refine Sas rfl ?_
 refine S_nl rfl rfl ?_
 refine th_n (hK1 _ _ ?_)
 clear hK1 K1
 refine wp_seq_k fun K2 hK2 => ?_
 refine D_start 7 9 (fun w => Mod (No) w) follows rfl rfl ?_
 intro w2 g2
 replace hA := hA.grow g2
 replace hB := hB.grow g2
 replace G := G.grow g2
 replace B1 := B1.grow g2
 have zg2 := g2.size
 have GS2 := Mod.refl (No) w2
 have B1d2 := B1
 refine Dq (i := 0) rfl GS2 (fun _ hs => Y_loadS U26 rfl sz26 rfl (by first | exact hs.cells0 (B1.row (by rfl)))) ?_
 refine Dq (i := 1) rfl GS2 (fun _ _ => Y_field U26 rfl fz26_1 (by decide) rfl) ?_
 refine Dq (i := 2) rfl GS2 (fun _ hs => Y_load U24 rfl rfl (hs.cell0 (B1.at (by rfl)))) ?_
 refine Dq (i := 3) rfl GS2 (fun _ hs => Y_loadS U26 rfl sz26 rfl (by first | exact hs.cells0 (B1.row (by rfl)))) ?_
 refine D_1 (i := 4) (by kernel_rfl) ?_
 refine E_call rfl rfl en34 (impl_usedSet_c _ _ _ _ _ _ _ (by assumption) (by omega)) ?_
 rintro v3 w3 ⟨s3, rfl, hs3, g3⟩
 replace hA := hA.grow g3
 replace hB := hB.grow g3
 replace G := G.grow g3
 replace GS2 := GS2.grow g3
 replace B1 := B1.grow g3
 have zg3 := g3.size
 refine ⟨GS2, ?_⟩
 refine D_1 (i := 5) (by kernel_rfl) ?_
 refine E_call rfl rfl en56 (impl_closure_c _ _ _ _ _ _ _ _ _ _ _ _ (by assumption) (by assumption) (by omega) (by omega) hs3.1 hs3.lt (by omega)) ?_
 rintro v4 w4 ⟨s4, rfl, hs4, hr4, g4⟩
 replace hA := hA.grow g4
 replace hB := hB.grow g4
 replace G := G.grow g4
 replace GS2 := GS2.grow g4
 replace B1 := B1.grow g4
 have zg4 := g4.size
 refine ⟨GS2, ?_⟩
 refine Dq (i := 6) rfl GS2 (fun _ _ => Y_assign rfl) ?_
 refine D_en (by kernel_rfl) rfl rfl ?_
 refine th_n (hK2 _ _ ?_)
 clear hK2 K2
 refine wp_ret ?_
 refine ret_r1 rfl rfl ?_
 exact ⟨_, rfl, hs4, reach_bits va hs3 hr4, G⟩
set_option maxHeartbeats 400000 in
set_option maxRecDepth 20000 in
theorem impl_LazyValid_c (Pr : Nat → Prop) (A B C : Option Addr) (h : LH) (ms : List Bool) (x : Int) (c d e : Nat) (w : World) (hA : RC Pr w A h.cells) (hB : R1 Pr w B (ints h.roots)) (hC : R1 Pr w C (bools ms)) (hz : hsize h ≤ 1048576) (_hxz : ms.length ≤ 1048576) (_hx : -9223372036854775808 ≤ x ∧ x ≤ 9223372036854775807) :
    Calls Try.prog 15 #[.agg #[.slice A h.cells.length c, .slice B h.roots.length d, .slice C ms.length e, .int .i64 x]] w (Ret fun v w' => v = .bool (lazB h ms x) ∧ Grow w w') := by
 have hz1 := hsize_cells h
 have hz2 := hsize_roots h
 refine enter Try.func15 rfl Try.ntmps15 (L := [_,_,_,_,_,_,_,_,_,_,_,_,_,_,_,_,_,_,_,_,_,_,_,_,_,_,_,_,_,_,_,_,_,_,_,_,_,_,_,_,_,_,_,_,_,_,_,_,_,_,_,_,_,_,_,_,_,_,_,_,_,_,_]) rfl ?_
 have G := Mod.refl No w
 have hA0 := hA
 have hB0 := hB
 have hC0 := hC
 refine wp_seq_k fun K1 hK1 => ?_
 refine Sb 63 rfl ?_
 refine S_box (cs := [_, _, _, _]) rfl rfl ?_
 intro b1 w1 fb1 g1 B1
 have lb1 := B1.lt
 replace hA := hA.grow g1
 replace hB := hB.grow g1
 replace hC := hC.grow g1
 replace G := G.grow g1
 have zg1 := g1.size
 refine Sas rfl ?_
 refine S_nl rfl rfl ?_
 refine th_n (hK1 _ _ ?_)
 clear hK1 K1
 refine wp_seq_k fun K2 hK2 => ?_
 refine wp_seq_k fun K3 hK3 => ?_
 refine Sb 63 rfl ?_
 refine S_val (Y_field U42 rfl fz42_0 (by decide) rfl) ?_
 refine S_val (Y_loadS U26 rfl sz26 rfl (CellsAt.of_blk (pre := []) (us := [_, _]) (post := [_, _]) B1 rfl)) ?_
 refine S_call rfl en32 (impl_HeapValid_c _ _ _ _ _ _ _ (by assumption) (by assumption) (by omega)) ?_
 rintro v2 w2 ⟨rfl, g2⟩
 replace hA := hA.grow g2
 replace hB := hB.grow g2
 replace hC := hC.grow g2
 replace G := G.grow g2
 replace B1 := B1.grow g2
 have zg2 := g2.size
 refine S_val (Y_not rfl) ?_
 refine Smv rfl ?_
 refine S_g 10 rfl (fun hb1 => ?_) (fun hb1 => ?_)
 ·
  first | with_reducible (replace hb1 := nb_nt hb1) | with_reducible (replace hb1 := nb_tt hb1) | with_reducible (replace hb1 := nb_bt hb1) | skip
  refine S_off rfl rfl ?_
  refine S_off rfl rfl ?_
  refine S_off rfl rfl ?_
  refine S_off rfl rfl ?_
  refine S_off rfl rfl ?_
  refine S_off rfl rfl ?_
  refine S_off rfl rfl ?_
  refine S_off rfl rfl ?_
  refine S_val (Y_pickT rfl rfl) ?_
  refine Smv rfl ?_
  refine S_off rfl rfl ?_
  refine S_off rfl rfl ?_
  refine S_off rfl rfl ?_
  refine S_val (Y_pickT rfl rfl) ?_
  refine Smv rfl ?_
  refine S_off rfl rfl ?_
  refine S_off rfl rfl ?_
  refine S_off rfl rfl ?_
  refine S_off rfl rfl ?_
  refine S_off rfl rfl ?_
  refine S_off rfl rfl ?_
  refine S_val (Y_pickT rfl rfl) ?_
  refine S_nl rfl rfl ?_
  refine th_n (hK3 _ _ ?_)
  clear hK3 K3
  refine S_ifT rfl ?_
  refine wp_seq_k fun K4 hK4 => ?_
  refine Sb 63 rfl ?_
  refine Sas rfl ?_
  refine S_nl rfl rfl ?_
  refine th_n (hK4 _ _ ?_)
  clear hK4 K4
  refine wp_ret ?_
  refine th_r ?_
  clear hK2 K2
  refine ret_r1 rfl rfl ?_
  exact ⟨by rw [lazB_f1 hb1], G⟩
 first | with_reducible (replace hb1 := nb_nf hb1) | with_reducible (replace hb1 := nb_tf hb1) | with_reducible (replace hb1 := nb_bf hb1) | skip
 have va := valid_iff.1 hb1
 have hl := va.leads
 have h40 := va.le
 have hr4 := va.roots4
 refine S_on rfl rfl ?_
 refine S_val (Y_field U42 rfl fz42_1 (by decide) rfl) ?_
 refine S_on rfl rfl ?_
 refine S_val (Y_load U40 rfl rfl (B1.at (by rfl))) ?_
 refine S_on rfl rfl ?_
 refine S_val (Y_len U40 rfl) ?_
 refine S_on rfl rfl ?_
 refine S_val (Y_field U42 rfl fz42_0 (by decide) rfl) ?_
 refine S_on rfl rfl ?_
 refine S_val (Y_field U26 rfl fz26_0 (by decide) rfl) ?_
 refine S_on rfl rfl ?_
 refine S_val (Y_load U23 rfl rfl (B1.at (by rfl))) ?_
 refine S_on rfl rfl ?_
 refine S_val (Y_len U23 rfl) ?_
 refine S_on rfl rfl ?_
 refine S_val (Y_neq rfl rfl) ?_
 refine S_val (Y_pickF rfl rfl) ?_
 refine Smv rfl ?_
 refine S_g 20 rfl (fun hb2 => ?_) (fun hb2 => ?_)
 ·
  first | with_reducible (replace hb2 := nb_nt hb2) | with_reducible (replace hb2 := nb_tt hb2) | with_reducible (replace hb2 := nb_bt hb2) | skip
  refine S_off rfl rfl ?_
  refine S_off rfl rfl ?_
  refine S_off rfl rfl ?_
  refine S_val (Y_pickT rfl rfl) ?_
  refine Smv rfl ?_
  refine S_off rfl rfl ?_
  refine S_off rfl rfl ?_
  refine S_off rfl rfl ?_
  refine S_off rfl rfl ?_
  refine S_off rfl rfl ?_
  refine S_off rfl rfl ?_
  refine S_val (Y_pickT rfl rfl) ?_
  refine S_nl rfl rfl ?_
  refine th_n (hK3 _ _ ?_)
  clear hK3 K3
  refine S_ifT rfl ?_
  refine wp_seq_k fun K5 hK5 => ?_
  refine Sb 63 rfl ?_
  refine Sas rfl ?_
  refine S_nl rfl rfl ?_
  refine th_n (hK5 _ _ ?_)
  clear hK5 K5
  refine wp_ret ?_
  refine th_r ?_
  clear hK2 K2
  refine ret_r1 rfl rfl ?_
  exact ⟨by rw [lazB_f2 (by omega)], G⟩
 first | with_reducible (replace hb2 := nb_nf hb2) | with_reducible (replace hb2 := nb_tf hb2) | with_reducible (replace hb2 := nb_bf hb2) | skip
 refine S_on rfl rfl ?_
 refine S_val (Y_field U42 rfl fz42_2 (by decide) rfl) ?_
 refine S_on rfl rfl ?_
 refine S_val (Y_load U3 rfl rfl (B1.at (by rfl))) ?_
 refine S_on rfl rfl ?_
 refine S_val (Y_lss rfl rfl) ?_
 refine S_val (Y_pickF rfl rfl) ?_
 refine Smv rfl ?_
 refine S_g 25 rfl (fun hb3 => ?_) (fun hb3 => ?_)
 ·
  first | with_reducible (replace hb3 := nb_nt hb3) | with_reducible (replace hb3 := nb_tt hb3) | with_reducible (replace hb3 := nb_bt hb3) | skip
  refine S_off rfl rfl ?_
  refine S_off rfl rfl ?_
  refine S_off rfl rfl ?_
  refine S_off rfl rfl ?_
  refine S_off rfl rfl ?_
  refine S_off rfl rfl ?_
  refine S_val (Y_pickT rfl rfl) ?_
  refine S_nl rfl rfl ?_
  refine th_n (hK3 _ _ ?_)
  clear hK3 K3
  refine S_ifT rfl ?_
  refine wp_seq_k fun K6 hK6 => ?_
  refine Sb 63 rfl ?_
  refine Sas rfl ?_
  refine S_nl rfl rfl ?_
  refine th_n (hK6 _ _ ?_)
  clear hK6 K6
  refine wp_ret ?_
  refine th_r ?_
  clear hK2 K2
  refine ret_r1 rfl rfl ?_
  exact ⟨by rw [lazB_f3 (by omega)], G⟩
 first | with_reducible (replace hb3 := nb_nf hb3) | with_reducible (replace hb3 := nb_tf hb3) | with_reducible (replace hb3 := nb_bf hb3) | skip
 refine S_on rfl rfl ?_
 refine S_val (Y_field U42 rfl fz42_2 (by decide) rfl) ?_
 refine S_on rfl rfl ?_
 refine S_val (Y_load U3 rfl rfl (B1.at (by rfl))) ?_
 refine S_on rfl rfl ?_
 refine S_val (Y_field U42 rfl fz42_1 (by decide) rfl) ?_
 refine S_on rfl rfl ?_
 refine S_val (Y_load U40 rfl rfl (B1.at (by rfl))) ?_
 refine S_on rfl rfl ?_
 refine S_val (Y_len U40 rfl) ?_
 refine S_on rfl rfl ?_
 refine S_val (Y_gtr rfl rfl) ?_
 refine S_val (Y_pickF rfl rfl) ?_
 refine S_nl rfl rfl ?_
 refine th_n (hK3 _ _ ?_)
 clear hK3 K3
 refine S_if rfl (fun hb4 => ?_) (fun hb4 => ?_)
 ·
  first | with_reducible (replace hb4 := nb_nt hb4) | with_reducible (replace hb4 := nb_tt hb4) | with_reducible (replace hb4 := nb_bt hb4) | skip
  refine wp_seq_k fun K7 hK7 => ?_
  refine Sb 63 rfl ?_
  refine Sas rfl ?_
  refine S_nl rfl rfl ?_
  refine th_n (hK7 _ _ ?_)
  clear hK7 K7
  refine wp_ret ?_
  refine th_r ?_
  clear hK2 K2
  refine ret_r1 rfl rfl ?_
  exact ⟨by rw [lazB_f3 (by omega)], G⟩
 first | with_reducible (replace hb4 := nb_nf hb4) | with_reducible (replace hb4 := nb_tf hb4) | with_reducible (replace hb4 := nb_bf hb4) | skip
 have hlen : ms.length = h.cells.length := by omega
 obtain ⟨a, rfl⟩ := Int.eq_ofNat_of_zero_le (show 0 ≤ x by omega)
 have ha64 : a < 64 := by omega
 have hp64 : 1 * 2 ^ a < 2 ^ 64 := by rw [Nat.one_mul]; exact Nat.pow_lt_pow_right (by decide) ha64
 have hp1 : 1 ≤ 1 * 2 ^ a := by rw [Nat.one_mul]; exact Nat.one_le_two_pow
 have hbl : 1 * 2 ^ a - 1 < 2 ^ 64 := by omega
 refine wp_skip ?_
 refine th_n (hK2 _ _ ?_)
 clear hK2 K2
 refine wp_seq_k fun K8 hK8 => ?_
 refine D_start 8 63 (fun w => Mod (No) w) follows rfl rfl ?_
 intro w3 g3
 replace hA := hA.grow g3
 replace hB := hB.grow g3
 replace hC := hC.grow g3
 replace G := G.grow g3
 replace B1 := B1.grow g3
 have zg3 := g3.size
 have GS3 := Mod.refl (No) w3
 have B1d3 := B1
 refine Dq (i := 0) rfl GS3 (fun _ _ => Y_field U42 rfl fz42_0 (by decide) rfl) ?_
 refine Dq (i := 1) rfl GS3 (fun _ hs => Y_loadS U26 rfl sz26 rfl (by first | exact hs.cells0 ((CellsAt.of_blk (pre := []) (us := [_, _]) (post := [_, _]) B1 rfl)))) ?_
 refine Dq (i := 3) rfl GS3 (fun _ _ => Y_field U42 rfl fz42_1 (by decide) rfl) ?_
 refine Dq (i := 4) rfl GS3 (fun _ hs => Y_load U40 rfl rfl (hs.cell0 (B1.at (by rfl)))) ?_
 refine D_1 (i := 2) (by kernel_rfl) ?_
 refine E_call rfl rfl en34 (impl_usedSet_c _ _ _ _ _ _ _ (by assumption) (by omega)) ?_
 rintro v4 w4 ⟨s4, rfl, hs4, g4⟩
 replace hA := hA.grow g4
 replace hB := hB.grow g4
 replace hC := hC.grow g4
 replace G := G.grow g4
 replace GS3 := GS3.grow g4
 replace B1 := B1.grow g4
 have zg4 := g4.size
 have hU := hs4
 refine ⟨GS3, ?_⟩
 refine D_1 (i := 5) (by kernel_rfl) ?_
 refine E_call rfl rfl en43 (impl_setOf_c _ _ _ _ _ (by assumption) (by omega)) ?_
 rintro v5 w5 ⟨s5, rfl, hs5, g5⟩
 replace hA := hA.grow g5
 replace hB := hB.grow g5
 replace hC := hC.grow g5
 replace G := G.grow g5
 replace GS3 := GS3.grow g5
 replace B1 := B1.grow g5
 have zg5 := g5.size
 have hM := hs5
 refine ⟨GS3, ?_⟩
 refine Dq (i := 6) rfl GS3 (fun _ _ => Y_assign rfl) ?_
 refine Dq (i := 7) rfl GS3 (fun _ _ => Y_assign rfl) ?_
 refine D_en (by kernel_rfl) rfl rfl ?_
 refine th_n (hK8 _ _ ?_)
 clear hK8 K8
 refine wp_seq_k fun K9 hK9 => ?_
 refine Sb 63 rfl ?_
 refine S_val (Y_field U42 rfl fz42_2 (by decide) rfl) ?_
 refine S_val (Y_load U3 rfl rfl (B1.at (by rfl))) ?_
 refine S_val (Y_shl (a := 1) rfl rfl hp64 ha64) ?_
 refine S_val (Y_subU (b := 1) rfl rfl hp1 hp64) ?_
 refine Sas rfl ?_
 refine S_nl rfl rfl ?_
 refine th_n (hK9 _ _ ?_)
 clear hK9 K9
 refine wp_seq_k fun K10 hK10 => ?_
 refine Sb 63 rfl ?_
 refine S_val (Y_field U42 rfl fz42_0 (by decide) rfl) ?_
 refine S_val (Y_loadS U26 rfl sz26 rfl (CellsAt.of_blk (pre := []) (us := [_, _]) (post := [_, _]) B1 rfl)) ?_
 refine S_call rfl en39 (impl_reachable2_c _ _ _ _ _ _ _ (by assumption) (by assumption) (by omega) (by assumption)) ?_
 rintro v6 w6 ⟨s6, rfl, hs6, hr6, g6⟩
 replace hA := hA.grow g6
 replace hB := hB.grow g6
 replace hC := hC.grow g6
 replace G := G.grow g6
 replace B1 := B1.grow g6
 have zg6 := g6.size
 have hR0 := hs6
 have hRb := hr6
 have hlz := lz_iff hR0 hRb hM hU hlen ha64
 rw [show 2 ^ a - 1 = 1 * 2 ^ a - 1 by rw [Nat.one_mul]] at hlz
 have hR2 := lessN_lt (b := 0) hR0
 refine Smv rfl ?_
 refine S_val (Y_andNot rfl rfl (by first | assumption | exact SetOf.wlt (by assumption)) (by first | assumption | exact SetOf.wlt (by assumption))) ?_
 refine S_val (Y_eql rfl rfl) ?_
 refine Smv rfl ?_
 refine S_g 49 rfl (fun hb5 => ?_) (fun hb5 => ?_)
 ·
  replace hb5 := nb_tt hb5
  refine S_on rfl rfl ?_
  refine Smv rfl ?_
  refine S_on rfl rfl ?_
  refine Smv rfl ?_
  refine S_on rfl rfl ?_
  refine S_val (Y_andNot rfl rfl (by first | assumption | exact SetOf.wlt (by assumption)) (by first | assumption | exact SetOf.wlt (by assumption))) ?_
  refine S_on rfl rfl ?_
  refine S_val (Y_eql rfl rfl) ?_
  refine S_val (Y_pickT rfl rfl) ?_
  refine Smv rfl ?_
  refine S_g 55 rfl (fun hb6 => ?_) (fun hb6 => ?_)
  ·
   first | with_reducible (replace hb6 := nb_nt hb6) | with_reducible (replace hb6 := nb_tt hb6) | with_reducible (replace hb6 := nb_bt hb6) | skip
   refine S_on rfl rfl ?_
   refine Smv rfl ?_
   refine S_on rfl rfl ?_
   refine Smv rfl ?_
   refine S_on rfl rfl ?_
   refine S_val (Y_and rfl rfl hU.1 hbl) ?_
   refine S_on rfl rfl ?_
   refine Smv rfl ?_
   refine S_on rfl rfl ?_
   refine S_val (Y_andNot rfl rfl (Nat.lt_of_le_of_lt Nat.and_le_left hU.1) hM.1) ?_
   refine S_on rfl rfl ?_
   refine S_val (Y_eql rfl rfl) ?_
   refine S_val (Y_pickT rfl rfl) ?_
   refine Sas rfl ?_
   refine S_nl rfl rfl ?_
   refine th_n (hK10 _ _ ?_)
   clear hK10 K10
   refine wp_ret ?_
   refine ret_r1 rfl rfl ?_
   exact ⟨by rw [lazB_t hb1 hlen (by omega), hlz, decide_eq_true hb5, decide_eq_true hb6] <;> rfl, G⟩
  first | with_reducible (replace hb6 := nb_nf hb6) | with_reducible (replace hb6 := nb_tf hb6) | with_reducible (replace hb6 := nb_bf hb6) | skip
  refine S_off rfl rfl ?_
  refine S_off rfl rfl ?_
  refine S_off rfl rfl ?_
  refine S_off rfl rfl ?_
  refine S_off rfl rfl ?_
  refine S_off rfl rfl ?_
  refine S_val (Y_pickF rfl rfl) ?_
  refine Sas rfl ?_
  refine S_nl rfl rfl ?_
  refine th_n (hK10 _ _ ?_)
  clear hK10 K10
  refine wp_ret ?_
  refine ret_r1 rfl rfl ?_
  exact ⟨by rw [lazB_t hb1 hlen (by omega), hlz, decide_eq_true hb5, decide_eq_false hb6] <;> rfl, G⟩
 replace hb5 := nb_tf hb5
 refine S_off rfl rfl ?_
 refine S_off rfl rfl ?_
 refine S_off rfl rfl ?_
 refine S_off rfl rfl ?_
 refine S_val (Y_pickF rfl rfl) ?_
 refine Smv rfl ?_
 refine S_off rfl rfl ?_
 refine S_off rfl rfl ?_
 refine S_off rfl rfl ?_
 refine S_off rfl rfl ?_
 refine S_off rfl rfl ?_
 refine S_off rfl rfl ?_
 refine S_val (Y_pickF rfl rfl) ?_
 refine Sas rfl ?_
 refine S_nl rfl rfl ?_
 refine th_n (hK10 _ _ ?_)
 clear hK10 K10
 refine wp_ret ?_
 refine ret_r1 rfl rfl ?_
 exact ⟨by rw [lazB_t hb1 hlen (by omega), hlz, decide_eq_false hb5] <;> rfl, G⟩
set_option maxHeartbeats 8000000 in
set_option maxRecDepth 20000 in
theorem spec_LazyValid_c (Pr : Nat → Prop) (A B C : Option Addr) (h : LH) (ms : List Bool) (x : Int) (c d e : Nat) (w : World) (hA : RC Pr w A h.cells) (hB : R1 Pr w B (ints h.roots)) (hC : R1 Pr w C (bools ms)) (hz : hsize h ≤ 1048576) (_hxz : ms.length ≤ 1048576) (_hx : -9223372036854775808 ≤ x ∧ x ≤ 9223372036854775807) :
    Calls Try.prog 16 #[.agg #[.slice A h.cells.length c, .slice B h.roots.length d, .slice C ms.length e, .int .i64 x]] w (Ret fun v w' => v = .bool (lazB h ms x) ∧ Grow w w') := by
 have hz1 := hsize_cells h
 have hz2 := hsize_roots h
 refine enter Try.func16 rfl Try.ntmps16 (L := [_,_,_,_,_,_,_,_,_,_,_,_,_,_,_,_,_,_,_,_,_,_,_,_,_,_,_,_,_,_,_,_,_,_,_,_,_,_,_,_,_,_,_,_,_,_,_,_,_,_,_,_,_,_,_,_,_,_,_,_,_,_,_,_,_,_,_,_,_,_,_,_,_,_,_,_,_,_,_,_,_,_,_,_,_,_,_,_,_,_,_,_,_]) rfl ?_
 have G := Mod.refl No w
 have hA0 := hA
 have hB0 := hB
 have hC0 := hC
 refine wp_seq_k fun K1 hK1 => ?_
 refine Sb 93 rfl ?_
 refine S_box (cs := [_, _, _, _]) rfl rfl ?_
 intro b1 w1 fb1 g1 B1
 have lb1 := B1.lt
 replace hA := hA.grow g1
 replace hB := hB.grow g1
 replace hC := hC.grow g1
 replace G := G.grow g1
 have zg1 := g1.size
 refine Sas rfl ?_
 refine S_nl rfl rfl ?_
 refine th_n (hK1 _ _ ?_)
 clear hK1 K1
 refine wp_seq_k fun K2 hK2 => ?_
 refine wp_seq_k fun K3 hK3 => ?_
 refine Sb 93 rfl ?_
 refine S_val (Y_field U42 rfl fz42_0 (by decide) rfl) ?_
 refine S_val (Y_loadS U26 rfl sz26 rfl (CellsAt.of_blk (pre := []) (us := [_, _]) (post := [_, _]) B1 rfl)) ?_
 refine S_call rfl en44 (spec_HeapValid_c _ _ _ _ _ _ _ (by assumption) (by assumption) (by omega)) ?_
 rintro v2 w2 ⟨rfl, g2⟩
 replace hA := hA.grow g2
 replace hB := hB.grow g2
 replace hC := hC.grow g2
 replace G := G.grow g2
 replace B1 := B1.grow g2
 have zg2 := g2.size
 refine S_val (Y_not rfl) ?_
 refine Smv rfl ?_
 refine S_g 9 rfl (fun hb1 => ?_) (fun hb1 => ?_)
 ·
  first | with_reducible (replace hb1 := nb_nt hb1) | with_reducible (replace hb1 := nb_tt hb1) | with_reducible (replace hb1 := nb_bt hb1) | skip
  refine S_off rfl rfl ?_
  refine S_off rfl rfl ?_
  refine S_off rfl rfl ?_
  refine S_off rfl rfl ?_
  refine S_off rfl rfl ?_
  refine S_off rfl rfl ?_
  refine S_off rfl rfl ?_
  refine S_off rfl rfl ?_
  refine S_val (Y_pickT rfl rfl) ?_
  refine Smv rfl ?_
  refine S_off rfl rfl ?_
  refine S_off rfl rfl ?_
  refine S_off rfl rfl ?_
  refine S_off rfl rfl ?_
  refine S_off rfl rfl ?_
  refine S_off rfl rfl ?_
  refine S_off rfl rfl ?_
  refine S_val (Y_pickT rfl rfl) ?_
  refine S_nl rfl rfl ?_
  refine th_n (hK3 _ _ ?_)
  clear hK3 K3
  refine S_ifT rfl ?_
  refine wp_seq_k fun K4 hK4 => ?_
  refine Sb 93 rfl ?_
  refine Sas rfl ?_
  refine S_nl rfl rfl ?_
  refine th_n (hK4 _ _ ?_)
  clear hK4 K4
  refine wp_ret ?_
  refine th_r ?_
  clear hK2 K2
  refine ret_r1 rfl rfl ?_
  exact ⟨by rw [lazB_f1 hb1], G⟩
 first | with_reducible (replace hb1 := nb_nf hb1) | with_reducible (replace hb1 := nb_tf hb1) | with_reducible (replace hb1 := nb_bf hb1) | skip
 have va := valid_iff.1 hb1
 have hl := va.leads
 have h40 := va.le
 have hr4 := va.roots4
 refine S_on rfl rfl ?_
 refine S_val (Y_field U42 rfl fz42_1 (by decide) rfl) ?_
 refine S_on rfl rfl ?_
 refine S_val (Y_load U40 rfl rfl (B1.at (by rfl))) ?_
 refine S_on rfl rfl ?_
 refine S_val (Y_len U40 rfl) ?_
 refine S_on rfl rfl ?_
 refine S_val (Y_field U42 rfl fz42_0 (by decide) rfl) ?_
 refine S_on rfl rfl ?_
 refine S_val (Y_field U26 rfl fz26_0 (by decide) rfl) ?_
 refine S_on rfl rfl ?_
 refine S_val (Y_load U23 rfl rfl (B1.at (by rfl))) ?_
 refine S_on rfl rfl ?_
 refine S_val (Y_len U23 rfl) ?_
 refine S_on rfl rfl ?_
 refine S_val (Y_neq rfl rfl) ?_
 refine S_val (Y_pickF rfl rfl) ?_
 refine Smv rfl ?_
 refine S_g 19 rfl (fun hb2 => ?_) (fun hb2 => ?_)
 ·
  first | with_reducible (replace hb2 := nb_nt hb2) | with_reducible (replace hb2 := nb_tt hb2) | with_reducible (replace hb2 := nb_bt hb2) | skip
  refine S_off rfl rfl ?_
  refine S_off rfl rfl ?_
  refine S_off rfl rfl ?_
  refine S_off rfl rfl ?_
  refine S_off rfl rfl ?_
  refine S_off rfl rfl ?_
  refine S_off rfl rfl ?_
  refine S_val (Y_pickT rfl rfl) ?_
  refine S_nl rfl rfl ?_
  refine th_n (hK3 _ _ ?_)
  clear hK3 K3
  refine S_ifT rfl ?_
  refine wp_seq_k fun K5 hK5 => ?_
  refine Sb 93 rfl ?_
  refine Sas rfl ?_
  refine S_nl rfl rfl ?_
  refine th_n (hK5 _ _ ?_)
  clear hK5 K5
  refine wp_ret ?_
  refine th_r ?_
  clear hK2 K2
  refine ret_r1 rfl rfl ?_
  exact ⟨by rw [lazB_f2 (by omega)], G⟩
 first | with_reducible (replace hb2 := nb_nf hb2) | with_reducible (replace hb2 := nb_tf hb2) | with_reducible (replace hb2 := nb_bf hb2) | skip
 refine S_on rfl rfl ?_
 refine S_val (Y_field U42 rfl fz42_2 (by decide) rfl) ?_
 refine S_on rfl rfl ?_
 refine S_val (Y_load U3 rfl rfl (B1.at (by rfl))) ?_
 refine S_on rfl rfl ?_
 refine S_val (Y_field U42 rfl fz42_1 (by decide) rfl) ?_
 refine S_on rfl rfl ?_
 refine S_val (Y_load U40 rfl rfl (B1.at (by rfl))) ?_
 refine S_on rfl rfl ?_
 refine S_val (Y_len U40 rfl) ?_
 refine S_on rfl rfl ?_
 refine S_call rfl en45 (spec_l1In_c _ _ _ _) ?_
 rintro v w' ⟨rfl, rfl⟩
 refine S_on rfl rfl ?_
 refine S_val (Y_not rfl) ?_
 refine S_val (Y_pickF rfl rfl) ?_
 refine S_nl rfl rfl ?_
 refine th_n (hK3 _ _ ?_)
 clear hK3 K3
 refine S_if rfl (fun hb3 => ?_) (fun hb3 => ?_)
 ·
  first | with_reducible (replace hb3 := nb_nt hb3) | with_reducible (replace hb3 := nb_tt hb3) | with_reducible (replace hb3 := nb_bt hb3) | skip
  refine wp_seq_k fun K6 hK6 => ?_
  refine Sb 93 rfl ?_
  refine Sas rfl ?_
  refine S_nl rfl rfl ?_
  refine th_n (hK6 _ _ ?_)
  clear hK6 K6
  refine wp_ret ?_
  refine th_r ?_
  clear hK2 K2
  refine ret_r1 rfl rfl ?_
  exact ⟨by rw [lazB_f3 (by omega)], G⟩
 first | with_reducible (replace hb3 := nb_nf hb3) | with_reducible (replace hb3 := nb_tf hb3) | with_reducible (replace hb3 := nb_bf hb3) | skip
 have hlen : ms.length = h.cells.length := by omega
 obtain ⟨a, rfl⟩ := Int.eq_ofNat_of_zero_le (show 0 ≤ x by omega)
 refine wp_skip ?_
 refine th_n (hK2 _ _ ?_)
 clear hK2 K2
 refine wp_seq_k fun K7 hK7 => ?_
 refine Sb 93 rfl ?_
 refine S_val (Y_field U42 rfl fz42_0 (by decide) rfl) ?_
 refine S_val (Y_loadS U26 rfl sz26 rfl (CellsAt.of_blk (pre := []) (us := [_, _]) (post := [_, _]) B1 rfl)) ?_
 refine S_val (Y_field U42 rfl fz42_0 (by decide) rfl) ?_
 refine S_val (Y_field U26 rfl fz26_1 (by decide) rfl) ?_
 refine S_val (Y_load U24 rfl rfl (B1.at (by rfl))) ?_
 refine S_call rfl en46 (spec_l7Reach_c _ _ _ _ _ _ _ _ _ _ _ (by assumption) (by assumption) (by omega) (by omega) (by assumption)) ?_
 rintro v4 w4 ⟨b4, rfl, fb4, B4, g4⟩
 replace hA := hA.grow g4
 replace hB := hB.grow g4
 replace hC := hC.grow g4
 replace G := G.grow g4
 replace B1 := B1.grow g4
 have zg4 := g4.size
 have lb4 := B4.lt
 have hRB := R1.of_blkE B4
 refine Sas rfl ?_
 refine S_nl rfl rfl ?_
 refine th_n (hK7 _ _ ?_)
 clear hK7 K7
 refine wp_seq_k fun K8 hK8 => ?_
 refine wp_seq_k fun K9 hK9 => ?_
 refine Sb 93 rfl ?_
 refine Sas rfl ?_
 refine S_nl rfl rfl ?_
 refine th_n (hK9 _ _ ?_)
 clear hK9 K9
 refine wp_block ?_
 go_loopw [4] (fun u4 wr => (∃ k : Nat, u4 = .int .i64 k ∧ k ≤ ms.length ∧ lzOk h ms a k = true) ∧ Mod No w4 wr) (fun u4 wr => ms.length - (intOf u4).toNat)
 case atStart =>
  refine ⟨?_, Mod.refl _ _⟩
  exact ⟨0, rfl, by omega, rfl⟩
 case round =>
  obtain ⟨w5, rfl⟩ : ∃ x : World, x = wr := ⟨_, rfl⟩
  obtain ⟨hrel, g5⟩ := hrel
  replace hA := hA.grow g5
  replace hB := hB.grow g5
  replace hC := hC.grow g5
  replace hRB := hRB.grow g5
  replace G := G.grow g5
  replace B1 := B1.grow g5
  replace B4 := B4.grow g5
  have zg5 := g5.size
  obtain ⟨k, rfl, hk, hok⟩ := hrel
  have GL5 := g5
  refine wp_seq_k fun K10 hK10 => ?_
  refine wp_seq_k fun K11 hK11 => ?_
  refine Sb 93 rfl ?_
  refine Smv rfl ?_
  refine S_val (Y_field U42 rfl fz42_1 (by decide) rfl) ?_
  refine S_val (Y_load U40 rfl rfl (B1.at (by rfl))) ?_
  refine S_val (Y_len U40 rfl) ?_
  refine S_val (Y_lss rfl rfl) ?_
  refine S_nl rfl rfl ?_
  refine th_n (hK11 _ _ ?_)
  clear hK11 K11
  refine S_if rfl (fun hb4 => ?_) (fun hb4 => ?_)
  ·
   replace hb4 := nb_tt hb4
   have hk1 : k < ms.length := by omega
   have hk2 : k < h.cells.length := by omega
   have hib := inB_at hk1
   have hue := usedAt_at hk2
   obtain ⟨g2, o2, E2, d2, rfl, hp2, cc20, _⟩ := hA0.cell hk2
   have cc2 := cc20.grow G
   have hk3 : k < (mB h.cells.length (orderL h.cells h.roots nn)).length := by rw [mB_len]; exact hk2
   obtain ⟨g4, o4, e4, hp4, hc4⟩ := hRB.bool hk3
   cases e4
   have hme : (mB h.cells.length (orderL h.cells h.roots nn))[k] = rB h k := by simp [mB, rB]
   rw [hme] at hc4
   obtain ⟨g5, o5, e5, hp5, hc5⟩ := hC.bool hk1
   cases e5
   refine wp_skip ?_
   refine th_n (hK10 _ _ ?_)
   clear hK10 K10
   refine wp_seq_k fun K12 hK12 => ?_
   refine wp_block ?_
   refine wp_seq_k fun K13 hK13 => ?_
   refine Sb 93 rfl ?_
   refine Smv rfl ?_
   refine Smv rfl ?_
   refine S_val (Y_index U40 sz4 rfl rfl (by first | assumption | omega)) ?_
   refine S_val (Y_load U4 rfl rfl (by first | assumption | exact cc2.at (by rfl) | exact B1.at (by rfl) | exact B4.at (by rfl))) ?_
   refine Smv rfl ?_
   refine S_g 45 rfl (fun hb5 => ?_) (fun hb5 => ?_)
   ·
    first | with_reducible (replace hb5 := nb_nt hb5) | with_reducible (replace hb5 := nb_tt hb5) | with_reducible (replace hb5 := nb_bt hb5) | skip
    refine S_on rfl rfl ?_
    refine S_val (Y_field U42 rfl fz42_1 (by decide) rfl) ?_
    refine S_on rfl rfl ?_
    refine S_val (Y_load U40 rfl rfl (B1.at (by rfl))) ?_
    refine S_on rfl rfl ?_
    refine Smv rfl ?_
    refine S_on rfl rfl ?_
    refine S_val (Y_index U40 sz4 rfl rfl (by first | assumption | omega)) ?_
    refine S_on rfl rfl ?_
    refine S_val (Y_load U4 rfl rfl (by first | assumption | exact cc2.at (by rfl) | exact B1.at (by rfl) | exact B4.at (by rfl))) ?_
    refine S_on rfl rfl ?_
    refine S_val (Y_not rfl) ?_
    refine S_val (Y_pickT rfl rfl) ?_
    refine Smv rfl ?_
    refine S_g 53 rfl (fun hb6 => ?_) (fun hb6 => ?_)
    ·
     first | with_reducible (replace hb6 := nb_nt hb6) | with_reducible (replace hb6 := nb_tt hb6) | with_reducible (replace hb6 := nb_bt hb6) | skip
     refine S_off rfl rfl ?_
     refine S_off rfl rfl ?_
     refine S_off rfl rfl ?_
     refine S_off rfl rfl ?_
     refine S_off rfl rfl ?_
     refine S_off rfl rfl ?_
     refine S_offU rfl rfl ?_
     refine S_offU rfl rfl ?_
     refine S_offU rfl rfl ?_
     refine S_offU rfl rfl ?_
     refine S_offU rfl rfl ?_
     refine S_offU rfl rfl ?_
     refine S_offU rfl rfl ?_
     refine S_offU rfl rfl ?_
     refine S_off rfl rfl ?_
     refine S_val (Y_pickT rfl rfl) ?_
     refine Smv rfl ?_
     refine S_off rfl rfl ?_
     refine S_off rfl rfl ?_
     refine S_off rfl rfl ?_
     refine S_off rfl rfl ?_
     refine S_off rfl rfl ?_
     refine S_offU rfl rfl ?_
     refine S_offU rfl rfl ?_
     refine S_offU rfl rfl ?_
     refine S_offU rfl rfl ?_
     refine S_offU rfl rfl ?_
     refine S_offU rfl rfl ?_
     refine S_off rfl rfl ?_
     refine S_off rfl rfl ?_
     refine S_offU rfl rfl ?_
     refine S_offU rfl rfl ?_
     refine S_offU rfl rfl ?_
     refine S_offU rfl rfl ?_
     refine S_offU rfl rfl ?_
     refine S_offU rfl rfl ?_
     refine S_offU rfl rfl ?_
     refine S_off rfl rfl ?_
     refine S_val (Y_pickT rfl rfl) ?_
     refine S_nl rfl rfl ?_
     refine th_n (hK13 _ _ ?_)
     clear hK13 K13
     refine S_ifT rfl ?_
     refine wp_seq_k fun K14 hK14 => ?_
     refine Sb 93 rfl ?_
     refine Sas rfl ?_
     refine S_nl rfl rfl ?_
     refine th_n (hK14 _ _ ?_)
     clear hK14 K14
     refine wp_ret ?_
     refine ib_r ?_
     refine th_r ?_
     try clear GL5
     refine th_r ?_
     refine ib_r ?_
     refine th_r ?_
     clear hK12 K12 hK8 K8
     refine ret_r1 rfl rfl ?_
     have hbad : lzBad h ms a k = true := by
       unfold lzBad
       rw [hib, hue]
       revert hb5 hb6
       generalize ms[k] = ym
       generalize h.cells[k].used = yu
       by_cases hka : k < a <;> cases rB h k <;> cases ym <;> cases yu <;> simp [hka]
     exact ⟨by rw [lazB_t hb1 hlen (by omega), lzOk_bad hk2 hbad], G⟩
    first | with_reducible (replace hb6 := nb_nf hb6) | with_reducible (replace hb6 := nb_tf hb6) | with_reducible (replace hb6 := nb_bf hb6) | skip
    refine S_on rfl rfl ?_
    refine S_val (Y_field U42 rfl fz42_1 (by decide) rfl) ?_
    refine S_on rfl rfl ?_
    refine S_val (Y_load U40 rfl rfl (B1.at (by rfl))) ?_
    refine S_on rfl rfl ?_
    refine Smv rfl ?_
    refine S_on rfl rfl ?_
    refine S_val (Y_index U40 sz4 rfl rfl (by first | assumption | omega)) ?_
    refine S_on rfl rfl ?_
    refine S_val (Y_load U4 rfl rfl (by first | assumption | exact cc2.at (by rfl) | exact B1.at (by rfl) | exact B4.at (by rfl))) ?_
    refine S_on rfl rfl ?_
    refine Smv rfl ?_
    refine S_g 59 rfl (fun hb7 => ?_) (fun hb7 => ?_)
    ·
     first | with_reducible (replace hb7 := nb_nt hb7) | with_reducible (replace hb7 := nb_tt hb7) | with_reducible (replace hb7 := nb_bt hb7) | skip
     refine S_on rfl rfl ?_
     refine S_val (Y_field U42 rfl fz42_0 (by decide) rfl) ?_
     refine S_on rfl rfl ?_
     refine S_val (Y_field U26 rfl fz26_0 (by decide) rfl) ?_
     refine S_on rfl rfl ?_
     refine S_val (Y_load U23 rfl rfl (B1.at (by rfl))) ?_
     refine S_on rfl rfl ?_
     refine Smv rfl ?_
     refine S_on rfl rfl ?_
     refine S_val (Y_index U23 sz50 rfl rfl (by first | assumption | omega)) ?_
     refine S_on rfl rfl ?_
     refine S_val (Y_field U50 rfl fz50_0 (by decide) rfl) ?_
     refine S_on rfl rfl ?_
     refine S_val (Y_load U4 rfl rfl (by first | assumption | exact cc2.at (by rfl) | exact B1.at (by rfl) | exact B4.at (by rfl))) ?_
     refine S_on rfl rfl ?_
     refine S_val (Y_not rfl) ?_
     refine S_on rfl rfl ?_
     refine S_val (Y_pickT rfl rfl) ?_
     refine S_val (Y_pickF rfl rfl) ?_
     refine Smv rfl ?_
     refine S_g 70 rfl (fun hb8 => ?_) (fun hb8 => ?_)
     ·
      first | with_reducible (replace hb8 := nb_nt hb8) | with_reducible (replace hb8 := nb_tt hb8) | with_reducible (replace hb8 := nb_bt hb8) | skip
      refine S_off rfl rfl ?_
      refine S_off rfl rfl ?_
      refine S_off rfl rfl ?_
      refine S_off rfl rfl ?_
      refine S_off rfl rfl ?_
      refine S_offU rfl rfl ?_
      refine S_offU rfl rfl ?_
      refine S_offU rfl rfl ?_
      refine S_offU rfl rfl ?_
      refine S_offU rfl rfl ?_
      refine S_offU rfl rfl ?_
      refine S_off rfl rfl ?_
      refine S_off rfl rfl ?_
      refine S_offU rfl rfl ?_
      refine S_offU rfl rfl ?_
      refine S_offU rfl rfl ?_
      refine S_offU rfl rfl ?_
      refine S_offU rfl rfl ?_
      refine S_offU rfl rfl ?_
      refine S_offU rfl rfl ?_
      refine S_off rfl rfl ?_
      refine S_val (Y_pickT rfl rfl) ?_
      refine S_nl rfl rfl ?_
      refine th_n (hK13 _ _ ?_)
      clear hK13 K13
      refine S_ifT rfl ?_
      refine wp_seq_k fun K15 hK15 => ?_
      refine Sb 93 rfl ?_
      refine Sas rfl ?_
      refine S_nl rfl rfl ?_
      refine th_n (hK15 _ _ ?_)
      clear hK15 K15
      refine wp_ret ?_
      refine ib_r ?_
      refine th_r ?_
      try clear GL5
      refine th_r ?_
      refine ib_r ?_
      refine th_r ?_
      clear hK12 K12 hK8 K8
      refine ret_r1 rfl rfl ?_
      have hbad : lzBad h ms a k = true := by
        unfold lzBad
        rw [hib, hue]
        revert hb5 hb6 hb7 hb8
        generalize ms[k] = ym
        generalize h.cells[k].used = yu
        by_cases hka : k < a <;> cases rB h k <;> cases ym <;> cases yu <;> simp [hka]
      exact ⟨by rw [lazB_t hb1 hlen (by omega), lzOk_bad hk2 hbad], G⟩
     first | with_reducible (replace hb8 := nb_nf hb8) | with_reducible (replace hb8 := nb_tf hb8) | with_reducible (replace hb8 := nb_bf hb8) | skip
     refine S_on rfl rfl ?_
     refine Smv rfl ?_
     refine S_on rfl rfl ?_
     refine S_val (Y_field U42 rfl fz42_2 (by decide) rfl) ?_
     refine S_on rfl rfl ?_
     refine S_val (Y_load U3 rfl rfl (B1.at (by rfl))) ?_
     refine S_on rfl rfl ?_
     refine S_val (Y_lss rfl rfl) ?_
     refine S_on rfl rfl ?_
     refine Smv rfl ?_
     refine S_g 75 rfl (fun hb9 => ?_) (fun hb9 => ?_)
     ·
      replace hb9 := nb_tt hb9
      refine S_on rfl rfl ?_
      refine S_val (Y_field U42 rfl fz42_1 (by decide) rfl) ?_
      refine S_on rfl rfl ?_
      refine S_val (Y_load U40 rfl rfl (B1.at (by rfl))) ?_
      refine S_on rfl rfl ?_
      refine Smv rfl ?_
      refine S_on rfl rfl ?_
      refine S_val (Y_index U40 sz4 rfl rfl (by first | assumption | omega)) ?_
      refine S_on rfl rfl ?_
      refine S_val (Y_load U4 rfl rfl (by first | assumption | exact cc2.at (by rfl) | exact B1.at (by rfl) | exact B4.at (by rfl))) ?_
      refine S_on rfl rfl ?_
      refine S_val (Y_not rfl) ?_
      refine S_on rfl rfl ?_
      refine S_val (Y_pickT rfl rfl) ?_
      refine S_on rfl rfl ?_
      refine Smv rfl ?_
      refine S_g 83 rfl (fun hb10 => ?_) (fun hb10 => ?_)
      ·
       first | with_reducible (replace hb10 := nb_nt hb10) | with_reducible (replace hb10 := nb_tt hb10) | with_reducible (replace hb10 := nb_bt hb10) | skip
       refine S_on rfl rfl ?_
       refine S_val (Y_field U42 rfl fz42_0 (by decide) rfl) ?_
       refine S_on rfl rfl ?_
       refine S_val (Y_field U26 rfl fz26_0 (by decide) rfl) ?_
       refine S_on rfl rfl ?_
       refine S_val (Y_load U23 rfl rfl (B1.at (by rfl))) ?_
       refine S_on rfl rfl ?_
       refine Smv rfl ?_
       refine S_on rfl rfl ?_
       refine S_val (Y_index U23 sz50 rfl rfl (by first | assumption | omega)) ?_
       refine S_on rfl rfl ?_
       refine S_val (Y_field U50 rfl fz50_0 (by decide) rfl) ?_
       refine S_on rfl rfl ?_
       refine S_val (Y_load U4 rfl rfl (by first | assumption | exact cc2.at (by rfl) | exact B1.at (by rfl) | exact B4.at (by rfl))) ?_
       refine S_on rfl rfl ?_
       refine S_val (Y_pickT rfl rfl) ?_
       refine S_val (Y_pickF rfl rfl) ?_
       refine S_nl rfl rfl ?_
       refine th_n (hK13 _ _ ?_)
       clear hK13 K13
       refine S_if rfl (fun hb11 => ?_) (fun hb11 => ?_)
       ·
        first | with_reducible (replace hb11 := nb_nt hb11) | with_reducible (replace hb11 := nb_tt hb11) | with_reducible (replace hb11 := nb_bt hb11) | skip
        refine wp_seq_k fun K16 hK16 => ?_
        refine Sb 93 rfl ?_
        refine Sas rfl ?_
        refine S_nl rfl rfl ?_
        refine th_n (hK16 _ _ ?_)
        clear hK16 K16
        refine wp_ret ?_
        refine ib_r ?_
        refine th_r ?_
        try clear GL5
        refine th_r ?_
        refine ib_r ?_
        refine th_r ?_
        clear hK12 K12 hK8 K8
        refine ret_r1 rfl rfl ?_
        have hbad : lzBad h ms a k = true := by
          unfold lzBad
          rw [hib, hue]
          revert hb5 hb6 hb7 hb8 hb9 hb10 hb11
          generalize ms[k] = ym
          generalize h.cells[k].used = yu
          by_cases hka : k < a <;> cases rB h k <;> cases ym <;> cases yu <;> simp [hka]
        exact ⟨by rw [lazB_t hb1 hlen (by omega), lzOk_bad hk2 hbad], G⟩
       first | with_reducible (replace hb11 := nb_nf hb11) | with_reducible (replace hb11 := nb_tf hb11) | with_reducible (replace hb11 := nb_bf hb11) | skip
       refine wp_skip ?_
       refine ib_n ?_
       refine th_n (hK12 _ _ ?_)
       clear hK12 K12
       refine Sb 93 rfl ?_
       refine Smv rfl ?_
       refine S_val (Y_inc rfl rfl (by omega)) ?_
       refine Sas rfl ?_
       refine S_nl rfl rfl ?_
       refine th_n ?_
       go_roundw
       case rel =>
        refine ⟨?_, GL5⟩
        have hbad : lzBad h ms a k = false := by
          unfold lzBad
          rw [hib, hue]
          revert hb5 hb6 hb7 hb8 hb9 hb10 hb11
          generalize ms[k] = ym
          generalize h.cells[k].used = yu
          by_cases hka : k < a <;> cases rB h k <;> cases ym <;> cases yu <;> simp [hka]
        exact ⟨k + 1, rfl, by omega, by rw [lzOk_succ, hok, hbad]; rfl⟩
       case measure =>
        exact dec_nat (by omega)
      first | with_reducible (replace hb10 := nb_nf hb10) | with_reducible (replace hb10 := nb_tf hb10) | with_reducible (replace hb10 := nb_bf hb10) | skip
      refine S_off rfl rfl ?_
      refine S_off rfl rfl ?_
      refine S_off rfl rfl ?_
      refine S_off rfl rfl ?_
      refine S_off rfl rfl ?_
      refine S_off rfl rfl ?_
      refine S_off rfl rfl ?_
      refine S_on rfl rfl ?_
      refine S_val (Y_pickF rfl rfl) ?_
      refine S_val (Y_pickF rfl rfl) ?_
      refine S_nl rfl rfl ?_
      refine th_n (hK13 _ _ ?_)
      clear hK13 K13
      refine S_ifF rfl ?_
      refine wp_skip ?_
      refine ib_n ?_
      refine th_n (hK12 _ _ ?_)
      clear hK12 K12
      refine Sb 93 rfl ?_
      refine Smv rfl ?_
      refine S_val (Y_inc rfl rfl (by omega)) ?_
      refine Sas rfl ?_
      refine S_nl rfl rfl ?_
      refine th_n ?_
      go_roundw
      case rel =>
       refine ⟨?_, GL5⟩
       have hbad : lzBad h ms a k = false := by
         unfold lzBad
         rw [hib, hue]
         revert hb5 hb6 hb7 hb8 hb9 hb10
         generalize ms[k] = ym
         generalize h.cells[k].used = yu
         by_cases hka : k < a <;> cases rB h k <;> cases ym <;> cases yu <;> simp [hka]
       exact ⟨k + 1, rfl, by omega, by rw [lzOk_succ, hok, hbad]; rfl⟩
      case measure =>
       exact dec_nat (by omega)
     replace hb9 := nb_tf hb9
     refine S_off rfl rfl ?_
     refine S_off rfl rfl ?_
     refine S_off rfl rfl ?_
     refine S_off rfl rfl ?_
     refine S_off rfl rfl ?_
     refine S_off rfl rfl ?_
     refine S_on rfl rfl ?_
     refine S_val (Y_pickF rfl rfl) ?_
     refine S_on rfl rfl ?_
     refine Smv rfl ?_
     refine S_off rfl rfl ?_
     refine S_off rfl rfl ?_
     refine S_off rfl rfl ?_
     refine S_off rfl rfl ?_
     refine S_off rfl rfl ?_
     refine S_off rfl rfl ?_
     refine S_off rfl rfl ?_
     refine S_on rfl rfl ?_
     refine S_val (Y_pickF rfl rfl) ?_
     refine S_val (Y_pickF rfl rfl) ?_
     refine S_nl rfl rfl ?_
     refine th_n (hK13 _ _ ?_)
     clear hK13 K13
     refine S_ifF rfl ?_
     refine wp_skip ?_
     refine ib_n ?_
     refine th_n (hK12 _ _ ?_)
     clear hK12 K12
     refine Sb 93 rfl ?_
     refine Smv rfl ?_
     refine S_val (Y_inc rfl rfl (by omega)) ?_
     refine Sas rfl ?_
     refine S_nl rfl rfl ?_
     refine th_n ?_
     go_roundw
     case rel =>
      refine ⟨?_, GL5⟩
      have hbad : lzBad h ms a k = false := by
        unfold lzBad
        rw [hib, hue]
        revert hb5 hb6 hb7 hb8 hb9
        generalize ms[k] = ym
        generalize h.cells[k].used = yu
        by_cases hka : k < a <;> cases rB h k <;> cases ym <;> cases yu <;> simp [hka]
      exact ⟨k + 1, rfl, by omega, by rw [lzOk_succ, hok, hbad]; rfl⟩
     case measure =>
      exact dec_nat (by omega)
    first | with_reducible (replace hb7 := nb_nf hb7) | with_reducible (replace hb7 := nb_tf hb7) | with_reducible (replace hb7 := nb_bf hb7) | skip
    refine S_off rfl rfl ?_
    refine S_off rfl rfl ?_
    refine S_off rfl rfl ?_
    refine S_off rfl rfl ?_
    refine S_off rfl rfl ?_
    refine S_off rfl rfl ?_
    refine S_off rfl rfl ?_
    refine S_off rfl rfl ?_
    refine S_on rfl rfl ?_
    refine S_val (Y_pickF rfl rfl) ?_
    refine S_val (Y_pickF rfl rfl) ?_
    refine Smv rfl ?_
    refine S_on rfl rfl ?_
    refine Smv rfl ?_
    refine S_on rfl rfl ?_
    refine S_val (Y_field U42 rfl fz42_2 (by decide) rfl) ?_
    refine S_on rfl rfl ?_
    refine S_val (Y_load U3 rfl rfl (B1.at (by rfl))) ?_
    refine S_on rfl rfl ?_
    refine S_val (Y_lss rfl rfl) ?_
    refine S_on rfl rfl ?_
    refine Smv rfl ?_
    refine S_g 75 rfl (fun hb8 => ?_) (fun hb8 => ?_)
    ·
     replace hb8 := nb_tt hb8
     refine S_on rfl rfl ?_
     refine S_val (Y_field U42 rfl fz42_1 (by decide) rfl) ?_
     refine S_on rfl rfl ?_
     refine S_val (Y_load U40 rfl rfl (B1.at (by rfl))) ?_
     refine S_on rfl rfl ?_
     refine Smv rfl ?_
     refine S_on rfl rfl ?_
     refine S_val (Y_index U40 sz4 rfl rfl (by first | assumption | omega)) ?_
     refine S_on rfl rfl ?_
     refine S_val (Y_load U4 rfl rfl (by first | assumption | exact cc2.at (by rfl) | exact B1.at (by rfl) | exact B4.at (by rfl))) ?_
     refine S_on rfl rfl ?_
     refine S_val (Y_not rfl) ?_
     refine S_on rfl rfl ?_
     refine S_val (Y_pickT rfl rfl) ?_
     refine S_on rfl rfl ?_
     refine Smv rfl ?_
     refine S_g 83 rfl (fun hb9 => ?_) (fun hb9 => ?_)
     ·
      first | with_reducible (replace hb9 := nb_nt hb9) | with_reducible (replace hb9 := nb_tt hb9) | with_reducible (replace hb9 := nb_bt hb9) | skip
      refine S_on rfl rfl ?_
      refine S_val (Y_field U42 rfl fz42_0 (by decide) rfl) ?_
      refine S_on rfl rfl ?_
      refine S_val (Y_field U26 rfl fz26_0 (by decide) rfl) ?_
      refine S_on rfl rfl ?_
      refine S_val (Y_load U23 rfl rfl (B1.at (by rfl))) ?_
      refine S_on rfl rfl ?_
      refine Smv rfl ?_
      refine S_on rfl rfl ?_
      refine S_val (Y_index U23 sz50 rfl rfl (by first | assumption | omega)) ?_
      refine S_on rfl rfl ?_
      refine S_val (Y_field U50 rfl fz50_0 (by decide) rfl) ?_
      refine S_on rfl rfl ?_
      refine S_val (Y_load U4 rfl rfl (by first | assumption | exact cc2.at (by rfl) | exact B1.at (by rfl) | exact B4.at (by rfl))) ?_
      refine S_on rfl rfl ?_
      refine S_val (Y_pickT rfl rfl) ?_
      refine S_val (Y_pickF rfl rfl) ?_
      refine S_nl rfl rfl ?_
      refine th_n (hK13 _ _ ?_)
      clear hK13 K13
      refine S_if rfl (fun hb10 => ?_) (fun hb10 => ?_)
      ·
       first | with_reducible (replace hb10 := nb_nt hb10) | with_reducible (replace hb10 := nb_tt hb10) | with_reducible (replace hb10 := nb_bt hb10) | skip
       refine wp_seq_k fun K17 hK17 => ?_
       refine Sb 93 rfl ?_
       refine Sas rfl ?_
       refine S_nl rfl rfl ?_
       refine th_n (hK17 _ _ ?_)
       clear hK17 K17
       refine wp_ret ?_
       refine ib_r ?_
       refine th_r ?_
       try clear GL5
       refine th_r ?_
       refine ib_r ?_
       refine th_r ?_
       clear hK12 K12 hK8 K8
       refine ret_r1 rfl rfl ?_
       have hbad : lzBad h ms a k = true := by
         unfold lzBad
         rw [hib, hue]
         revert hb5 hb6 hb7 hb8 hb9 hb10
         generalize ms[k] = ym
         generalize h.cells[k].used = yu
         by_cases hka : k < a <;> cases rB h k <;> cases ym <;> cases yu <;> simp [hka]
       exact ⟨by rw [lazB_t hb1 hlen (by omega), lzOk_bad hk2 hbad], G⟩
      first | with_reducible (replace hb10 := nb_nf hb10) | with_reducible (replace hb10 := nb_tf hb10) | with_reducible (replace hb10 := nb_bf hb10) | skip
      refine wp_skip ?_
      refine ib_n ?_
      refine th_n (hK12 _ _ ?_)
      clear hK12 K12
      refine Sb 93 rfl ?_
      refine Smv rfl ?_
      refine S_val (Y_inc rfl rfl (by omega)) ?_
      refine Sas rfl ?_
      refine S_nl rfl rfl ?_
      refine th_n ?_
      go_roundw
      case rel =>
       refine ⟨?_, GL5⟩
       have hbad : lzBad h ms a k = false := by
         unfold lzBad
         rw [hib, hue]
         revert hb5 hb6 hb7 hb8 hb9 hb10
         generalize ms[k] = ym
         generalize h.cells[k].used = yu
         by_cases hka : k < a <;> cases rB h k <;> cases ym <;> cases yu <;> simp [hka]
       exact ⟨k + 1, rfl, by omega, by rw [lzOk_succ, hok, hbad]; rfl⟩
      case measure =>
       exact dec_nat (by omega)
     first | with_reducible (replace hb9 := nb_nf hb9) | with_reducible (replace hb9 := nb_tf hb9) | with_reducible (replace hb9 := nb_bf hb9) | skip
     refine S_off rfl rfl ?_
     refine S_off rfl rfl ?_
     refine S_off rfl rfl ?_
     refine S_off rfl rfl ?_
     refine S_off rfl rfl ?_
     refine S_off rfl rfl ?_
     refine S_off rfl rfl ?_
     refine S_on rfl rfl ?_
     refine S_val (Y_pickF rfl rfl) ?_
     refine S_val (Y_pickF rfl rfl) ?_
     refine S_nl rfl rfl ?_
     refine th_n (hK13 _ _ ?_)
     clear hK13 K13
     refine S_ifF rfl ?_
     refine wp_skip ?_
     refine ib_n ?_
     refine th_n (hK12 _ _ ?_)
     clear hK12 K12
     refine Sb 93 rfl ?_
     refine Smv rfl ?_
     refine S_val (Y_inc rfl rfl (by omega)) ?_
     refine Sas rfl ?_
     refine S_nl rfl rfl ?_
     refine th_n ?_
     go_roundw
     case rel =>
      refine ⟨?_, GL5⟩
      have hbad : lzBad h ms a k = false := by
        unfold lzBad
        rw [hib, hue]
        revert hb5 hb6 hb7 hb8 hb9
        generalize ms[k] = ym
        generalize h.cells[k].used = yu
        by_cases hka : k < a <;> cases rB h k <;> cases ym <;> cases yu <;> simp [hka]
      exact ⟨k + 1, rfl, by omega, by rw [lzOk_succ, hok, hbad]; rfl⟩
     case measure =>
      exact dec_nat (by omega)
    replace hb8 := nb_tf hb8
    refine S_off rfl rfl ?_
    refine S_off rfl rfl ?_
    refine S_off rfl rfl ?_
    refine S_off rfl rfl ?_
    refine S_off rfl rfl ?_
    refine S_off rfl rfl ?_
    refine S_on rfl rfl ?_
    refine S_val (Y_pickF rfl rfl) ?_
    refine S_on rfl rfl ?_
    refine Smv rfl ?_
    refine S_off rfl rfl ?_
    refine S_off rfl rfl ?_
    refine S_off rfl rfl ?_
    refine S_off rfl rfl ?_
    refine S_off rfl rfl ?_
    refine S_off rfl rfl ?_
    refine S_off rfl rfl ?_
    refine S_on rfl rfl ?_
    refine S_val (Y_pickF rfl rfl) ?_
    refine S_val (Y_pickF rfl rfl) ?_
    refine S_nl rfl rfl ?_
    refine th_n (hK13 _ _ ?_)
    clear hK13 K13
    refine S_ifF rfl ?_
    refine wp_skip ?_
    refine ib_n ?_
    refine th_n (hK12 _ _ ?_)
    clear hK12 K12
    refine Sb 93 rfl ?_
    refine Smv rfl ?_
    refine S_val (Y_inc rfl rfl (by omega)) ?_
    refine Sas rfl ?_
    refine S_nl rfl rfl ?_
    refine th_n ?_
    go_roundw
    case rel =>
     refine ⟨?_, GL5⟩
     have hbad : lzBad h ms a k = false := by
       unfold lzBad
       rw [hib, hue]
       revert hb5 hb6 hb7 hb8
       generalize ms[k] = ym
       generalize h.cells[k].used = yu
       by_cases hka : k < a <;> cases rB h k <;> cases ym <;> cases yu <;> simp [hka]
     exact ⟨k + 1, rfl, by omega, by rw [lzOk_succ, hok, hbad]; rfl⟩
    case measure =>
     exact dec_nat (by omega)
   first | with_reducible (replace hb5 := nb_nf hb5) | with_reducible (replace hb5 := nb_tf hb5) | with_reducible (replace hb5 := nb_bf hb5) | skip
   refine S_off rfl rfl ?_
   refine S_off rfl rfl ?_
   refine S_off rfl rfl ?_
   refine S_off rfl rfl ?_
   refine S_off rfl rfl ?_
   refine S_off rfl rfl ?_
   refine S_val (Y_pickF rfl rfl) ?_
   refine Smv rfl ?_
   refine S_on rfl rfl ?_
   refine S_val (Y_field U42 rfl fz42_1 (by decide) rfl) ?_
   refine S_on rfl rfl ?_
   refine S_val (Y_load U40 rfl rfl (B1.at (by rfl))) ?_
   refine S_on rfl rfl ?_
   refine Smv rfl ?_
   refine S_on rfl rfl ?_
   refine S_val (Y_index U40 sz4 rfl rfl (by first | assumption | omega)) ?_
   refine S_on rfl rfl ?_
   refine S_val (Y_load U4 rfl rfl (by first | assumption | exact cc2.at (by rfl) | exact B1.at (by rfl) | exact B4.at (by rfl))) ?_
   refine S_on rfl rfl ?_
   refine Smv rfl ?_
   refine S_g 59 rfl (fun hb6 => ?_) (fun hb6 => ?_)
   ·
    first | with_reducible (replace hb6 := nb_nt hb6) | with_reducible (replace hb6 := nb_tt hb6) | with_reducible (replace hb6 := nb_bt hb6) | skip
    refine S_on rfl rfl ?_
    refine S_val (Y_field U42 rfl fz42_0 (by decide) rfl) ?_
    refine S_on rfl rfl ?_
    refine S_val (Y_field U26 rfl fz26_0 (by decide) rfl) ?_
    refine S_on rfl rfl ?_
    refine S_val (Y_load U23 rfl rfl (B1.at (by rfl))) ?_
    refine S_on rfl rfl ?_
    refine Smv rfl ?_
    refine S_on rfl rfl ?_
    refine S_val (Y_index U23 sz50 rfl rfl (by first | assumption | omega)) ?_
    refine S_on rfl rfl ?_
    refine S_val (Y_field U50 rfl fz50_0 (by decide) rfl) ?_
    refine S_on rfl rfl ?_
    refine S_val (Y_load U4 rfl rfl (by first | assumption | exact cc2.at (by rfl) | exact B1.at (by rfl) | exact B4.at (by rfl))) ?_
    refine S_on rfl rfl ?_
    refine S_val (Y_not rfl) ?_
    refine S_on rfl rfl ?_
    refine S_val (Y_pickT rfl rfl) ?_
    refine S_val (Y_pickF rfl rfl) ?_
    refine Smv rfl ?_
    refine S_g 70 rfl (fun hb7 => ?_) (fun hb7 => ?_)
    ·
     first | with_reducible (replace hb7 := nb_nt hb7) | with_reducible (replace hb7 := nb_tt hb7) | with_reducible (replace hb7 := nb_bt hb7) | skip
     refine S_off rfl rfl ?_
     refine S_off rfl rfl ?_
     refine S_off rfl rfl ?_
     refine S_off rfl rfl ?_
     refine S_off rfl rfl ?_
     refine S_offU rfl rfl ?_
     refine S_offU rfl rfl ?_
     refine S_offU rfl rfl ?_
     refine S_offU rfl rfl ?_
     refine S_offU rfl rfl ?_
     refine S_offU rfl rfl ?_
     refine S_off rfl rfl ?_
     refine S_off rfl rfl ?_
     refine S_offU rfl rfl ?_
     refine S_offU rfl rfl ?_
     refine S_offU rfl rfl ?_
     refine S_offU rfl rfl ?_
     refine S_offU rfl rfl ?_
     refine S_offU rfl rfl ?_
     refine S_offU rfl rfl ?_
     refine S_off rfl rfl ?_
     refine S_val (Y_pickT rfl rfl) ?_
     refine S_nl rfl rfl ?_
     refine th_n (hK13 _ _ ?_)
     clear hK13 K13
     refine S_ifT rfl ?_
     refine wp_seq_k fun K18 hK18 => ?_
     refine Sb 93 rfl ?_
     refine Sas rfl ?_
     refine S_nl rfl rfl ?_
     refine th_n (hK18 _ _ ?_)
     clear hK18 K18
     refine wp_ret ?_
     refine ib_r ?_
     refine th_r ?_
     try clear GL5
     refine th_r ?_
     refine ib_r ?_
     refine th_r ?_
     clear hK12 K12 hK8 K8
     refine ret_r1 rfl rfl ?_
     have hbad : lzBad h ms a k = true := by
       unfold lzBad
       rw [hib, hue]
       revert hb5 hb6 hb7
       generalize ms[k] = ym
       generalize h.cells[k].used = yu
       by_cases hka : k < a <;> cases rB h k <;> cases ym <;> cases yu <;> simp [hka]
     exact ⟨by rw [lazB_t hb1 hlen (by omega), lzOk_bad hk2 hbad], G⟩
    first | with_reducible (replace hb7 := nb_nf hb7) | with_reducible (replace hb7 := nb_tf hb7) | with_reducible (replace hb7 := nb_bf hb7) | skip
    refine S_on rfl rfl ?_
    refine Smv rfl ?_
    refine S_on rfl rfl ?_
    refine S_val (Y_field U42 rfl fz42_2 (by decide) rfl) ?_
    refine S_on rfl rfl ?_
    refine S_val (Y_load U3 rfl rfl (B1.at (by rfl))) ?_
    refine S_on rfl rfl ?_
    refine S_val (Y_lss rfl rfl) ?_
    refine S_on rfl rfl ?_
    refine Smv rfl ?_
    refine S_g 75 rfl (fun hb8 => ?_) (fun hb8 => ?_)
    ·
     replace hb8 := nb_tt hb8
     refine S_on rfl rfl ?_
     refine S_val (Y_field U42 rfl fz42_1 (by decide) rfl) ?_
     refine S_on rfl rfl ?_
     refine S_val (Y_load U40 rfl rfl (B1.at (by rfl))) ?_
     refine S_on rfl rfl ?_
     refine Smv rfl ?_
     refine S_on rfl rfl ?_
     refine S_val (Y_index U40 sz4 rfl rfl (by first | assumption | omega)) ?_
     refine S_on rfl rfl ?_
     refine S_val (Y_load U4 rfl rfl (by first | assumption | exact cc2.at (by rfl) | exact B1.at (by rfl) | exact B4.at (by rfl))) ?_
     refine S_on rfl rfl ?_
     refine S_val (Y_not rfl) ?_
     refine S_on rfl rfl ?_
     refine S_val (Y_pickT rfl rfl) ?_
     refine S_on rfl rfl ?_
     refine Smv rfl ?_
     refine S_g 83 rfl (fun hb9 => ?_) (fun hb9 => ?_)
     ·
      first | with_reducible (replace hb9 := nb_nt hb9) | with_reducible (replace hb9 := nb_tt hb9) | with_reducible (replace hb9 := nb_bt hb9) | skip
      refine S_on rfl rfl ?_
      refine S_val (Y_field U42 rfl fz42_0 (by decide) rfl) ?_
      refine S_on rfl rfl ?_
      refine S_val (Y_field U26 rfl fz26_0 (by decide) rfl) ?_
      refine S_on rfl rfl ?_
      refine S_val (Y_load U23 rfl rfl (B1.at (by rfl))) ?_
      refine S_on rfl rfl ?_
      refine Smv rfl ?_
      refine S_on rfl rfl ?_
      refine S_val (Y_index U23 sz50 rfl rfl (by first | assumption | omega)) ?_
      refine S_on rfl rfl ?_
      refine S_val (Y_field U50 rfl fz50_0 (by decide) rfl) ?_
      refine S_on rfl rfl ?_
      refine S_val (Y_load U4 rfl rfl (by first | assumption | exact cc2.at (by rfl) | exact B1.at (by rfl) | exact B4.at (by rfl))) ?_
      refine S_on rfl rfl ?_
      refine S_val (Y_pickT rfl rfl) ?_
      refine S_val (Y_pickF rfl rfl) ?_
      refine S_nl rfl rfl ?_
      refine th_n (hK13 _ _ ?_)
      clear hK13 K13
      refine S_if rfl (fun hb10 => ?_) (fun hb10 => ?_)
      ·
       first | with_reducible (replace hb10 := nb_nt hb10) | with_reducible (replace hb10 := nb_tt hb10) | with_reducible (replace hb10 := nb_bt hb10) | skip
       refine wp_seq_k fun K19 hK19 => ?_
       refine Sb 93 rfl ?_
       refine Sas rfl ?_
       refine S_nl rfl rfl ?_
       refine th_n (hK19 _ _ ?_)
       clear hK19 K19
       refine wp_ret ?_
       refine ib_r ?_
       refine th_r ?_
       try clear GL5
       refine th_r ?_
       refine ib_r ?_
       refine th_r ?_
       clear hK12 K12 hK8 K8
       refine ret_r1 rfl rfl ?_
       have hbad : lzBad h ms a k = true := by
         unfold lzBad
         rw [hib, hue]
         revert hb5 hb6 hb7 hb8 hb9 hb10
         generalize ms[k] = ym
         generalize h.cells[k].used = yu
         by_cases hka : k < a <;> cases rB h k <;> cases ym <;> cases yu <;> simp [hka]
       exact ⟨by rw [lazB_t hb1 hlen (by omega), lzOk_bad hk2 hbad], G⟩
      first | with_reducible (replace hb10 := nb_nf hb10) | with_reducible (replace hb10 := nb_tf hb10) | with_reducible (replace hb10 := nb_bf hb10) | skip
      refine wp_skip ?_
      refine ib_n ?_
      refine th_n (hK12 _ _ ?_)
      clear hK12 K12
      refine Sb 93 rfl ?_
      refine Smv rfl ?_
      refine S_val (Y_inc rfl rfl (by omega)) ?_
      refine Sas rfl ?_
      refine S_nl rfl rfl ?_
      refine th_n ?_
      go_roundw
      case rel =>
       refine ⟨?_, GL5⟩
       have hbad : lzBad h ms a k = false := by
         unfold lzBad
         rw [hib, hue]
         revert hb5 hb6 hb7 hb8 hb9 hb10
         generalize ms[k] = ym
         generalize h.cells[k].used = yu
         by_cases hka : k < a <;> cases rB h k <;> cases ym <;> cases yu <;> simp [hka]
       exact ⟨k + 1, rfl, by omega, by rw [lzOk_succ, hok, hbad]; rfl⟩
      case measure =>
       exact dec_nat (by omega)
     first | with_reducible (replace hb9 := nb_nf hb9) | with_reducible (replace hb9 := nb_tf hb9) | with_reducible (replace hb9 := nb_bf hb9) | skip
     refine S_off rfl rfl ?_
     refine S_off rfl rfl ?_
     refine S_off rfl rfl ?_
     refine S_off rfl rfl ?_
     refine S_off rfl rfl ?_
     refine S_off rfl rfl ?_
     refine S_off rfl rfl ?_
     refine S_on rfl rfl ?_
     refine S_val (Y_pickF rfl rfl) ?_
     refine S_val (Y_pickF rfl rfl) ?_
     refine S_nl rfl rfl ?_
     refine th_n (hK13 _ _ ?_)
     clear hK13 K13
     refine S_ifF rfl ?_
     refine wp_skip ?_
     refine ib_n ?_
     refine th_n (hK12 _ _ ?_)
     clear hK12 K12
     refine Sb 93 rfl ?_
     refine Smv rfl ?_
     refine S_val (Y_inc rfl rfl (by omega)) ?_
     refine Sas rfl ?_
     refine S_nl rfl rfl ?_
     refine th_n ?_
     go_roundw
     case rel =>
      refine ⟨?_, GL5⟩
      have hbad : lzBad h ms a k = false := by
        unfold lzBad
        rw [hib, hue]
        revert hb5 hb6 hb7 hb8 hb9
        generalize ms[k] = ym
        generalize h.cells[k].used = yu
        by_cases hka : k < a <;> cases rB h k <;> cases ym <;> cases yu <;> simp [hka]
      exact ⟨k + 1, rfl, by omega, by rw [lzOk_succ, hok, hbad]; rfl⟩
     case measure =>
      exact dec_nat (by omega)
    replace hb8 := nb_tf hb8
    refine S_off rfl rfl ?_
    refine S_off rfl rfl ?_
    refine S_off rfl rfl ?_
    refine S_off rfl rfl ?_
    refine S_off rfl rfl ?_
    refine S_off rfl rfl ?_
    refine S_on rfl rfl ?_
    refine S_val (Y_pickF rfl rfl) ?_
    refine S_on rfl rfl ?_
    refine Smv rfl ?_
    refine S_off rfl rfl ?_
    refine S_off rfl rfl ?_
    refine S_off rfl rfl ?_
    refine S_off rfl rfl ?_
    refine S_off rfl rfl ?_
    refine S_off rfl rfl ?_
    refine S_off rfl rfl ?_
    refine S_on rfl rfl ?_
    refine S_val (Y_pickF rfl rfl) ?_
    refine S_val (Y_pickF rfl rfl) ?_
    refine S_nl rfl rfl ?_
    refine th_n (hK13 _ _ ?_)
    clear hK13 K13
    refine S_ifF rfl ?_
    refine wp_skip ?_
    refine ib_n ?_
    refine th_n (hK12 _ _ ?_)
    clear hK12 K12
    refine Sb 93 rfl ?_
    refine Smv rfl ?_
    refine S_val (Y_inc rfl rfl (by omega)) ?_
    refine Sas rfl ?_
    refine S_nl rfl rfl ?_
    refine th_n ?_
    go_roundw
    case rel =>
     refine ⟨?_, GL5⟩
     have hbad : lzBad h ms a k = false := by
       unfold lzBad
       rw [hib, hue]
       revert hb5 hb6 hb7 hb8
       generalize ms[k] = ym
       generalize h.cells[k].used = yu
       by_cases hka : k < a <;> cases rB h k <;> cases ym <;> cases yu <;> simp [hka]
     exact ⟨k + 1, rfl, by omega, by rw [lzOk_succ, hok, hbad]; rfl⟩
    case measure =>
     exact dec_nat (by omega)
   first | with_reducible (replace hb6 := nb_nf hb6) | with_reducible (replace hb6 := nb_tf hb6) | with_reducible (replace hb6 := nb_bf hb6) | skip
   refine S_off rfl rfl ?_
   refine S_off rfl rfl ?_
   refine S_off rfl rfl ?_
   refine S_off rfl rfl ?_
   refine S_off rfl rfl ?_
   refine S_off rfl rfl ?_
   refine S_off rfl rfl ?_
   refine S_off rfl rfl ?_
   refine S_on rfl rfl ?_
   refine S_val (Y_pickF rfl rfl) ?_
   refine S_val (Y_pickF rfl rfl) ?_
   refine Smv rfl ?_
   refine S_on rfl rfl ?_
   refine Smv rfl ?_
   refine S_on rfl rfl ?_
   refine S_val (Y_field U42 rfl fz42_2 (by decide) rfl) ?_
   refine S_on rfl rfl ?_
   refine S_val (Y_load U3 rfl rfl (B1.at (by rfl))) ?_
   refine S_on rfl rfl ?_
   refine S_val (Y_lss rfl rfl) ?_
   refine S_on rfl rfl ?_
   refine Smv rfl ?_
   refine S_g 75 rfl (fun hb7 => ?_) (fun hb7 => ?_)
   ·
    replace hb7 := nb_tt hb7
    refine S_on rfl rfl ?_
    refine S_val (Y_field U42 rfl fz42_1 (by decide) rfl) ?_
    refine S_on rfl rfl ?_
    refine S_val (Y_load U40 rfl rfl (B1.at (by rfl))) ?_
    refine S_on rfl rfl ?_
    refine Smv rfl ?_
    refine S_on rfl rfl ?_
    refine S_val (Y_index U40 sz4 rfl rfl (by first | assumption | omega)) ?_
    refine S_on rfl rfl ?_
    refine S_val (Y_load U4 rfl rfl (by first | assumption | exact cc2.at (by rfl) | exact B1.at (by rfl) | exact B4.at (by rfl))) ?_
    refine S_on rfl rfl ?_
    refine S_val (Y_not rfl) ?_
    refine S_on rfl rfl ?_
    refine S_val (Y_pickT rfl rfl) ?_
    refine S_on rfl rfl ?_
    refine Smv rfl ?_
    refine S_g 83 rfl (fun hb8 => ?_) (fun hb8 => ?_)
    ·
     first | with_reducible (replace hb8 := nb_nt hb8) | with_reducible (replace hb8 := nb_tt hb8) | with_reducible (replace hb8 := nb_bt hb8) | skip
     refine S_on rfl rfl ?_
     refine S_val (Y_field U42 rfl fz42_0 (by decide) rfl) ?_
     refine S_on rfl rfl ?_
     refine S_val (Y_field U26 rfl fz26_0 (by decide) rfl) ?_
     refine S_on rfl rfl ?_
     refine S_val (Y_load U23 rfl rfl (B1.at (by rfl))) ?_
     refine S_on rfl rfl ?_
     refine Smv rfl ?_
     refine S_on rfl rfl ?_
     refine S_val (Y_index U23 sz50 rfl rfl (by first | assumption | omega)) ?_
     refine S_on rfl rfl ?_
     refine S_val (Y_field U50 rfl fz50_0 (by decide) rfl) ?_
     refine S_on rfl rfl ?_
     refine S_val (Y_load U4 rfl rfl (by first | assumption | exact cc2.at (by rfl) | exact B1.at (by rfl) | exact B4.at (by rfl))) ?_
     refine S_on rfl rfl ?_
     refine S_val (Y_pickT rfl rfl) ?_
     refine S_val (Y_pickF rfl rfl) ?_
     refine S_nl rfl rfl ?_
     refine th_n (hK13 _ _ ?_)
     clear hK13 K13
     refine S_if rfl (fun hb9 => ?_) (fun hb9 => ?_)
     ·
      first | with_reducible (replace hb9 := nb_nt hb9) | with_reducible (replace hb9 := nb_tt hb9) | with_reducible (replace hb9 := nb_bt hb9) | skip
      refine wp_seq_k fun K20 hK20 => ?_
      refine Sb 93 rfl ?_
      refine Sas rfl ?_
      refine S_nl rfl rfl ?_
      refine th_n (hK20 _ _ ?_)
      clear hK20 K20
      refine wp_ret ?_
      refine ib_r ?_
      refine th_r ?_
      try clear GL5
      refine th_r ?_
      refine ib_r ?_
      refine th_r ?_
      clear hK12 K12 hK8 K8
      refine ret_r1 rfl rfl ?_
      have hbad : lzBad h ms a k = true := by
        unfold lzBad
        rw [hib, hue]
        revert hb5 hb6 hb7 hb8 hb9
        generalize ms[k] = ym
        generalize h.cells[k].used = yu
        by_cases hka : k < a <;> cases rB h k <;> cases ym <;> cases yu <;> simp [hka]
      exact ⟨by rw [lazB_t hb1 hlen (by omega), lzOk_bad hk2 hbad], G⟩
     first | with_reducible (replace hb9 := nb_nf hb9) | with_reducible (replace hb9 := nb_tf hb9) | with_reducible (replace hb9 := nb_bf hb9) | skip
     refine wp_skip ?_
     refine ib_n ?_
     refine th_n (hK12 _ _ ?_)
     clear hK12 K12
     refine Sb 93 rfl ?_
     refine Smv rfl ?_
     refine S_val (Y_inc rfl rfl (by omega)) ?_
     refine Sas rfl ?_
     refine S_nl rfl rfl ?_
     refine th_n ?_
     go_roundw
     case rel =>
      refine ⟨?_, GL5⟩
      have hbad : lzBad h ms a k = false := by
        unfold lzBad
        rw [hib, hue]
        revert hb5 hb6 hb7 hb8 hb9
        generalize ms[k] = ym
        generalize h.cells[k].used = yu
        by_cases hka : k < a <;> cases rB h k <;> cases ym <;> cases yu <;> simp [hka]
      exact ⟨k + 1, rfl, by omega, by rw [lzOk_succ, hok, hbad]; rfl⟩
     case measure =>
      exact dec_nat (by omega)
    first | with_reducible (replace hb8 := nb_nf hb8) | with_reducible (replace hb8 := nb_tf hb8) | with_reducible (replace hb8 := nb_bf hb8) | skip
    refine S_off rfl rfl ?_
    refine S_off rfl rfl ?_
    refine S_off rfl rfl ?_
    refine S_off rfl rfl ?_
    refine S_off rfl rfl ?_
    refine S_off rfl rfl ?_
    refine S_off rfl rfl ?_
    refine S_on rfl rfl ?_
    refine S_val (Y_pickF rfl rfl) ?_
    refine S_val (Y_pickF rfl rfl) ?_
    refine S_nl rfl rfl ?_
    refine th_n (hK13 _ _ ?_)
    clear hK13 K13
    refine S_ifF rfl ?_
    refine wp_skip ?_
    refine ib_n ?_
    refine th_n (hK12 _ _ ?_)
    clear hK12 K12
    refine Sb 93 rfl ?_
    refine Smv rfl ?_
    refine S_val (Y_inc rfl rfl (by omega)) ?_
    refine Sas rfl ?_
    refine S_nl rfl rfl ?_
    refine th_n ?_
    go_roundw
    case rel =>
     refine ⟨?_, GL5⟩
     have hbad : lzBad h ms a k = false := by
       unfold lzBad
       rw [hib, hue]
       revert hb5 hb6 hb7 hb8
       generalize ms[k] = ym
       generalize h.cells[k].used = yu
       by_cases hka : k < a <;> cases rB h k <;> cases ym <;> cases yu <;> simp [hka]
     exact ⟨k + 1, rfl, by omega, by rw [lzOk_succ, hok, hbad]; rfl⟩
    case measure =>
     exact dec_nat (by omega)
   replace hb7 := nb_tf hb7
   refine S_off rfl rfl ?_
   refine S_off rfl rfl ?_
   refine S_off rfl rfl ?_
   refine S_off rfl rfl ?_
   refine S_off rfl rfl ?_
   refine S_off rfl rfl ?_
   refine S_on rfl rfl ?_
   refine S_val (Y_pickF rfl rfl) ?_
   refine S_on rfl rfl ?_
   refine Smv rfl ?_
   refine S_off rfl rfl ?_
   refine S_off rfl rfl ?_
   refine S_off rfl rfl ?_
   refine S_off rfl rfl ?_
   refine S_off rfl rfl ?_
   refine S_off rfl rfl ?_
   refine S_off rfl rfl ?_
   refine S_on rfl rfl ?_
   refine S_val (Y_pickF rfl rfl) ?_
   refine S_val (Y_pickF rfl rfl) ?_
   refine S_nl rfl rfl ?_
   refine th_n (hK13 _ _ ?_)
   clear hK13 K13
   refine S_ifF rfl ?_
   refine wp_skip ?_
   refine ib_n ?_
   refine th_n (hK12 _ _ ?_)
   clear hK12 K12
   refine Sb 93 rfl ?_
   refine Smv rfl ?_
   refine S_val (Y_inc rfl rfl (by omega)) ?_
   refine Sas rfl ?_
   refine S_nl rfl rfl ?_
   refine th_n ?_
   go_roundw
   case rel =>
    refine ⟨?_, GL5⟩
    have hbad : lzBad h ms a k = false := by
      unfold lzBad
      rw [hib, hue]
      revert hb5 hb6 hb7
      generalize ms[k] = ym
      generalize h.cells[k].used = yu
      by_cases hka : k < a <;> cases rB h k <;> cases ym <;> cases yu <;> simp [hka]
    exact ⟨k + 1, rfl, by omega, by rw [lzOk_succ, hok, hbad]; rfl⟩
   case measure =>
    exact dec_nat (by omega)
  replace hb4 := nb_tf hb4
  refine wp_exit ?_
  refine th_x ?_
  try clear GL5
  refine th_x ?_
  refine ib_e ?_
  refine th_n (hK8 _ _ ?_)
  clear hK10 K10 hK8 K8
  refine wp_seq_k fun K21 hK21 => ?_
  refine Sb 93 rfl ?_
  refine Sas rfl ?_
  refine S_nl rfl rfl ?_
  refine th_n (hK21 _ _ ?_)
  clear hK21 K21
  refine wp_ret ?_
  refine ret_r1 rfl rfl ?_
  have hkN : k = h.cells.length := by omega
  rw [hkN] at hok
  exact ⟨by rw [lazB_t hb1 hlen (by omega), hok], G⟩
end
/-! WalkRn -/
section
open Go Go.RowKit
attribute [local irreducible] wpList wpAnyH Code.wp dOp
set_option maxHeartbeats 400000 in
set_option maxRecDepth 20000 in
theorem spec_l7Copy2_c (Pr : Nat → Prop) (A B : Option Addr) (h : LH) (c d : Nat) (w : World) (hA : RC Pr w A h.cells) (hB : R1 Pr w B (ints h.roots)) (hz : hsize h ≤ 1048576) :
    Calls Try.prog 25 #[.agg #[.slice A h.cells.length c, .slice B h.roots.length d]] w (Ret fun v w' => ∃ A1 B1 n1 c1 n2 c2 rs, v = .agg #[.slice A1 n1 c1, .slice B1 n2 c2] ∧ n1 = (h).cells.length ∧ n2 = (h).roots.length ∧ XH (fun i => w.heap.size ≤ i) w' 50 3 A1 B1 (h) rs c1 c2 ∧ Grow w w') := by
 have hz1 := hsize_cells h
 have hz2 := hsize_roots h
 have hne : (50 : TypeId) ≠ 3 := by decide
 have hAl := hA.below
 have hBl := hB.below
 refine enter Try.func25 rfl Try.ntmps25 (L := [_,_,_,_,_,_,_,_,_,_,_,_,_,_,_,_,_,_,_,_,_,_,_,_,_,_,_,_,_,_,_,_,_,_,_,_,_,_,_,_,_,_,_,_]) rfl ?_
 have G := Mod.refl No w
 have hAl0 := hAl
 have hBl0 := hBl
 refine wp_seq_k fun K1 hK1 => ?_
 refine Sb 44 rfl ?_
 refine S_box (cs := [_, _]) rfl rfl ?_
 intro b1 w1 fb1 g1 B1
 have lb1 := B1.lt
 replace hAl := hAl.grow g1
 replace hBl := hBl.grow g1
 replace G := G.grow g1
 have zg1 := g1.size
 refine S_alloc (cs := [_, _]) zr26 rfl ?_
 intro b2 w2 fb2 g2 B2
 have lb2 := B2.lt
 replace hAl := hAl.grow g2
 replace hBl := hBl.grow g2
 replace G := G.grow g2
 replace B1 := B1.grow g2
 have zg2 := g2.size
 refine S_nl rfl rfl ?_
 refine th_n (hK1 _ _ ?_)
 clear hK1 K1
 refine wp_seq_k fun K2 hK2 => ?_
 refine Sb 44 rfl ?_
 refine S_bs0 U24 sz3 ?_
 intro b3 w3 fb3 g3 B3
 have lb3 := B3.lt
 replace hAl := hAl.grow g3
 replace hBl := hBl.grow g3
 replace G := G.grow g3
 replace B1 := B1.grow g3
 replace B2 := B2.grow g3
 have zg3 := g3.size
 refine S_val (Y_field U26 rfl fz26_1 (by decide) rfl) ?_
 refine S_val (Y_load U24 rfl rfl (B1.at (by rfl))) ?_
 have OY : OW (fun i => b2 < i) w3 3 1 (some ⟨b3, 0, none⟩) 0 0 [] := OW.of_blk B3 rfl (by decide) (by omega)
 refine S_app0 (news := ints h.roots) U24 zr3 sz3 by3 rfl rfl OY (by rw [ints_len]; omega) (by have hsr := Src.r1 hBl; rw [ints_len] at hsr; exact hsr) ints_one (by omega) (Pr' := fun i => b2 < i) (fun i hi => hi) (by omega) ?_
 intro A4 cap4 w4 X4 m4
 replace OY := X4
 clear X4
 replace G := G.abv m4
 replace hAl := hAl0.grow G
 replace hBl := hBl0.grow G
 replace B1 := B1.md m4
 replace B2 := B2.md m4
 have zm4 := m4.size
 have OX := OY.lt
 obtain ⟨AR, rfl⟩ : ∃ x, x = A4 := ⟨_, rfl⟩
 obtain ⟨capR, rfl⟩ : ∃ x, x = cap4 := ⟨_, rfl⟩
 clear OY
 refine S_val (Y_build (cs := [_, _]) zr26 pc26 rfl rfl) ?_
 refine S_alloc (cs := [_, _]) zr26 rfl ?_
 intro b5 w5 fb5 g5 B5
 have lb5 := B5.lt
 replace hAl := hAl.grow g5
 replace hBl := hBl.grow g5
 replace OX := OX.grow g5
 replace G := G.grow g5
 replace B1 := B1.grow g5
 replace B2 := B2.grow g5
 have zg5 := g5.size
 refine S_stM (pre := []) (old := [_, _]) (post := []) (vs := [_, _]) sz26 rfl rfl rfl (by first | rfl | assumption) B5 rfl rfl ?_
 intro w6 m6 X6
 replace B5 := Blk.eq (ys := [_, _]) X6 rfl
 clear X6
 replace G := G.abv m6
 replace hAl := hAl0.grow G
 replace hBl := hBl0.grow G
 replace OX := OX.md m6
 replace B1 := B1.md m6
 replace B2 := B2.md m6
 have zm6 := m6.size
 refine S_nl rfl rfl ?_
 refine th_n (hK2 _ _ ?_)
 clear hK2 K2
 refine wp_seq_k fun K3 hK3 => ?_
 refine wp_seq_k fun K4 hK4 => ?_
 refine Sb 44 rfl ?_
 refine Sas rfl ?_
 refine S_nl rfl rfl ?_
 refine th_n (hK4 _ _ ?_)
 clear hK4 K4
 refine wp_block ?_
 obtain ⟨wz, hwz⟩ : ∃ x, x = w6.heap.size := ⟨_, rfl⟩
 have OC1 : OW (fun i => wz ≤ i) w6 50 3 none 0 0 (flatC ([] : List LC) []) := OW.nil _ _ _ _
 have OR1 : ORs (fun i => wz ≤ i) w6 3 ([] : List LC) [] := ORs.nil _ _ _
 go_loopw [4] (fun u4 wr => (∃ (k q cap : Nat) (A1 : Option Addr) (rs : List (Option Addr × Nat)), u4 = .int .i64 k ∧ k ≤ h.cells.length ∧ q = k ∧ Blk wr b5 26 [.slice A1 q cap, .slice AR h.roots.length capR].toArray ∧ OW (fun i => wz ≤ i) wr 50 3 A1 q cap (flatC (h.cells.take k) rs) ∧ ORs (fun i => wz ≤ i) wr 3 (h.cells.take k) rs) ∧ Mod (fun i => i = b5 ∨ (wz ≤ i) ∨ wz ≤ i) w6 wr) (fun u4 wr => h.cells.length - (intOf u4).toNat)
 case atStart =>
  refine ⟨?_, Mod.refl _ _⟩
  exact ⟨0, 0, _, _, [], rfl, by omega, rfl, B5, OC1, OR1⟩
 case round =>
  obtain ⟨w7, rfl⟩ : ∃ x : World, x = wr := ⟨_, rfl⟩
  obtain ⟨hrel, g7⟩ := hrel
  clear B5
  clear OC1
  clear OR1
  replace G := G.abv g7
  replace hAl := hAl0.grow G
  replace hBl := hBl0.grow G
  replace OX := OX.md g7
  replace B1 := B1.md g7
  replace B2 := B2.md g7
  have zg7 := g7.size
  obtain ⟨k, q1, cap1, A1, rs, rfl, hk, hq1, B5, OC1, OR1⟩ := hrel
  have hlk : (h.cells.take k).length = k := by simp; omega
  have GL7 := g7
  refine wp_seq_k fun K5 hK5 => ?_
  refine wp_seq_k fun K6 hK6 => ?_
  refine Sb 44 rfl ?_
  refine Smv rfl ?_
  refine S_val (Y_field U26 rfl fz26_0 (by decide) rfl) ?_
  refine S_val (Y_load U23 rfl rfl (B1.at (by rfl))) ?_
  refine S_val (Y_len U23 rfl) ?_
  refine S_val (Y_lss rfl rfl) ?_
  refine S_nl rfl rfl ?_
  refine th_n (hK6 _ _ ?_)
  clear hK6 K6
  refine S_if rfl (fun hb1 => ?_) (fun hb1 => ?_)
  ·
   replace hb1 := nb_tt hb1
   have hk1 : k < h.cells.length := by omega
   obtain ⟨g2, o2, E2, d2, rfl, hp2, cc20, hE20⟩ := hAl0.cell hk1
   have cc2 := cc20.grow G
   have hE2 := hE20.grow G
   have hr1 := hsize_refs h hk1
   replace OC1 := OC1.lt
   replace OR1 := OR1.lt
   refine wp_skip ?_
   refine th_n (hK5 _ _ ?_)
   clear hK5 K5
   refine wp_seq_k fun K7 hK7 => ?_
   refine wp_block ?_
   refine D_start 27 44 (fun w => Mod (fun i => i = b5 ∨ wz ≤ i) w) follows rfl rfl ?_
   intro w8 g8
   replace hAl := hAl.grow g8
   replace hBl := hBl.grow g8
   replace cc2 := cc2.grow g8
   replace hE2 := hE2.grow g8
   replace OX := OX.grow g8
   replace OC1 := OC1.grow g8
   replace OR1 := OR1.grow g8
   replace G := G.grow g8
   replace GL7 := GL7.grow g8
   replace B1 := B1.grow g8
   replace B2 := B2.grow g8
   replace B5 := B5.grow g8
   have zg8 := g8.size
   have GS8 := Mod.refl (fun i => i = b5 ∨ wz ≤ i) w8
   refine Dq (i := 0) rfl GS8 (fun _ _ => Y_field U26 rfl fz26_0 (by decide) rfl) ?_
   refine Dq (i := 2) rfl GS8 (fun _ _ => Y_field U26 rfl fz26_0 (by decide) rfl) ?_
   refine Dq (i := 3) rfl GS8 (fun _ hs => Y_load U23 rfl rfl (by first | exact hs.cel (B1.at (by rfl)))) ?_
   refine Dq (i := 4) rfl GS8 (fun _ _ => Y_move rfl) ?_
   refine Dq (i := 5) rfl GS8 (fun _ _ => Y_index U23 sz50 rfl rfl (by first | assumption | omega)) ?_
   refine Dq (i := 6) rfl GS8 (fun _ _ => Y_field U50 rfl fz50_0 (by decide) rfl) ?_
   refine Dq (i := 7) rfl GS8 (fun _ hs => Y_load U4 rfl rfl (by first | exact hs.cel (by assumption) | exact hs.cel (cc2.at (by rfl)) | exact hs.cel (B1.at (by rfl)) | exact hs.cel (B2.at (by rfl)) | exact hs.cel (B5.at (by rfl)))) ?_
   refine Dq (i := 8) rfl GS8 (fun _ _ => Y_field U26 rfl fz26_0 (by decide) rfl) ?_
   refine Dq (i := 9) rfl GS8 (fun _ hs => Y_load U23 rfl rfl (by first | exact hs.cel (B1.at (by rfl)))) ?_
   refine Dq (i := 10) rfl GS8 (fun _ _ => Y_move rfl) ?_
   refine Dq (i := 11) rfl GS8 (fun _ _ => Y_index U23 sz50 rfl rfl (by first | assumption | omega)) ?_
   refine Dq (i := 12) rfl GS8 (fun _ _ => Y_field U50 rfl fz50_1 (by decide) rfl) ?_
   refine Dq (i := 13) rfl GS8 (fun _ hs => Y_load U3 rfl rfl (by first | exact hs.cel (by assumption) | exact hs.cel (cc2.at (by rfl)) | exact hs.cel (B1.at (by rfl)) | exact hs.cel (B2.at (by rfl)) | exact hs.cel (B5.at (by rfl)))) ?_
   refine Dq (i := 15) rfl GS8 (fun _ _ => Y_field U26 rfl fz26_0 (by decide) rfl) ?_
   refine Dq (i := 16) rfl GS8 (fun _ hs => Y_load U23 rfl rfl (by first | exact hs.cel (B1.at (by rfl)))) ?_
   refine Dq (i := 17) rfl GS8 (fun _ _ => Y_move rfl) ?_
   refine Dq (i := 18) rfl GS8 (fun _ _ => Y_index U23 sz50 rfl rfl (by first | assumption | omega)) ?_
   refine Dq (i := 19) rfl GS8 (fun _ _ => Y_field U50 rfl fz50_2 (by decide) rfl) ?_
   refine Dq (i := 20) rfl GS8 (fun _ hs => Y_load U24 rfl rfl (by first | exact hs.cel (by assumption) | exact hs.cel (cc2.at (by rfl)) | exact hs.cel (B1.at (by rfl)) | exact hs.cel (B2.at (by rfl)) | exact hs.cel (B5.at (by rfl)))) ?_
   refine D_2 (i := 1) (j := 14) (by kernel_rfl) ?_ ?_
   ·
    refine E_val (i := 1) rfl (Y_load U23 rfl rfl (B5.at (by rfl))) GS8 ?_
    refine D_1 (i := 14) (by kernel_rfl) ?_
    refine E_bs0 (i := 14) rfl U24 sz3 ?_
    intro b10 w10 fb10 g10 B10
    refine ⟨GS8.grow g10, ?_⟩
    have lb10 := B10.lt
    replace hAl := hAl.grow g10
    replace hBl := hBl.grow g10
    replace cc2 := cc2.grow g10
    replace hE2 := hE2.grow g10
    replace OX := OX.grow g10
    replace OC1 := OC1.grow g10
    replace OR1 := OR1.grow g10
    replace G := G.grow g10
    replace GL7 := GL7.grow g10
    replace GS8 := GS8.grow g10
    replace B1 := B1.grow g10
    replace B2 := B2.grow g10
    replace B5 := B5.grow g10
    have zg10 := g10.size
    refine D_1 (i := 21) (by kernel_rfl) ?_
    have OY : OW (fun i => b10 ≤ i) w10 3 1 (some ⟨b10, 0, none⟩) 0 0 [] := OW.of_blk B10 rfl (by decide) (Nat.le_refl _)
    refine E_app0 (i := 21) rfl (news := ints h.cells[k].refs) U24 zr3 sz3 by3 rfl rfl OY (by rw [ints_len]; omega) (by have hsr := Src.r1 hE2; rw [ints_len] at hsr; exact hsr) ints_one (by omega) (Pr' := fun i => b10 ≤ i) (fun i hi => hi) (by omega) ?_
    intro A11 cap11 w11 X11 m11
    replace OY := X11
    clear X11
    replace G := G.abv m11
    first | replace GL7 := GL7.abv m11 | try clear GL7
    replace GS8 := GS8.abv m11
    replace hAl := hAl0.grow G
    replace hBl := hBl0.grow G
    replace cc2 := cc20.grow G
    replace hE2 := hE20.grow G
    replace OX := OX.md m11
    replace OC1 := OC1.md m11
    replace OR1 := OR1.md m11
    replace B1 := B1.md m11
    replace B2 := B2.md m11
    replace B5 := B5.md m11
    have zm11 := m11.size
    refine ⟨GS8, ?_⟩
    obtain ⟨AY, rfl⟩ : ∃ x, x = A11 := ⟨_, rfl⟩
    obtain ⟨capY, rfl⟩ : ∃ x, x = cap11 := ⟨_, rfl⟩
    refine Dq (i := 22) rfl GS8 (fun _ _ => Y_build (cs := [_, _, _]) zr50 pc50 rfl rfl) ?_
    refine D_1 (i := 23) (by kernel_rfl) ?_
    refine E_bs1 (cs := [_, _, _]) (i := 23) rfl U23 zr50 sz50 rfl rfl rfl ?_
    intro b12 w12 fb12 g12 B12
    refine ⟨GS8.grow g12, ?_⟩
    have lb12 := B12.lt
    replace hAl := hAl.grow g12
    replace hBl := hBl.grow g12
    replace cc2 := cc2.grow g12
    replace hE2 := hE2.grow g12
    replace OX := OX.grow g12
    replace OC1 := OC1.grow g12
    replace OR1 := OR1.grow g12
    replace OY := OY.grow g12
    replace G := G.grow g12
    replace GL7 := GL7.grow g12
    replace GS8 := GS8.grow g12
    replace B1 := B1.grow g12
    replace B2 := B2.grow g12
    replace B5 := B5.grow g12
    have zg12 := g12.size
    refine D_1 (i := 24) (by kernel_rfl) ?_
    refine E_app2 (i := 24) rfl U23 zr50 sz50 by50 rfl rfl OC1 rfl (Src.blk B12) (by simp [Value.oneCell']) (by omega) (Pr' := fun i => (wz ≤ i)) (fun i hi => by omega) (by omega) ?_
    intro A13 cap13 w13 X13 m13 n13
    replace OR1 := OR1.app OC1 hne n13
    replace OC1 := X13
    clear X13 n13
    replace G := G.abv m13
    replace GL7 := GL7.trn m13
    replace GS8 := GS8.trn m13
    replace hAl := hAl0.grow G
    replace hBl := hBl0.grow G
    replace cc2 := cc20.grow G
    replace hE2 := hE20.grow G
    replace OX := OX.md m13
    replace OY := OY.md m13
    replace B1 := B1.md m13
    replace B2 := B2.md m13
    replace B5 := B5.md m13
    have zm13 := m13.size
    refine ⟨GS8, ?_⟩
    have OR2 := OR1.more (c := h.cells[k]) OY (fun i hi => by omega) (Pr' := fun i => wz ≤ i) (fun i hi => by omega) (fun i hi => by omega)
    replace OC1 : OW (fun i => (wz ≤ i)) w13 50 3 A13 (q1 + 1) cap13 (flatC (h.cells.take (k + 1)) (rs ++ [(AY, capY)])) := by rw [List.take_succ_eq_append_getElem hk1, ← flat_more OR1.len]; exact OC1
    rw [← List.take_succ_eq_append_getElem hk1] at OR2
    refine Dq (i := 25) rfl GS8 (fun _ _ => Y_field U26 rfl fz26_0 (by decide) rfl) ?_
    refine D_1 (i := 26) (by kernel_rfl) ?_
    refine E_stM (pre := []) (old := [_]) (post := [_]) (vs := [_]) (i := 26) rfl sz23 rfl rfl rfl (by first | rfl | assumption) B5 rfl rfl ?_
    intro w14 m14 X14
    replace B5 := Blk.eq (ys := [_, _]) X14 rfl
    clear X14
    replace G := G.abv m14
    replace GL7 := GL7.trn m14
    replace GS8 := GS8.trn m14
    replace hAl := hAl0.grow G
    replace hBl := hBl0.grow G
    replace cc2 := cc20.grow G
    replace hE2 := hE20.grow G
    replace OX := OX.md m14
    replace OC1 := OC1.md m14
    replace OR2 := OR2.md m14
    replace B1 := B1.md m14
    replace B2 := B2.md m14
    have zm14 := m14.size
    refine ⟨GS8, ?_⟩
    refine D_en (by kernel_rfl) rfl rfl ?_
    refine ib_n ?_
    refine th_n (hK7 _ _ ?_)
    clear hK7 K7
    refine Sb 44 rfl ?_
    refine Smv rfl ?_
    refine S_val (Y_inc rfl rfl (by omega)) ?_
    refine Sas rfl ?_
    refine S_nl rfl rfl ?_
    refine th_n ?_
    go_roundw
    case rel =>
     refine ⟨?_, GL7⟩
     exact ⟨k + 1, _, _, _, _, rfl, by omega, by omega, B5, OC1, OR2⟩
    case measure =>
     exact dec_nat (by omega)
   refine E_bs0 (i := 14) rfl U24 sz3 ?_
   intro b15 w15 fb15 g15 B15
   refine ⟨GS8.grow g15, ?_⟩
   have lb15 := B15.lt
   replace hAl := hAl.grow g15
   replace hBl := hBl.grow g15
   replace cc2 := cc2.grow g15
   replace hE2 := hE2.grow g15
   replace OX := OX.grow g15
   replace OC1 := OC1.grow g15
   replace OR1 := OR1.grow g15
   replace G := G.grow g15
   replace GL7 := GL7.grow g15
   replace GS8 := GS8.grow g15
   replace B1 := B1.grow g15
   replace B2 := B2.grow g15
   replace B5 := B5.grow g15
   have zg15 := g15.size
   refine D_2 (i := 1) (j := 21) (by kernel_rfl) ?_ ?_
   ·
    refine E_val (i := 1) rfl (Y_load U23 rfl rfl (B5.at (by rfl))) GS8 ?_
    refine D_1 (i := 21) (by kernel_rfl) ?_
    have OY : OW (fun i => b15 ≤ i) w15 3 1 (some ⟨b15, 0, none⟩) 0 0 [] := OW.of_blk B15 rfl (by decide) (Nat.le_refl _)
    refine E_app0 (i := 21) rfl (news := ints h.cells[k].refs) U24 zr3 sz3 by3 rfl rfl OY (by rw [ints_len]; omega) (by have hsr := Src.r1 hE2; rw [ints_len] at hsr; exact hsr) ints_one (by omega) (Pr' := fun i => b15 ≤ i) (fun i hi => hi) (by omega) ?_
    intro A17 cap17 w17 X17 m17
    replace OY := X17
    clear X17
    replace G := G.abv m17
    first | replace GL7 := GL7.abv m17 | try clear GL7
    replace GS8 := GS8.abv m17
    replace hAl := hAl0.grow G
    replace hBl := hBl0.grow G
    replace cc2 := cc20.grow G
    replace hE2 := hE20.grow G
    replace OX := OX.md m17
    replace OC1 := OC1.md m17
    replace OR1 := OR1.md m17
    replace B1 := B1.md m17
    replace B2 := B2.md m17
    replace B5 := B5.md m17
    have zm17 := m17.size
    refine ⟨GS8, ?_⟩
    obtain ⟨AY, rfl⟩ : ∃ x, x = A17 := ⟨_, rfl⟩
    obtain ⟨capY, rfl⟩ : ∃ x, x = cap17 := ⟨_, rfl⟩
    refine Dq (i := 22) rfl GS8 (fun _ _ => Y_build (cs := [_, _, _]) zr50 pc50 rfl rfl) ?_
    refine D_1 (i := 23) (by kernel_rfl) ?_
    refine E_bs1 (cs := [_, _, _]) (i := 23) rfl U23 zr50 sz50 rfl rfl rfl ?_
    intro b18 w18 fb18 g18 B18
    refine ⟨GS8.grow g18, ?_⟩
    have lb18 := B18.lt
    replace hAl := hAl.grow g18
    replace hBl := hBl.grow g18
    replace cc2 := cc2.grow g18
    replace hE2 := hE2.grow g18
    replace OX := OX.grow g18
    replace OC1 := OC1.grow g18
    replace OR1 := OR1.grow g18
    replace OY := OY.grow g18
    replace G := G.grow g18
    replace GL7 := GL7.grow g18
    replace GS8 := GS8.grow g18
    replace B1 := B1.grow g18
    replace B2 := B2.grow g18
    replace B5 := B5.grow g18
    have zg18 := g18.size
    refine D_1 (i := 24) (by kernel_rfl) ?_
    refine E_app2 (i := 24) rfl U23 zr50 sz50 by50 rfl rfl OC1 rfl (Src.blk B18) (by simp [Value.oneCell']) (by omega) (Pr' := fun i => (wz ≤ i)) (fun i hi => by omega) (by omega) ?_
    intro A19 cap19 w19 X19 m19 n19
    replace OR1 := OR1.app OC1 hne n19
    replace OC1 := X19
    clear X19 n19
    replace G := G.abv m19
    replace GL7 := GL7.trn m19
    replace GS8 := GS8.trn m19
    replace hAl := hAl0.grow G
    replace hBl := hBl0.grow G
    replace cc2 := cc20.grow G
    replace hE2 := hE20.grow G
    replace OX := OX.md m19
    replace OY := OY.md m19
    replace B1 := B1.md m19
    replace B2 := B2.md m19
    replace B5 := B5.md m19
    have zm19 := m19.size
    refine ⟨GS8, ?_⟩
    have OR2 := OR1.more (c := h.cells[k]) OY (fun i hi => by omega) (Pr' := fun i => wz ≤ i) (fun i hi => by omega) (fun i hi => by omega)
    replace OC1 : OW (fun i => (wz ≤ i)) w19 50 3 A19 (q1 + 1) cap19 (flatC (h.cells.take (k + 1)) (rs ++ [(AY, capY)])) := by rw [List.take_succ_eq_append_getElem hk1, ← flat_more OR1.len]; exact OC1
    rw [← List.take_succ_eq_append_getElem hk1] at OR2
    refine Dq (i := 25) rfl GS8 (fun _ _ => Y_field U26 rfl fz26_0 (by decide) rfl) ?_
    refine D_1 (i := 26) (by kernel_rfl) ?_
    refine E_stM (pre := []) (old := [_]) (post := [_]) (vs := [_]) (i := 26) rfl sz23 rfl rfl rfl (by first | rfl | assumption) B5 rfl rfl ?_
    intro w20 m20 X20
    replace B5 := Blk.eq (ys := [_, _]) X20 rfl
    clear X20
    replace G := G.abv m20
    replace GL7 := GL7.trn m20
    replace GS8 := GS8.trn m20
    replace hAl := hAl0.grow G
    replace hBl := hBl0.grow G
    replace cc2 := cc20.grow G
    replace hE2 := hE20.grow G
    replace OX := OX.md m20
    replace OC1 := OC1.md m20
    replace OR2 := OR2.md m20
    replace B1 := B1.md m20
    replace B2 := B2.md m20
    have zm20 := m20.size
    refine ⟨GS8, ?_⟩
    refine D_en (by kernel_rfl) rfl rfl ?_
    refine ib_n ?_
    refine th_n (hK7 _ _ ?_)
    clear hK7 K7
    refine Sb 44 rfl ?_
    refine Smv rfl ?_
    refine S_val (Y_inc rfl rfl (by omega)) ?_
    refine Sas rfl ?_
    refine S_nl rfl rfl ?_
    refine th_n ?_
    go_roundw
    case rel =>
     refine ⟨?_, GL7⟩
     exact ⟨k + 1, _, _, _, _, rfl, by omega, by omega, B5, OC1, OR2⟩
    case measure =>
     exact dec_nat (by omega)
   have OY : OW (fun i => b15 ≤ i) w15 3 1 (some ⟨b15, 0, none⟩) 0 0 [] := OW.of_blk B15 rfl (by decide) (Nat.le_refl _)
   refine E_app0 (i := 21) rfl (news := ints h.cells[k].refs) U24 zr3 sz3 by3 rfl rfl OY (by rw [ints_len]; omega) (by have hsr := Src.r1 hE2; rw [ints_len] at hsr; exact hsr) ints_one (by omega) (Pr' := fun i => b15 ≤ i) (fun i hi => hi) (by omega) ?_
   intro A21 cap21 w21 X21 m21
   replace OY := X21
   clear X21
   replace G := G.abv m21
   first | replace GL7 := GL7.abv m21 | try clear GL7
   replace GS8 := GS8.abv m21
   replace hAl := hAl0.grow G
   replace hBl := hBl0.grow G
   replace cc2 := cc20.grow G
   replace hE2 := hE20.grow G
   replace OX := OX.md m21
   replace OC1 := OC1.md m21
   replace OR1 := OR1.md m21
   replace B1 := B1.md m21
   replace B2 := B2.md m21
   replace B5 := B5.md m21
   have zm21 := m21.size
   refine ⟨GS8, ?_⟩
   obtain ⟨AY, rfl⟩ : ∃ x, x = A21 := ⟨_, rfl⟩
   obtain ⟨capY, rfl⟩ : ∃ x, x = cap21 := ⟨_, rfl⟩
   refine Dq (i := 22) rfl GS8 (fun _ _ => Y_build (cs := [_, _, _]) zr50 pc50 rfl rfl) ?_
   refine D_2 (i := 1) (j := 23) (by kernel_rfl) ?_ ?_
   ·
    refine E_val (i := 1) rfl (Y_load U23 rfl rfl (B5.at (by rfl))) GS8 ?_
    refine D_1 (i := 23) (by kernel_rfl) ?_
    refine E_bs1 (cs := [_, _, _]) (i := 23) rfl U23 zr50 sz50 rfl rfl rfl ?_
    intro b23 w23 fb23 g23 B23
    refine ⟨GS8.grow g23, ?_⟩
    have lb23 := B23.lt
    replace hAl := hAl.grow g23
    replace hBl := hBl.grow g23
    replace cc2 := cc2.grow g23
    replace hE2 := hE2.grow g23
    replace OX := OX.grow g23
    replace OC1 := OC1.grow g23
    replace OR1 := OR1.grow g23
    replace OY := OY.grow g23
    replace G := G.grow g23
    replace GL7 := GL7.grow g23
    replace GS8 := GS8.grow g23
    replace B1 := B1.grow g23
    replace B2 := B2.grow g23
    replace B5 := B5.grow g23
    have zg23 := g23.size
    refine D_1 (i := 24) (by kernel_rfl) ?_
    refine E_app2 (i := 24) rfl U23 zr50 sz50 by50 rfl rfl OC1 rfl (Src.blk B23) (by simp [Value.oneCell']) (by omega) (Pr' := fun i => (wz ≤ i)) (fun i hi => by omega) (by omega) ?_
    intro A24 cap24 w24 X24 m24 n24
    replace OR1 := OR1.app OC1 hne n24
    replace OC1 := X24
    clear X24 n24
    replace G := G.abv m24
    replace GL7 := GL7.trn m24
    replace GS8 := GS8.trn m24
    replace hAl := hAl0.grow G
    replace hBl := hBl0.grow G
    replace cc2 := cc20.grow G
    replace hE2 := hE20.grow G
    replace OX := OX.md m24
    replace OY := OY.md m24
    replace B1 := B1.md m24
    replace B2 := B2.md m24
    replace B5 := B5.md m24
    have zm24 := m24.size
    refine ⟨GS8, ?_⟩
    have OR2 := OR1.more (c := h.cells[k]) OY (fun i hi => by omega) (Pr' := fun i => wz ≤ i) (fun i hi => by omega) (fun i hi => by omega)
    replace OC1 : OW (fun i => (wz ≤ i)) w24 50 3 A24 (q1 + 1) cap24 (flatC (h.cells.take (k + 1)) (rs ++ [(AY, capY)])) := by rw [List.take_succ_eq_append_getElem hk1, ← flat_more OR1.len]; exact OC1
    rw [← List.take_succ_eq_append_getElem hk1] at OR2
    refine Dq (i := 25) rfl GS8 (fun _ _ => Y_field U26 rfl fz26_0 (by decide) rfl) ?_
    refine D_1 (i := 26) (by kernel_rfl) ?_
    refine E_stM (pre := []) (old := [_]) (post := [_]) (vs := [_]) (i := 26) rfl sz23 rfl rfl rfl (by first | rfl | assumption) B5 rfl rfl ?_
    intro w25 m25 X25
    replace B5 := Blk.eq (ys := [_, _]) X25 rfl
    clear X25
    replace G := G.abv m25
    replace GL7 := GL7.trn m25
    replace GS8 := GS8.trn m25
    replace hAl := hAl0.grow G
    replace hBl := hBl0.grow G
    replace cc2 := cc20.grow G
    replace hE2 := hE20.grow G
    replace OX := OX.md m25
    replace OC1 := OC1.md m25
    replace OR2 := OR2.md m25
    replace B1 := B1.md m25
    replace B2 := B2.md m25
    have zm25 := m25.size
    refine ⟨GS8, ?_⟩
    refine D_en (by kernel_rfl) rfl rfl ?_
    refine ib_n ?_
    refine th_n (hK7 _ _ ?_)
    clear hK7 K7
    refine Sb 44 rfl ?_
    refine Smv rfl ?_
    refine S_val (Y_inc rfl rfl (by omega)) ?_
    refine Sas rfl ?_
    refine S_nl rfl rfl ?_
    refine th_n ?_
    go_roundw
    case rel =>
     refine ⟨?_, GL7⟩
     exact ⟨k + 1, _, _, _, _, rfl, by omega, by omega, B5, OC1, OR2⟩
    case measure =>
     exact dec_nat (by omega)
   refine E_bs1 (cs := [_, _, _]) (i := 23) rfl U23 zr50 sz50 rfl rfl rfl ?_
   intro b26 w26 fb26 g26 B26
   refine ⟨GS8.grow g26, ?_⟩
   have lb26 := B26.lt
   replace hAl := hAl.grow g26
   replace hBl := hBl.grow g26
   replace cc2 := cc2.grow g26
   replace hE2 := hE2.grow g26
   replace OX := OX.grow g26
   replace OC1 := OC1.grow g26
   replace OR1 := OR1.grow g26
   replace OY := OY.grow g26
   replace G := G.grow g26
   replace GL7 := GL7.grow g26
   replace GS8 := GS8.grow g26
   replace B1 := B1.grow g26
   replace B2 := B2.grow g26
   replace B5 := B5.grow g26
   have zg26 := g26.size
   refine D_1 (i := 1) (by kernel_rfl) ?_
   refine E_val (i := 1) rfl (Y_load U23 rfl rfl (B5.at (by rfl))) GS8 ?_
   refine D_1 (i := 24) (by kernel_rfl) ?_
   refine E_app2 (i := 24) rfl U23 zr50 sz50 by50 rfl rfl OC1 rfl (Src.blk B26) (by simp [Value.oneCell']) (by omega) (Pr' := fun i => (wz ≤ i)) (fun i hi => by omega) (by omega) ?_
   intro A28 cap28 w28 X28 m28 n28
   replace OR1 := OR1.app OC1 hne n28
   replace OC1 := X28
   clear X28 n28
   replace G := G.abv m28
   replace GL7 := GL7.trn m28
   replace GS8 := GS8.trn m28
   replace hAl := hAl0.grow G
   replace hBl := hBl0.grow G
   replace cc2 := cc20.grow G
   replace hE2 := hE20.grow G
   replace OX := OX.md m28
   replace OY := OY.md m28
   replace B1 := B1.md m28
   replace B2 := B2.md m28
   replace B5 := B5.md m28
   have zm28 := m28.size
   refine ⟨GS8, ?_⟩
   have OR2 := OR1.more (c := h.cells[k]) OY (fun i hi => by omega) (Pr' := fun i => wz ≤ i) (fun i hi => by omega) (fun i hi => by omega)
   replace OC1 : OW (fun i => (wz ≤ i)) w28 50 3 A28 (q1 + 1) cap28 (flatC (h.cells.take (k + 1)) (rs ++ [(AY, capY)])) := by rw [List.take_succ_eq_append_getElem hk1, ← flat_more OR1.len]; exact OC1
   rw [← List.take_succ_eq_append_getElem hk1] at OR2
   refine Dq (i := 25) rfl GS8 (fun _ _ => Y_field U26 rfl fz26_0 (by decide) rfl) ?_
   refine D_1 (i := 26) (by kernel_rfl) ?_
   refine E_stM (pre := []) (old := [_]) (post := [_]) (vs := [_]) (i := 26) rfl sz23 rfl rfl rfl (by first | rfl | assumption) B5 rfl rfl ?_
   intro w29 m29 X29
   replace B5 := Blk.eq (ys := [_, _]) X29 rfl
   clear X29
   replace G := G.abv m29
   replace GL7 := GL7.trn m29
   replace GS8 := GS8.trn m29
   replace hAl := hAl0.grow G
   replace hBl := hBl0.grow G
   replace cc2 := cc20.grow G
   replace hE2 := hE20.grow G
   replace OX := OX.md m29
   replace OC1 := OC1.md m29
   replace OR2 := OR2.md m29
   replace B1 := B1.md m29
   replace B2 := B2.md m29
   have zm29 := m29.size
   refine ⟨GS8, ?_⟩
   refine D_en (by kernel_rfl) rfl rfl ?_
   refine ib_n ?_
   refine th_n (hK7 _ _ ?_)
   clear hK7 K7
   refine Sb 44 rfl ?_
   refine Smv rfl ?_
   refine S_val (Y_inc rfl rfl (by omega)) ?_
   refine Sas rfl ?_
   refine S_nl rfl rfl ?_
   refine th_n ?_
   go_roundw
   case rel =>
    refine ⟨?_, GL7⟩
    exact ⟨k + 1, _, _, _, _, rfl, by omega, by omega, B5, OC1, OR2⟩
   case measure =>
    exact dec_nat (by omega)
  replace hb1 := nb_tf hb1
  refine wp_exit ?_
  refine th_x ?_
  try clear GL7
  refine th_x ?_
  refine ib_e ?_
  refine th_n (hK3 _ _ ?_)
  clear hK5 K5 hK3 K3
  refine wp_seq_k fun K8 hK8 => ?_
  refine Sb 44 rfl ?_
  refine S_val (Y_loadS U26 rfl sz26 rfl (B5.row (by rfl))) ?_
  refine S_stM (pre := []) (old := [_, _]) (post := []) (vs := [_, _]) sz26 rfl rfl rfl (by first | rfl | assumption) B2 rfl rfl ?_
  intro w30 m30 X30
  replace B2 := Blk.eq (ys := [_, _]) X30 rfl
  clear X30
  replace G := G.abv m30
  replace hAl := hAl0.grow G
  replace hBl := hBl0.grow G
  replace OX := OX.md m30
  replace OC1 := OC1.md m30
  replace OR1 := OR1.md m30
  replace B1 := B1.md m30
  replace B5 := B5.md m30
  have zm30 := m30.size
  refine S_nl rfl rfl ?_
  refine th_n (hK8 _ _ ?_)
  clear hK8 K8
  refine wp_ret ?_
  refine ret_rc (cs := [_, _]) U26 rfl sz26 rfl rfl (B2.row (by rfl)) ?_
  rw [List.take_of_length_le (by omega)] at hlk OC1 OR1
  rw [hq1, ← hlk] at OC1
  exact ⟨_, _, _, _, _, _, rs, rfl, by omega, rfl, XH.of_parts (h := h) OR1 OC1 OX.oi OX.cap (fun k b h1 h2 h3 => by omega) (fun k hk => by omega) (fun k hk => by omega), G⟩
set_option maxHeartbeats 400000 in
set_option maxRecDepth 20000 in
theorem spec_EmptyHeap2_c (w : World) :
    Calls Try.prog 73 #[] w (Ret fun v w' => ∃ A1 B1 n1 c1 n2 c2 rs, v = .agg #[.slice A1 n1 c1, .slice B1 n2 c2] ∧ n1 = (emptyH).cells.length ∧ n2 = (emptyH).roots.length ∧ XH (fun i => w.heap.size ≤ i) w' 50 3 A1 B1 (emptyH) rs c1 c2 ∧ Grow w w') := by
 refine enter Try.func73 rfl Try.ntmps73 (L := [_,_,_,_,_,_,_,_,_,_,_,_,_,_]) rfl ?_
 have G := Mod.refl No w
 refine wp_seq_k fun K1 hK1 => ?_
 refine Sb 14 rfl ?_
 refine S_alloc (cs := [_, _]) zr26 rfl ?_
 intro b1 w1 fb1 g1 B1
 have lb1 := B1.lt
 replace G := G.grow g1
 have zg1 := g1.size
 refine S_nl rfl rfl ?_
 refine th_n (hK1 _ _ ?_)
 clear hK1 K1
 refine wp_seq_k fun K2 hK2 => ?_
 refine Sb 14 rfl ?_
 refine S_val (Y_build (cs := [_, _]) zr26 pc26 rfl rfl) ?_
 refine S_alloc (cs := [_, _]) zr26 rfl ?_
 intro b2 w2 fb2 g2 B2
 have lb2 := B2.lt
 replace G := G.grow g2
 replace B1 := B1.grow g2
 have zg2 := g2.size
 refine S_stM (pre := []) (old := [_, _]) (post := []) (vs := [_, _]) sz26 rfl rfl rfl (by first | rfl | assumption) B2 rfl rfl ?_
 intro w3 m3 X3
 replace B2 := Blk.eq (ys := [_, _]) X3 rfl
 clear X3
 replace G := G.abv m3
 replace B1 := B1.md m3
 have zm3 := m3.size
 refine S_nl rfl rfl ?_
 refine th_n (hK2 _ _ ?_)
 clear hK2 K2
 refine wp_seq_k fun K3 hK3 => ?_
 refine wp_seq_k fun K4 hK4 => ?_
 refine Sb 14 rfl ?_
 refine Sas rfl ?_
 refine S_nl rfl rfl ?_
 refine th_n (hK4 _ _ ?_)
 clear hK4 K4
 refine wp_block ?_
 have O2 : OW (fun i => b2 < i) w3 3 1 none 0 0 (ints (List.replicate 0 (-1))) := OW.nil _ _ _ _
 go_loopw [2] (fun u2 wr => (∃ (k q cap : Nat) (A : Option Addr), u2 = .int .i64 k ∧ k ≤ 4 ∧ q = k ∧ Blk wr b2 26 [.slice none 0 0, .slice A q cap].toArray ∧ OW (fun i => b2 < i) wr 3 1 A q cap (ints (List.replicate k (-1)))) ∧ Mod (fun i => i = b2 ∨ b2 < i) w3 wr) (fun u2 wr => 4 - (intOf u2).toNat)
 case atStart =>
  refine ⟨?_, Mod.refl _ _⟩
  exact ⟨0, 0, 0, none, rfl, by omega, rfl, B2, O2⟩
 case round =>
  obtain ⟨w4, rfl⟩ : ∃ x : World, x = wr := ⟨_, rfl⟩
  obtain ⟨hrel, g4⟩ := hrel
  clear B2
  clear O2
  replace G := G.abv g4
  replace B1 := B1.md g4
  have zg4 := g4.size
  obtain ⟨k, q2, cap2, A2, rfl, hk, hq2, B2, O2⟩ := hrel
  have GL4 := g4
  refine wp_seq_k fun K5 hK5 => ?_
  refine wp_seq_k fun K6 hK6 => ?_
  refine Sb 14 rfl ?_
  refine Smv rfl ?_
  refine S_val (Y_lss rfl rfl) ?_
  refine S_nl rfl rfl ?_
  refine th_n (hK6 _ _ ?_)
  clear hK6 K6
  refine S_if rfl (fun hb1 => ?_) (fun hb1 => ?_)
  ·
   replace hb1 := nb_tt hb1
   refine wp_skip ?_
   refine th_n (hK5 _ _ ?_)
   clear hK5 K5
   refine wp_seq_k fun K7 hK7 => ?_
   refine wp_block ?_
   refine Sb 14 rfl ?_
   refine S_val (Y_field U26 rfl fz26_1 (by decide) rfl) ?_
   refine S_val (Y_load U24 rfl rfl (B2.at (by rfl))) ?_
   refine S_bs1 (cs := [_]) U24 zr3 sz3 rfl rfl rfl ?_
   intro b5 w5 fb5 g5 B5
   have lb5 := B5.lt
   replace O2 := O2.grow g5
   replace G := G.grow g5
   replace GL4 := GL4.grow g5
   replace B1 := B1.grow g5
   replace B2 := B2.grow g5
   have zg5 := g5.size
   refine S_app U24 zr3 sz3 by3 rfl rfl O2 rfl (Src.blk B5) (by simp [Value.oneCell']) (by omega) (Pr' := fun i => b2 < i) (fun i hi => hi) (by omega) ?_
   intro A6 cap6 w6 X6 m6
   replace O2 := X6
   rw [ints_app, rep_snoc] at O2
   clear X6
   replace G := G.abv m6
   replace GL4 := GL4.trn m6
   replace B1 := B1.md m6
   replace B2 := B2.md m6
   have zm6 := m6.size
   refine S_val (Y_field U26 rfl fz26_1 (by decide) rfl) ?_
   refine S_stM (pre := [_]) (old := [_]) (post := []) (vs := [_]) sz24 rfl rfl rfl (by first | rfl | assumption) B2 rfl rfl ?_
   intro w7 m7 X7
   replace B2 := Blk.eq (ys := [_, _]) X7 rfl
   clear X7
   replace G := G.abv m7
   replace GL4 := GL4.trn m7
   replace O2 := O2.md m7
   replace B1 := B1.md m7
   have zm7 := m7.size
   refine S_nl rfl rfl ?_
   refine ib_n ?_
   refine th_n (hK7 _ _ ?_)
   clear hK7 K7
   refine Sb 14 rfl ?_
   refine Smv rfl ?_
   refine S_val (Y_inc rfl rfl (by omega)) ?_
   refine Sas rfl ?_
   refine S_nl rfl rfl ?_
   refine th_n ?_
   go_roundw
   case rel =>
    refine ⟨?_, GL4⟩
    exact ⟨k + 1, _, _, _, rfl, by omega, by omega, B2, O2⟩
   case measure =>
    exact dec_nat (by omega)
  replace hb1 := nb_tf hb1
  refine wp_exit ?_
  refine th_x ?_
  try clear GL4
  refine th_x ?_
  refine ib_e ?_
  refine th_n (hK3 _ _ ?_)
  clear hK5 K5 hK3 K3
  refine wp_seq_k fun K8 hK8 => ?_
  refine Sb 14 rfl ?_
  refine S_val (Y_loadS U26 rfl sz26 rfl (B2.row (by rfl))) ?_
  refine S_stM (pre := []) (old := [_, _]) (post := []) (vs := [_, _]) sz26 rfl rfl rfl (by first | rfl | assumption) B1 rfl rfl ?_
  intro w8 m8 X8
  replace B1 := Blk.eq (ys := [_, _]) X8 rfl
  clear X8
  replace G := G.abv m8
  replace O2 := O2.md m8
  replace B2 := B2.md m8
  have zm8 := m8.size
  refine S_nl rfl rfl ?_
  refine th_n (hK8 _ _ ?_)
  clear hK8 K8
  refine wp_ret ?_
  refine ret_rc (cs := [_, _]) U26 rfl sz26 rfl rfl (B1.row (by rfl)) ?_
  have : k = 4 := by omega
  subst this
  subst hq2
  exact ⟨_, _, _, _, _, _, [], rfl, rfl, rfl, XH.bare (O2.weak (fun i hi => by omega)), G⟩
set_option maxHeartbeats 800000 in
set_option maxRecDepth 20000 in
theorem spec_l8Do_c (Pr : Nat → Prop) (A B : Option Addr) (h : LH) (c d pl : Nat) (oop oa ob oc : Int) (w : World) (hA : RC Pr w A h.cells) (hB : R1 Pr w B (ints h.roots)) (va : Valid h) (hcv : cvP ⟨oop, oa, ob, oc⟩) (hef : effectB h ⟨oop, oa, ob, oc⟩ = true) (hpl : oop = 1 → pl ≤ h.cells.length ∧ pl < 40) :
    Calls Try.prog 85 #[.agg #[.slice A h.cells.length c, .slice B h.roots.length d], .agg #[.int .i64 oop, .int .i64 oa, .int .i64 ob, .int .i64 oc], .int .i64 (pl : Int)] w (Ret fun v w' => ∃ A1 B1 n1 c1 n2 c2 rs h2, v = .agg #[.slice A1 n1 c1, .slice B1 n2 c2] ∧ n1 = h2.cells.length ∧ n2 = h2.roots.length ∧ Valid h2 ∧ XH (fun i => w.heap.size ≤ i) w' 50 3 A1 B1 h2 rs c1 c2 ∧ Grow w w') := by
 have hne : (50 : TypeId) ≠ 3 := by decide
 have hz1 := hsize_cells h
 have hz2 := hsize_roots h
 have hsm := va.small
 have hr4 := va.roots4
 obtain ⟨pa, rfl⟩ := Int.eq_ofNat_of_zero_le (show 0 ≤ oa by unfold cvP at hcv; dsimp only at hcv; omega)
 obtain ⟨pb, rfl⟩ := Int.eq_ofNat_of_zero_le (show 0 ≤ ob by unfold cvP at hcv; dsimp only at hcv; omega)
 obtain ⟨pc, rfl⟩ := Int.eq_ofNat_of_zero_le (show 0 ≤ oc by unfold cvP at hcv; dsimp only at hcv; omega)
 have hpa : pa < h.roots.length := by unfold cvP at hcv; dsimp only at hcv; omega
 have hAl := hA.below
 have hBl := hB.below
 refine enter Try.func85 rfl Try.ntmps85 (L := [_,_,_,_,_,_,_,_,_,_,_,_,_,_,_,_,_,_,_,_,_,_,_,_,_,_,_,_,_,_,_,_,_,_,_,_,_,_,_,_,_,_,_,_,_,_,_,_,_,_,_,_,_,_,_,_,_,_,_,_,_,_,_,_,_,_,_,_,_,_,_,_,_,_,_,_,_,_,_,_,_,_,_,_,_,_,_,_,_,_,_,_,_,_,_,_,_,_,_,_,_,_,_,_,_,_,_,_,_,_,_,_,_,_,_,_,_,_,_,_,_,_,_,_,_,_,_,_,_,_,_]) rfl ?_
 have G := Mod.refl No w
 have hAl0 := hAl
 have hBl0 := hBl
 refine wp_seq_k fun K1 hK1 => ?_
 refine Sb 131 rfl ?_
 refine S_box (cs := [_, _]) rfl rfl ?_
 intro b1 w1 fb1 g1 B1
 have lb1 := B1.lt
 replace hAl := hAl.grow g1
 replace hBl := hBl.grow g1
 replace G := G.grow g1
 have zg1 := g1.size
 refine S_box (cs := [_, _, _, _]) rfl rfl ?_
 intro b2 w2 fb2 g2 B2
 have lb2 := B2.lt
 replace hAl := hAl.grow g2
 replace hBl := hBl.grow g2
 replace G := G.grow g2
 replace B1 := B1.grow g2
 have zg2 := g2.size
 refine S_alloc (cs := [_, _]) zr26 rfl ?_
 intro b3 w3 fb3 g3 B3
 have lb3 := B3.lt
 replace hAl := hAl.grow g3
 replace hBl := hBl.grow g3
 replace G := G.grow g3
 replace B1 := B1.grow g3
 replace B2 := B2.grow g3
 have zg3 := g3.size
 refine S_nl rfl rfl ?_
 refine th_n (hK1 _ _ ?_)
 clear hK1 K1
 refine wp_seq_k fun K2 hK2 => ?_
 refine Sb 131 rfl ?_
 refine S_val (Y_loadS U26 rfl sz26 rfl (B1.row (by rfl))) ?_
 refine S_call rfl en25 (spec_l7Copy2_c _ _ _ _ _ _ _ (by assumption) (by assumption) (by omega)) ?_
 rintro v4 w4 ⟨A4, B4, n14, c14, n24, c24, rs4, rfl, hn14, hn24, O4, g4⟩
 replace hAl := hAl.grow g4
 replace hBl := hBl.grow g4
 replace G := G.grow g4
 replace B1 := B1.grow g4
 replace B2 := B2.grow g4
 replace B3 := B3.grow g4
 have zg4 := g4.size
 subst hn14
 subst hn24
 obtain ⟨AH, rfl⟩ : ∃ x, x = A4 := ⟨_, rfl⟩
 obtain ⟨BH, rfl⟩ : ∃ x, x = B4 := ⟨_, rfl⟩
 obtain ⟨cH, rfl⟩ : ∃ x, x = c14 := ⟨_, rfl⟩
 obtain ⟨dH, rfl⟩ : ∃ x, x = c24 := ⟨_, rfl⟩
 obtain ⟨rsH, rfl⟩ : ∃ x, x = rs4 := ⟨_, rfl⟩
 have OX := O4.lt
 obtain ⟨bR, postR, rfl, hpR, _⟩ := OX.roots (ints_ne.2 (fun e => by rw [e] at hr4; simp at hr4))
 try dsimp only at hpR
 refine S_alloc (cs := [_, _]) zr26 rfl ?_
 intro b5 w5 fb5 g5 B5
 have lb5 := B5.lt
 replace hAl := hAl.grow g5
 replace hBl := hBl.grow g5
 replace OX := OX.grow g5
 replace G := G.grow g5
 replace B1 := B1.grow g5
 replace B2 := B2.grow g5
 replace B3 := B3.grow g5
 have zg5 := g5.size
 refine S_stM (pre := []) (old := [_, _]) (post := []) (vs := [_, _]) sz26 rfl rfl rfl (by first | rfl | assumption) B5 rfl rfl ?_
 intro w6 m6 X6
 replace B5 := Blk.eq (ys := [_, _]) X6 rfl
 clear X6
 replace G := G.abv m6
 replace hAl := hAl0.grow G
 replace hBl := hBl0.grow G
 replace OX := OX.md m6
 replace B1 := B1.md m6
 replace B2 := B2.md m6
 replace B3 := B3.md m6
 have zm6 := m6.size
 refine S_nl rfl rfl ?_
 refine th_n (hK2 _ _ ?_)
 clear hK2 K2
 refine wp_seq_k fun K3 hK3 => ?_
 refine wp_seq_k fun K4 hK4 => ?_
 refine Sb 131 rfl ?_
 refine S_val (Y_field U104 rfl fz104_0 (by decide) rfl) ?_
 refine S_val (Y_load U3 rfl rfl (B2.at (by rfl))) ?_
 refine S_nl rfl rfl ?_
 refine th_n (hK4 _ _ ?_)
 clear hK4 K4
 refine wp_block ?_
 refine wp_seq_k fun K5 hK5 => ?_
 refine Sb 131 rfl ?_
 refine S_val (Y_eql rfl rfl) ?_
 refine Sas rfl ?_
 refine S_nl rfl rfl ?_
 refine th_n (hK5 _ _ ?_)
 clear hK5 K5
 refine S_if rfl (fun hb1 => ?_) (fun hb1 => ?_)
 ·
  replace hb1 := nb_tt hb1
  have hcu := hcv
  unfold cvP at hcu
  dsimp only at hcu
  have hpl2 := hpl hb1
  have hpb3 : pb ≤ 3 := by omega
  have hpc9 : pc ≤ 99 := by omega
  refine wp_seq_k fun K6 hK6 => ?_
  refine Sb 131 rfl ?_
  refine S_val (Y_field U104 rfl fz104_3 (by decide) rfl) ?_
  refine S_val (Y_load U3 rfl rfl (B2.at (by rfl))) ?_
  refine S_val (Y_build (cs := [_, _, _]) zr50 pc50 rfl rfl) ?_
  refine S_alloc (cs := [_, _, _]) zr50 rfl ?_
  intro b7 w7 fb7 g7 B7
  have lb7 := B7.lt
  replace hAl := hAl.grow g7
  replace hBl := hBl.grow g7
  replace OX := OX.grow g7
  replace G := G.grow g7
  replace B1 := B1.grow g7
  replace B2 := B2.grow g7
  replace B3 := B3.grow g7
  replace B5 := B5.grow g7
  have zg7 := g7.size
  refine S_stM (pre := []) (old := [_, _, _]) (post := []) (vs := [_, _, _]) sz50 rfl rfl rfl (by first | rfl | assumption) B7 rfl rfl ?_
  intro w8 m8 X8
  replace B7 := Blk.eq (ys := [_, _, _]) X8 rfl
  clear X8
  replace G := G.abv m8
  replace hAl := hAl0.grow G
  replace hBl := hBl0.grow G
  replace OX := OX.md m8
  replace B1 := B1.md m8
  replace B2 := B2.md m8
  replace B3 := B3.md m8
  replace B5 := B5.md m8
  have zm8 := m8.size
  refine S_nl rfl rfl ?_
  refine th_n (hK6 _ _ ?_)
  clear hK6 K6
  refine wp_seq_k fun K7 hK7 => ?_
  refine wp_seq_k fun K8 hK8 => ?_
  refine Sb 131 rfl ?_
  refine Sas rfl ?_
  refine S_nl rfl rfl ?_
  refine th_n (hK8 _ _ ?_)
  clear hK8 K8
  refine wp_block ?_
  obtain ⟨wz, hwz⟩ : ∃ x, x = w8.heap.size := ⟨_, rfl⟩
  have O6 : OW (fun i => wz ≤ i) w8 3 1 none 0 0 (ints (List.replicate 0 (-1))) := OW.nil _ _ _ _
  go_loopw [9] (fun u9 wr => (∃ (k q cap : Nat) (A1 : Option Addr), u9 = .int .i64 k ∧ k ≤ pb ∧ q = k ∧ Blk wr b7 50 [.bool true, .int .i64 (pc : Int), .slice A1 q cap].toArray ∧ OW (fun i => wz ≤ i) wr 3 1 A1 q cap (ints (List.replicate k (-1)))) ∧ Mod (fun i => i = b7 ∨ wz ≤ i) w8 wr) (fun u9 wr => pb - (intOf u9).toNat)
  case atStart =>
   refine ⟨?_, Mod.refl _ _⟩
   exact ⟨0, 0, 0, none, rfl, by omega, rfl, B7, O6⟩
  case round =>
   obtain ⟨w9, rfl⟩ : ∃ x : World, x = wr := ⟨_, rfl⟩
   obtain ⟨hrel, g9⟩ := hrel
   clear B7
   clear O6
   replace G := G.abv g9
   replace hAl := hAl0.grow G
   replace hBl := hBl0.grow G
   replace OX := OX.md g9
   replace B1 := B1.md g9
   replace B2 := B2.md g9
   replace B3 := B3.md g9
   replace B5 := B5.md g9
   have zg9 := g9.size
   obtain ⟨k, q1, cap1, A1, rfl, hk, hq1, B7, O6⟩ := hrel
   have GL9 := g9
   refine wp_seq_k fun K9 hK9 => ?_
   refine wp_seq_k fun K10 hK10 => ?_
   refine Sb 131 rfl ?_
   refine Smv rfl ?_
   refine S_val (Y_field U104 rfl fz104_2 (by decide) rfl) ?_
   refine S_val (Y_load U3 rfl rfl (B2.at (by rfl))) ?_
   refine S_val (Y_lss rfl rfl) ?_
   refine S_nl rfl rfl ?_
   refine th_n (hK10 _ _ ?_)
   clear hK10 K10
   refine S_if rfl (fun hb2 => ?_) (fun hb2 => ?_)
   ·
    replace hb2 := nb_tt hb2
    refine wp_skip ?_
    refine th_n (hK9 _ _ ?_)
    clear hK9 K9
    refine wp_seq_k fun K11 hK11 => ?_
    refine wp_block ?_
    refine Sb 131 rfl ?_
    refine S_val (Y_field U50 rfl fz50_2 (by decide) rfl) ?_
    refine S_val (Y_load U24 rfl rfl (B7.at (by rfl))) ?_
    refine S_bs1 (cs := [_]) U24 zr3 sz3 rfl rfl rfl ?_
    intro b10 w10 fb10 g10 B10
    have lb10 := B10.lt
    replace hAl := hAl.grow g10
    replace hBl := hBl.grow g10
    replace OX := OX.grow g10
    replace O6 := O6.grow g10
    replace G := G.grow g10
    replace GL9 := GL9.grow g10
    replace B1 := B1.grow g10
    replace B2 := B2.grow g10
    replace B3 := B3.grow g10
    replace B5 := B5.grow g10
    replace B7 := B7.grow g10
    have zg10 := g10.size
    refine S_app U24 zr3 sz3 by3 rfl rfl O6 rfl (Src.blk B10) (by simp [Value.oneCell']) (by omega) (Pr' := fun i => wz ≤ i) (fun i hi => hi) (by omega) ?_
    intro A11 cap11 w11 X11 m11
    replace O6 := X11
    rw [ints_app, rep_snoc] at O6
    clear X11
    replace G := G.abv m11
    replace GL9 := GL9.trn m11
    replace hAl := hAl0.grow G
    replace hBl := hBl0.grow G
    replace OX := OX.md m11
    replace B1 := B1.md m11
    replace B2 := B2.md m11
    replace B3 := B3.md m11
    replace B5 := B5.md m11
    replace B7 := B7.md m11
    have zm11 := m11.size
    refine S_val (Y_field U50 rfl fz50_2 (by decide) rfl) ?_
    refine S_stM (pre := [_, _]) (old := [_]) (post := []) (vs := [_]) sz24 rfl rfl rfl (by first | rfl | assumption) B7 rfl rfl ?_
    intro w12 m12 X12
    replace B7 := Blk.eq (ys := [_, _, _]) X12 rfl
    clear X12
    replace G := G.abv m12
    replace GL9 := GL9.trn m12
    replace hAl := hAl0.grow G
    replace hBl := hBl0.grow G
    replace OX := OX.md m12
    replace O6 := O6.md m12
    replace B1 := B1.md m12
    replace B2 := B2.md m12
    replace B3 := B3.md m12
    replace B5 := B5.md m12
    have zm12 := m12.size
    refine S_nl rfl rfl ?_
    refine ib_n ?_
    refine th_n (hK11 _ _ ?_)
    clear hK11 K11
    refine Sb 131 rfl ?_
    refine Smv rfl ?_
    refine S_val (Y_inc rfl rfl (by omega)) ?_
    refine Sas rfl ?_
    refine S_nl rfl rfl ?_
    refine th_n ?_
    go_roundw
    case rel =>
     refine ⟨?_, GL9⟩
     exact ⟨k + 1, _, _, _, rfl, by omega, by omega, B7, O6⟩
    case measure =>
     exact dec_nat (by omega)
   replace hb2 := nb_tf hb2
   have hkb : k = pb := by omega
   subst hkb
   obtain rfl : q1 = (List.replicate k (-1 : Int)).length := by rw [List.length_replicate]; exact hq1
   replace O6 := O6.lt
   refine wp_exit ?_
   refine th_x ?_
   try clear GL9
   refine th_x ?_
   refine ib_e ?_
   refine th_n (hK7 _ _ ?_)
   clear hK9 K9 hK7 K7
   refine wp_seq_k fun K12 hK12 => ?_
   refine wp_seq_k fun K13 hK13 => ?_
   refine Sb 131 rfl ?_
   refine Smv rfl ?_
   refine S_val (Y_field U26 rfl fz26_0 (by decide) rfl) ?_
   refine S_val (Y_load U23 rfl rfl (B5.at (by rfl))) ?_
   refine S_val (Y_len U23 rfl) ?_
   refine S_val (Y_eql rfl rfl) ?_
   refine S_nl rfl rfl ?_
   refine th_n (hK13 _ _ ?_)
   clear hK13 K13
   refine S_if rfl (fun hb3 => ?_) (fun hb3 => ?_)
   ·
    replace hb3 := nb_tt hb3
    have hpe : pl = h.cells.length := by omega
    subst hpe
    refine Sb 131 rfl ?_
    refine S_val (Y_field U26 rfl fz26_0 (by decide) rfl) ?_
    refine S_val (Y_load U23 rfl rfl (B5.at (by rfl))) ?_
    refine S_val (Y_loadS U50 rfl sz50 rfl (B7.row (by rfl))) ?_
    refine S_bs1 (cs := [_, _, _]) U23 zr50 sz50 rfl rfl rfl ?_
    intro b13 w13 fb13 g13 B13
    have lb13 := B13.lt
    replace hAl := hAl.grow g13
    replace hBl := hBl.grow g13
    replace OX := OX.grow g13
    replace O6 := O6.grow g13
    replace G := G.grow g13
    replace B1 := B1.grow g13
    replace B2 := B2.grow g13
    replace B3 := B3.grow g13
    replace B5 := B5.grow g13
    replace B7 := B7.grow g13
    have zg13 := g13.size
    refine S_app2 U23 zr50 sz50 by50 rfl rfl OX.row rfl (Src.blk B13) (by simp [Value.oneCell']) (by omega) (Pr' := fun i => b3 < i ∧ i ≠ b5) (fun i hi => by first | omega | (dsimp only at hi; omega)) (by omega) ?_
    intro A14 cap14 w14 X14 m14 n14
    have OY := OX.add hne (z := ⟨true, (pc : Int), List.replicate k (-1)⟩) O6.oi (fun i hi => by first | omega | (dsimp only at hi ⊢; omega)) n14 X14 (fun i hi => by first | omega | (dsimp only at hi ⊢; omega)) (fun i hi => by first | omega | (dsimp only at hi ⊢; omega))
    replace G := G.abv m14
    replace hAl := hAl0.grow G
    replace hBl := hBl0.grow G
    replace O6 := O6.md m14
    replace B1 := B1.md m14
    replace B2 := B2.md m14
    replace B3 := B3.md m14
    replace B5 := B5.md m14
    replace B7 := B7.md m14
    have zm14 := m14.size
    refine S_val (Y_field U26 rfl fz26_0 (by decide) rfl) ?_
    refine S_stM (pre := []) (old := [_]) (post := [_]) (vs := [_]) sz23 rfl rfl rfl (by first | rfl | assumption) B5 rfl rfl ?_
    intro w15 m15 X15
    replace B5 := Blk.eq (ys := [_, _]) X15 rfl
    clear X15
    replace G := G.abv m15
    replace hAl := hAl0.grow G
    replace hBl := hBl0.grow G
    replace O6 := O6.md m15
    replace OY := OY.md m15
    replace B1 := B1.md m15
    replace B2 := B2.md m15
    replace B3 := B3.md m15
    replace B7 := B7.md m15
    have zm15 := m15.size
    refine S_nl rfl rfl ?_
    refine th_n (hK12 _ _ ?_)
    clear hK12 K12
    refine Sb 131 rfl ?_
    refine S_val (Y_field U26 rfl fz26_1 (by decide) rfl) ?_
    refine S_val (Y_load U24 rfl rfl (B5.at (by rfl))) ?_
    refine S_val (Y_field U104 rfl fz104_1 (by decide) rfl) ?_
    refine S_val (Y_load U3 rfl rfl (B2.at (by rfl))) ?_
    refine Smv rfl ?_
    refine S_val (Y_index U24 sz3 rfl rfl (by first | assumption | omega)) ?_
    refine S_of (Ys_root sz3 OY hne (k := pa) (by show pa < h.roots.length; omega) rfl rfl) ?_
    rintro w16 ⟨m16, hp16, OXF⟩
    replace G := G.abv m16
    replace hAl := hAl0.grow G
    replace hBl := hBl0.grow G
    replace O6 := O6.md m16
    replace B1 := B1.md m16
    replace B2 := B2.md m16
    replace B3 := B3.md m16
    replace B5 := B5.md m16
    replace B7 := B7.md m16
    have zm16 := m16.size
    first | (have hvF := valid_newAt (k := pa) (n := k) (d := (pc : Int)) va hpe ⟨by omega, by omega⟩ (by omega)) | (have hvF := valid_new (k := pa) (n := k) (d := (pc : Int)) va hpl2.2 ⟨by omega, by omega⟩ (by omega))
    refine S_nl rfl rfl ?_
    refine ib_n ?_
    refine th_n (hK3 _ _ ?_)
    clear hK3 K3
    refine wp_seq_k fun K14 hK14 => ?_
    refine Sb 131 rfl ?_
    refine S_val (Y_loadS U26 rfl sz26 rfl (B5.row (by rfl))) ?_
    refine S_stM (pre := []) (old := [_, _]) (post := []) (vs := [_, _]) sz26 rfl rfl rfl (by first | rfl | assumption) B3 rfl rfl ?_
    intro w17 m17 X17
    replace B3 := Blk.eq (ys := [_, _]) X17 rfl
    clear X17
    replace G := G.abv m17
    replace hAl := hAl0.grow G
    replace hBl := hBl0.grow G
    replace O6 := O6.md m17
    replace OXF := OXF.md m17
    replace B1 := B1.md m17
    replace B2 := B2.md m17
    replace B5 := B5.md m17
    replace B7 := B7.md m17
    have zm17 := m17.size
    refine S_nl rfl rfl ?_
    refine th_n (hK14 _ _ ?_)
    clear hK14 K14
    refine wp_ret ?_
    refine ret_rc (cs := [_, _]) U26 rfl sz26 rfl rfl (B3.row (by rfl)) ?_
    exact ⟨_, _, _, _, _, _, _, _, rfl, by simp, by simp, hvF, OXF.weak (fun i hi => by first | omega | (dsimp only at hi; omega)), G⟩
   replace hb3 := nb_tf hb3
   have hpe : pl < h.cells.length := by omega
   obtain ⟨gC, RC0, capC, rfl, hpC, _, _, _, _⟩ := OX.cellAt hne hpe
   try dsimp only at hpC
   refine Sb 131 rfl ?_
   refine S_val (Y_field U26 rfl fz26_0 (by decide) rfl) ?_
   refine S_val (Y_load U23 rfl rfl (B5.at (by rfl))) ?_
   refine Smv rfl ?_
   refine S_val (Y_loadS U50 rfl sz50 rfl (B7.row (by rfl))) ?_
   refine S_val (Y_index U23 sz50 rfl rfl (by first | assumption | omega)) ?_
   refine S_of (Ys_cell (z := ⟨true, (pc : Int), List.replicate k (-1)⟩) sz50 OX hne hpe O6.oi (fun i hi => by first | omega | (dsimp only at hi ⊢; omega)) rfl rfl) ?_
   rintro w18 ⟨m18, hp18, OY⟩
   replace OY := OY.weak (Pr' := fun i => b3 < i ∧ i ≠ b5) (fun i hi => by rcases hi with hi | hi <;> first | omega | (dsimp only at hi ⊢; omega))
   replace G := G.abv m18
   replace hAl := hAl0.grow G
   replace hBl := hBl0.grow G
   replace O6 := O6.md m18
   replace B1 := B1.md m18
   replace B2 := B2.md m18
   replace B3 := B3.md m18
   replace B5 := B5.md m18
   replace B7 := B7.md m18
   have zm18 := m18.size
   refine S_nl rfl rfl ?_
   refine th_n (hK12 _ _ ?_)
   clear hK12 K12
   refine Sb 131 rfl ?_
   refine S_val (Y_field U26 rfl fz26_1 (by decide) rfl) ?_
   refine S_val (Y_load U24 rfl rfl (B5.at (by rfl))) ?_
   refine S_val (Y_field U104 rfl fz104_1 (by decide) rfl) ?_
   refine S_val (Y_load U3 rfl rfl (B2.at (by rfl))) ?_
   refine Smv rfl ?_
   refine S_val (Y_index U24 sz3 rfl rfl (by first | assumption | omega)) ?_
   refine S_of (Ys_root sz3 OY hne (k := pa) (by show pa < h.roots.length; omega) rfl rfl) ?_
   rintro w19 ⟨m19, hp19, OXF⟩
   replace G := G.abv m19
   replace hAl := hAl0.grow G
   replace hBl := hBl0.grow G
   replace O6 := O6.md m19
   replace B1 := B1.md m19
   replace B2 := B2.md m19
   replace B3 := B3.md m19
   replace B5 := B5.md m19
   replace B7 := B7.md m19
   have zm19 := m19.size
   first | (have hvF := valid_newAt (k := pa) (n := k) (d := (pc : Int)) va hpe ⟨by omega, by omega⟩ (by omega)) | (have hvF := valid_new (k := pa) (n := k) (d := (pc : Int)) va hpl2.2 ⟨by omega, by omega⟩ (by omega))
   refine S_nl rfl rfl ?_
   refine ib_n ?_
   refine th_n (hK3 _ _ ?_)
   clear hK3 K3
   refine wp_seq_k fun K15 hK15 => ?_
   refine Sb 131 rfl ?_
   refine S_val (Y_loadS U26 rfl sz26 rfl (B5.row (by rfl))) ?_
   refine S_stM (pre := []) (old := [_, _]) (post := []) (vs := [_, _]) sz26 rfl rfl rfl (by first | rfl | assumption) B3 rfl rfl ?_
   intro w20 m20 X20
   replace B3 := Blk.eq (ys := [_, _]) X20 rfl
   clear X20
   replace G := G.abv m20
   replace hAl := hAl0.grow G
   replace hBl := hBl0.grow G
   replace O6 := O6.md m20
   replace OXF := OXF.md m20
   replace B1 := B1.md m20
   replace B2 := B2.md m20
   replace B5 := B5.md m20
   replace B7 := B7.md m20
   have zm20 := m20.size
   refine S_nl rfl rfl ?_
   refine th_n (hK15 _ _ ?_)
   clear hK15 K15
   refine wp_ret ?_
   refine ret_rc (cs := [_, _]) U26 rfl sz26 rfl rfl (B3.row (by rfl)) ?_
   exact ⟨_, _, _, _, _, _, _, _, rfl, by simp, by simp, hvF, OXF.weak (fun i hi => by first | omega | (dsimp only at hi; omega)), G⟩
 replace hb1 := nb_tf hb1
 refine wp_seq_k fun K16 hK16 => ?_
 refine Sb 131 rfl ?_
 refine S_val (Y_eql rfl rfl) ?_
 refine Sas rfl ?_
 refine S_nl rfl rfl ?_
 refine th_n (hK16 _ _ ?_)
 clear hK16 K16
 refine S_if rfl (fun hb2 => ?_) (fun hb2 => ?_)
 ·
  replace hb2 := nb_tt hb2
  have hcu := hcv
  unfold cvP at hcu
  dsimp only at hcu
  have hpb4 : pb < h.roots.length := by omega
  have hpe : placeB h ((pb : Nat) : Int) (pc : Int) = true := by rw [hb2] at hef; simpa [effectB] using hef
  rw [placeB_at hpb4, Bool.and_eq_true, decide_eq_true_eq, decide_eq_true_eq] at hpe
  obtain ⟨m, hm, hmN⟩ := valid_root va hpb4 hpe.1
  have hj : pc < h.cells[m].refs.length := by have h9 := hpe.2; rw [hm, Int.toNat_natCast, refsOf_at hmN] at h9; omega
  have hmu := root_used va hpb4 hm hmN
  have hvF := valid_setRoot va (k := pa) (va.refs hmN _ (List.getElem_mem hj))
  refine D_start 21 131 (fun w => Mod (fun i => i = bR) w) follows rfl rfl ?_
  intro w21 g21
  replace hAl := hAl.grow g21
  replace hBl := hBl.grow g21
  replace OX := OX.grow g21
  replace G := G.grow g21
  replace B1 := B1.grow g21
  replace B2 := B2.grow g21
  replace B3 := B3.grow g21
  replace B5 := B5.grow g21
  have zg21 := g21.size
  have GS21 := Mod.refl (fun i => i = bR) w21
  obtain ⟨gB, oB, eB, hpB, hcB⟩ := hBl.int (k := pb) (by omega)
  cases eB
  rw [hm] at hcB
  obtain ⟨g2, o2, E2, d2, eA, hp2, cc2, hE2⟩ := hAl.cell hmN
  cases eA
  obtain ⟨g5, o5, e5, hp5, hc5⟩ := hE2.int hj
  cases e5
  refine Dq (i := 0) rfl GS21 (fun _ _ => Y_field U26 rfl fz26_1 (by decide) rfl) ?_
  refine Dq (i := 1) rfl GS21 (fun _ hs => Y_load U24 rfl rfl (by first | exact hs.cel (B5.at (by rfl)))) ?_
  refine Dq (i := 2) rfl GS21 (fun _ _ => Y_field U104 rfl fz104_1 (by decide) rfl) ?_
  refine Dq (i := 3) rfl GS21 (fun _ hs => Y_load U3 rfl rfl (by first | exact hs.cel (B2.at (by rfl)))) ?_
  refine Dq (i := 4) rfl GS21 (fun _ _ => Y_field U26 rfl fz26_0 (by decide) rfl) ?_
  refine Dq (i := 5) rfl GS21 (fun _ hs => Y_load U23 rfl rfl (by first | exact hs.cel (B1.at (by rfl)))) ?_
  refine Dq (i := 6) rfl GS21 (fun _ _ => Y_field U26 rfl fz26_1 (by decide) rfl) ?_
  refine Dq (i := 7) rfl GS21 (fun _ hs => Y_load U24 rfl rfl (by first | exact hs.cel (B1.at (by rfl)))) ?_
  refine Dq (i := 8) rfl GS21 (fun _ _ => Y_field U104 rfl fz104_2 (by decide) rfl) ?_
  refine Dq (i := 9) rfl GS21 (fun _ hs => Y_load U3 rfl rfl (by first | exact hs.cel (B2.at (by rfl)))) ?_
  refine Dq (i := 10) rfl GS21 (fun _ _ => Y_index U24 sz3 rfl rfl (by first | assumption | omega)) ?_
  refine Dq (i := 11) rfl GS21 (fun _ hs => Y_load U3 rfl rfl (by first | exact hs.cel (by assumption) | exact hs.cel (cc2.at (by rfl)) | exact hs.cel (B1.at (by rfl)) | exact hs.cel (B2.at (by rfl)) | exact hs.cel (B3.at (by rfl)) | exact hs.cel (B5.at (by rfl)))) ?_
  refine Dq (i := 12) rfl GS21 (fun _ _ => Y_index U23 sz50 rfl rfl (by first | assumption | omega)) ?_
  refine Dq (i := 13) rfl GS21 (fun _ _ => Y_field U50 rfl fz50_2 (by decide) rfl) ?_
  refine Dq (i := 14) rfl GS21 (fun _ hs => Y_load U24 rfl rfl (by first | exact hs.cel (by assumption) | exact hs.cel (cc2.at (by rfl)) | exact hs.cel (B1.at (by rfl)) | exact hs.cel (B2.at (by rfl)) | exact hs.cel (B3.at (by rfl)) | exact hs.cel (B5.at (by rfl)))) ?_
  refine Dq (i := 15) rfl GS21 (fun _ _ => Y_field U104 rfl fz104_3 (by decide) rfl) ?_
  refine Dq (i := 16) rfl GS21 (fun _ hs => Y_load U3 rfl rfl (by first | exact hs.cel (B2.at (by rfl)))) ?_
  refine Dq (i := 17) rfl GS21 (fun _ _ => Y_index U24 sz3 rfl rfl (by first | assumption | omega)) ?_
  refine Dq (i := 18) rfl GS21 (fun _ hs => Y_load U3 rfl rfl (by first | exact hs.cel (by assumption) | exact hs.cel (cc2.at (by rfl)) | exact hs.cel (B1.at (by rfl)) | exact hs.cel (B2.at (by rfl)) | exact hs.cel (B3.at (by rfl)) | exact hs.cel (B5.at (by rfl)))) ?_
  refine Dq (i := 19) rfl GS21 (fun _ _ => Y_index U24 sz3 rfl rfl (by first | assumption | omega)) ?_
  refine D_1 (i := 20) (by kernel_rfl) ?_
  refine E_of (i := 20) rfl (Ys_root sz3 OX hne (k := pa) (by omega) rfl rfl) ?_
  rintro w22 ⟨m22, hp22, OXF⟩
  try dsimp only at hp22
  replace G := G.abv m22
  replace GS21 := GS21.trn m22
  replace hAl := hAl0.grow G
  replace hBl := hBl0.grow G
  replace B1 := B1.md m22
  replace B2 := B2.md m22
  replace B3 := B3.md m22
  replace B5 := B5.md m22
  clear cc2
  have zm22 := m22.size
  refine ⟨GS21, ?_⟩
  refine D_en (by kernel_rfl) rfl rfl ?_
  refine ib_n ?_
  refine th_n (hK3 _ _ ?_)
  clear hK3 K3
  refine wp_seq_k fun K17 hK17 => ?_
  refine Sb 131 rfl ?_
  refine S_val (Y_loadS U26 rfl sz26 rfl (B5.row (by rfl))) ?_
  refine S_stM (pre := []) (old := [_, _]) (post := []) (vs := [_, _]) sz26 rfl rfl rfl (by first | rfl | assumption) B3 rfl rfl ?_
  intro w23 m23 X23
  replace B3 := Blk.eq (ys := [_, _]) X23 rfl
  clear X23
  replace G := G.abv m23
  replace hAl := hAl0.grow G
  replace hBl := hBl0.grow G
  replace OXF := OXF.md m23
  replace B1 := B1.md m23
  replace B2 := B2.md m23
  replace B5 := B5.md m23
  have zm23 := m23.size
  refine S_nl rfl rfl ?_
  refine th_n (hK17 _ _ ?_)
  clear hK17 K17
  refine wp_ret ?_
  refine ret_rc (cs := [_, _]) U26 rfl sz26 rfl rfl (B3.row (by rfl)) ?_
  exact ⟨_, _, _, _, _, _, _, _, rfl, by simp, by simp, hvF, OXF.weak (fun i hi => by first | omega | (dsimp only at hi; omega)), G⟩
 replace hb2 := nb_tf hb2
 refine wp_seq_k fun K18 hK18 => ?_
 refine Sb 131 rfl ?_
 refine S_val (Y_eql rfl rfl) ?_
 refine Sas rfl ?_
 refine S_nl rfl rfl ?_
 refine th_n (hK18 _ _ ?_)
 clear hK18 K18
 refine S_if rfl (fun hb3 => ?_) (fun hb3 => ?_)
 ·
  replace hb3 := nb_tt hb3
  have hcu := hcv
  unfold cvP at hcu
  dsimp only at hcu
  have hpb4 : pb < h.roots.length := by omega
  have hpe : placeB h ((pa : Nat) : Int) (pc : Int) = true := by rw [hb3] at hef; simpa [effectB] using hef
  rw [placeB_at hpa, Bool.and_eq_true, decide_eq_true_eq, decide_eq_true_eq] at hpe
  obtain ⟨m, hm, hmN⟩ := valid_root va hpa hpe.1
  have hj : pc < h.cells[m].refs.length := by have h9 := hpe.2; rw [hm, Int.toNat_natCast, refsOf_at hmN] at h9; omega
  have hmu := root_used va hpa hm hmN
  have hvF := valid_setRef va hmN hmu (j := pc) (va.roots _ (List.getElem_mem hpb4))
  obtain ⟨gC, RX, capX, rfl, hpC, hrs, ccx, hRX, hRb⟩ := OX.cellAt hne hmN
  try dsimp only at hpC
  obtain ⟨bX, rfl, hpX, hXC⟩ := hRb (by omega)
  try dsimp only at hpX
  refine D_start 21 131 (fun w => Mod (fun i => i = bX) w) follows rfl rfl ?_
  intro w24 g24
  replace hAl := hAl.grow g24
  replace hBl := hBl.grow g24
  replace OX := OX.grow g24
  replace G := G.grow g24
  replace B1 := B1.grow g24
  replace B2 := B2.grow g24
  replace B3 := B3.grow g24
  replace B5 := B5.grow g24
  replace ccx := ccx.grow g24
  have zg24 := g24.size
  have GS24 := Mod.refl (fun i => i = bX) w24
  obtain ⟨gB, oB, eB, hpB, hcB⟩ := hBl.int hpa
  cases eB
  rw [hm] at hcB
  obtain ⟨gD, oD, eD, hpD, hcD⟩ := hBl.int hpb4
  cases eD
  refine Dq (i := 0) rfl GS24 (fun _ _ => Y_field U26 rfl fz26_0 (by decide) rfl) ?_
  refine Dq (i := 1) rfl GS24 (fun _ hs => Y_load U23 rfl rfl (by first | exact hs.cel (B5.at (by rfl)))) ?_
  refine Dq (i := 2) rfl GS24 (fun _ _ => Y_field U26 rfl fz26_1 (by decide) rfl) ?_
  refine Dq (i := 3) rfl GS24 (fun _ hs => Y_load U24 rfl rfl (by first | exact hs.cel (B1.at (by rfl)))) ?_
  refine Dq (i := 4) rfl GS24 (fun _ _ => Y_field U104 rfl fz104_1 (by decide) rfl) ?_
  refine Dq (i := 5) rfl GS24 (fun _ hs => Y_load U3 rfl rfl (by first | exact hs.cel (B2.at (by rfl)))) ?_
  refine Dq (i := 6) rfl GS24 (fun _ _ => Y_index U24 sz3 rfl rfl (by first | assumption | omega)) ?_
  refine Dq (i := 7) rfl GS24 (fun _ hs => Y_load U3 rfl rfl (by first | exact hs.cel (by assumption) | exact hs.cel (ccx.at (by rfl)) | exact hs.cel (B1.at (by rfl)) | exact hs.cel (B2.at (by rfl)) | exact hs.cel (B3.at (by rfl)) | exact hs.cel (B5.at (by rfl)))) ?_
  refine Dq (i := 8) rfl GS24 (fun _ _ => Y_index U23 sz50 rfl rfl (by first | assumption | omega)) ?_
  refine Dq (i := 9) rfl GS24 (fun _ _ => Y_field U50 rfl fz50_2 (by decide) rfl) ?_
  refine Dq (i := 10) rfl GS24 (fun _ hs => Y_load U24 rfl rfl (by first | exact hs.cel (by assumption) | exact hs.cel (ccx.at (by rfl)) | exact hs.cel (B1.at (by rfl)) | exact hs.cel (B2.at (by rfl)) | exact hs.cel (B3.at (by rfl)) | exact hs.cel (B5.at (by rfl)))) ?_
  refine Dq (i := 11) rfl GS24 (fun _ _ => Y_field U104 rfl fz104_3 (by decide) rfl) ?_
  refine Dq (i := 12) rfl GS24 (fun _ hs => Y_load U3 rfl rfl (by first | exact hs.cel (B2.at (by rfl)))) ?_
  refine Dq (i := 13) rfl GS24 (fun _ _ => Y_field U26 rfl fz26_1 (by decide) rfl) ?_
  refine Dq (i := 14) rfl GS24 (fun _ hs => Y_load U24 rfl rfl (by first | exact hs.cel (B1.at (by rfl)))) ?_
  refine Dq (i := 15) rfl GS24 (fun _ _ => Y_field U104 rfl fz104_2 (by decide) rfl) ?_
  refine Dq (i := 16) rfl GS24 (fun _ hs => Y_load U3 rfl rfl (by first | exact hs.cel (B2.at (by rfl)))) ?_
  refine Dq (i := 17) rfl GS24 (fun _ _ => Y_index U24 sz3 rfl rfl (by first | assumption | omega)) ?_
  refine Dq (i := 18) rfl GS24 (fun _ hs => Y_load U3 rfl rfl (by first | exact hs.cel (by assumption) | exact hs.cel (ccx.at (by rfl)) | exact hs.cel (B1.at (by rfl)) | exact hs.cel (B2.at (by rfl)) | exact hs.cel (B3.at (by rfl)) | exact hs.cel (B5.at (by rfl)))) ?_
  refine Dq (i := 19) rfl GS24 (fun _ _ => Y_index U24 sz3 rfl rfl (by first | assumption | omega)) ?_
  refine D_1 (i := 20) (by kernel_rfl) ?_
  refine E_of (i := 20) rfl (Ys_ref sz3 OX hne hmN hrs hj rfl rfl) ?_
  rintro w25 ⟨m25, hp25, OXF⟩
  try dsimp only at hp25
  replace G := G.abv m25
  replace GS24 := GS24.trn m25
  replace hAl := hAl0.grow G
  replace hBl := hBl0.grow G
  replace B1 := B1.md m25
  replace B2 := B2.md m25
  replace B3 := B3.md m25
  replace B5 := B5.md m25
  clear ccx
  have zm25 := m25.size
  refine ⟨GS24, ?_⟩
  refine D_en (by kernel_rfl) rfl rfl ?_
  refine ib_n ?_
  refine th_n (hK3 _ _ ?_)
  clear hK3 K3
  refine wp_seq_k fun K19 hK19 => ?_
  refine Sb 131 rfl ?_
  refine S_val (Y_loadS U26 rfl sz26 rfl (B5.row (by rfl))) ?_
  refine S_stM (pre := []) (old := [_, _]) (post := []) (vs := [_, _]) sz26 rfl rfl rfl (by first | rfl | assumption) B3 rfl rfl ?_
  intro w26 m26 X26
  replace B3 := Blk.eq (ys := [_, _]) X26 rfl
  clear X26
  replace G := G.abv m26
  replace hAl := hAl0.grow G
  replace hBl := hBl0.grow G
  replace OXF := OXF.md m26
  replace B1 := B1.md m26
  replace B2 := B2.md m26
  replace B5 := B5.md m26
  have zm26 := m26.size
  refine S_nl rfl rfl ?_
  refine th_n (hK19 _ _ ?_)
  clear hK19 K19
  refine wp_ret ?_
  refine ret_rc (cs := [_, _]) U26 rfl sz26 rfl rfl (B3.row (by rfl)) ?_
  exact ⟨_, _, _, _, _, _, _, _, rfl, by simp, by simp, hvF, OXF.weak (fun i hi => by first | omega | (dsimp only at hi; omega)), G⟩
 replace hb3 := nb_tf hb3
 refine wp_seq_k fun K20 hK20 => ?_
 refine Sb 131 rfl ?_
 refine S_val (Y_eql rfl rfl) ?_
 refine Sas rfl ?_
 refine S_nl rfl rfl ?_
 refine th_n (hK20 _ _ ?_)
 clear hK20 K20
 refine S_if rfl (fun hb4 => ?_) (fun hb4 => ?_)
 ·
  replace hb4 := nb_tt hb4
  have hcu := hcv
  unfold cvP at hcu
  dsimp only at hcu
  have hpb4 : pb < h.roots.length := by omega
  have hvF := valid_setRoot va (k := pa) (va.roots _ (List.getElem_mem hpb4))
  refine D_start 12 131 (fun w => Mod (fun i => i = bR) w) follows rfl rfl ?_
  intro w27 g27
  replace hAl := hAl.grow g27
  replace hBl := hBl.grow g27
  replace OX := OX.grow g27
  replace G := G.grow g27
  replace B1 := B1.grow g27
  replace B2 := B2.grow g27
  replace B3 := B3.grow g27
  replace B5 := B5.grow g27
  have zg27 := g27.size
  have GS27 := Mod.refl (fun i => i = bR) w27
  obtain ⟨gB, oB, eB, hpB, hcB⟩ := hBl.int (k := pb) (by omega)
  cases eB
  refine Dq (i := 0) rfl GS27 (fun _ _ => Y_field U26 rfl fz26_1 (by decide) rfl) ?_
  refine Dq (i := 1) rfl GS27 (fun _ hs => Y_load U24 rfl rfl (by first | exact hs.cel (B5.at (by rfl)))) ?_
  refine Dq (i := 2) rfl GS27 (fun _ _ => Y_field U104 rfl fz104_1 (by decide) rfl) ?_
  refine Dq (i := 3) rfl GS27 (fun _ hs => Y_load U3 rfl rfl (by first | exact hs.cel (B2.at (by rfl)))) ?_
  refine Dq (i := 4) rfl GS27 (fun _ _ => Y_field U26 rfl fz26_1 (by decide) rfl) ?_
  refine Dq (i := 5) rfl GS27 (fun _ hs => Y_load U24 rfl rfl (by first | exact hs.cel (B1.at (by rfl)))) ?_
  refine Dq (i := 6) rfl GS27 (fun _ _ => Y_field U104 rfl fz104_2 (by decide) rfl) ?_
  refine Dq (i := 7) rfl GS27 (fun _ hs => Y_load U3 rfl rfl (by first | exact hs.cel (B2.at (by rfl)))) ?_
  refine Dq (i := 8) rfl GS27 (fun _ _ => Y_index U24 sz3 rfl rfl (by first | assumption | omega)) ?_
  refine Dq (i := 9) rfl GS27 (fun _ hs => Y_load U3 rfl rfl (by first | exact hs.cel (by assumption) | exact hs.cel (B1.at (by rfl)) | exact hs.cel (B2.at (by rfl)) | exact hs.cel (B3.at (by rfl)) | exact hs.cel (B5.at (by rfl)))) ?_
  refine Dq (i := 10) rfl GS27 (fun _ _ => Y_index U24 sz3 rfl rfl (by first | assumption | omega)) ?_
  refine D_1 (i := 11) (by kernel_rfl) ?_
  refine E_of (i := 11) rfl (Ys_root sz3 OX hne (k := pa) (by omega) rfl rfl) ?_
  rintro w28 ⟨m28, hp28, OXF⟩
  try dsimp only at hp28
  replace G := G.abv m28
  replace GS27 := GS27.trn m28
  replace hAl := hAl0.grow G
  replace hBl := hBl0.grow G
  replace B1 := B1.md m28
  replace B2 := B2.md m28
  replace B3 := B3.md m28
  replace B5 := B5.md m28
  have zm28 := m28.size
  refine ⟨GS27, ?_⟩
  refine D_en (by kernel_rfl) rfl rfl ?_
  refine ib_n ?_
  refine th_n (hK3 _ _ ?_)
  clear hK3 K3
  refine wp_seq_k fun K21 hK21 => ?_
  refine Sb 131 rfl ?_
  refine S_val (Y_loadS U26 rfl sz26 rfl (B5.row (by rfl))) ?_
  refine S_stM (pre := []) (old := [_, _]) (post := []) (vs := [_, _]) sz26 rfl rfl rfl (by first | rfl | assumption) B3 rfl rfl ?_
  intro w29 m29 X29
  replace B3 := Blk.eq (ys := [_, _]) X29 rfl
  clear X29
  replace G := G.abv m29
  replace hAl := hAl0.grow G
  replace hBl := hBl0.grow G
  replace OXF := OXF.md m29
  replace B1 := B1.md m29
  replace B2 := B2.md m29
  replace B5 := B5.md m29
  have zm29 := m29.size
  refine S_nl rfl rfl ?_
  refine th_n (hK21 _ _ ?_)
  clear hK21 K21
  refine wp_ret ?_
  refine ret_rc (cs := [_, _]) U26 rfl sz26 rfl rfl (B3.row (by rfl)) ?_
  exact ⟨_, _, _, _, _, _, _, _, rfl, by simp, by simp, hvF, OXF.weak (fun i hi => by first | omega | (dsimp only at hi; omega)), G⟩
 replace hb4 := nb_tf hb4
 refine wp_seq_k fun K22 hK22 => ?_
 refine Sb 131 rfl ?_
 refine S_val (Y_eql rfl rfl) ?_
 refine Sas rfl ?_
 refine S_nl rfl rfl ?_
 refine th_n (hK22 _ _ ?_)
 clear hK22 K22
 refine S_if rfl (fun hb5 => ?_) (fun hb5 => ?_)
 ·
  replace hb5 := nb_tt hb5
  have hvF := valid_setRoot va (k := pa) (leadsB_m1 h.cells)
  refine Sb 131 rfl ?_
  refine S_val (Y_field U26 rfl fz26_1 (by decide) rfl) ?_
  refine S_val (Y_load U24 rfl rfl (B5.at (by rfl))) ?_
  refine S_val (Y_field U104 rfl fz104_1 (by decide) rfl) ?_
  refine S_val (Y_load U3 rfl rfl (B2.at (by rfl))) ?_
  refine S_val (Y_index U24 sz3 rfl rfl (by first | assumption | omega)) ?_
  refine S_of (Ys_root sz3 OX hne (k := pa) (by omega) rfl rfl) ?_
  rintro w30 ⟨m30, hp30, OXF⟩
  try dsimp only at hp30
  replace G := G.abv m30
  replace hAl := hAl0.grow G
  replace hBl := hBl0.grow G
  replace B1 := B1.md m30
  replace B2 := B2.md m30
  replace B3 := B3.md m30
  replace B5 := B5.md m30
  have zm30 := m30.size
  refine S_nl rfl rfl ?_
  refine ib_n ?_
  refine th_n (hK3 _ _ ?_)
  clear hK3 K3
  refine wp_seq_k fun K23 hK23 => ?_
  refine Sb 131 rfl ?_
  refine S_val (Y_loadS U26 rfl sz26 rfl (B5.row (by rfl))) ?_
  refine S_stM (pre := []) (old := [_, _]) (post := []) (vs := [_, _]) sz26 rfl rfl rfl (by first | rfl | assumption) B3 rfl rfl ?_
  intro w31 m31 X31
  replace B3 := Blk.eq (ys := [_, _]) X31 rfl
  clear X31
  replace G := G.abv m31
  replace hAl := hAl0.grow G
  replace hBl := hBl0.grow G
  replace OXF := OXF.md m31
  replace B1 := B1.md m31
  replace B2 := B2.md m31
  replace B5 := B5.md m31
  have zm31 := m31.size
  refine S_nl rfl rfl ?_
  refine th_n (hK23 _ _ ?_)
  clear hK23 K23
  refine wp_ret ?_
  refine ret_rc (cs := [_, _]) U26 rfl sz26 rfl rfl (B3.row (by rfl)) ?_
  exact ⟨_, _, _, _, _, _, _, _, rfl, by simp, by simp, hvF, OXF.weak (fun i hi => by first | omega | (dsimp only at hi; omega)), G⟩
 replace hb5 := nb_tf hb5
 refine wp_seq_k fun K24 hK24 => ?_
 refine Sb 131 rfl ?_
 refine S_val (Y_eql rfl rfl) ?_
 refine Sas rfl ?_
 refine S_nl rfl rfl ?_
 refine th_n (hK24 _ _ ?_)
 clear hK24 K24
 refine S_if rfl (fun hb6 => ?_) (fun hb6 => ?_)
 ·
  replace hb6 := nb_tt hb6
  have hcu := hcv
  unfold cvP at hcu
  dsimp only at hcu
  have hpe : rootB h (pa : Int) = true := by rw [hb6] at hef; simpa [effectB] using hef
  rw [rootB_at hpa, decide_eq_true_eq] at hpe
  obtain ⟨m, hm, hmN⟩ := valid_root va hpa hpe
  have hmu := root_used va hpa hm hmN
  have hvF := valid_setData va hmN hmu (x := (pb : Int)) (by omega)
  obtain ⟨gC, RX, capX, rfl, hpC, _, _, _, _⟩ := OX.cellAt hne hmN
  try dsimp only at hpC
  refine D_start 13 131 (fun w => Mod (fun i => i = gC) w) follows rfl rfl ?_
  intro w32 g32
  replace hAl := hAl.grow g32
  replace hBl := hBl.grow g32
  replace OX := OX.grow g32
  replace G := G.grow g32
  replace B1 := B1.grow g32
  replace B2 := B2.grow g32
  replace B3 := B3.grow g32
  replace B5 := B5.grow g32
  have zg32 := g32.size
  have GS32 := Mod.refl (fun i => i = gC) w32
  obtain ⟨gB, oB, eB, hpB, hcB⟩ := hBl.int hpa
  cases eB
  rw [hm] at hcB
  refine Dq (i := 0) rfl GS32 (fun _ _ => Y_field U26 rfl fz26_0 (by decide) rfl) ?_
  refine Dq (i := 1) rfl GS32 (fun _ hs => Y_load U23 rfl rfl (by first | exact hs.cel (B5.at (by rfl)))) ?_
  refine Dq (i := 2) rfl GS32 (fun _ _ => Y_field U26 rfl fz26_1 (by decide) rfl) ?_
  refine Dq (i := 3) rfl GS32 (fun _ hs => Y_load U24 rfl rfl (by first | exact hs.cel (B1.at (by rfl)))) ?_
  refine Dq (i := 4) rfl GS32 (fun _ _ => Y_field U104 rfl fz104_1 (by decide) rfl) ?_
  refine Dq (i := 5) rfl GS32 (fun _ hs => Y_load U3 rfl rfl (by first | exact hs.cel (B2.at (by rfl)))) ?_
  refine Dq (i := 6) rfl GS32 (fun _ _ => Y_index U24 sz3 rfl rfl (by first | assumption | omega)) ?_
  refine Dq (i := 7) rfl GS32 (fun _ hs => Y_load U3 rfl rfl (by first | exact hs.cel (by assumption) | exact hs.cel (B1.at (by rfl)) | exact hs.cel (B2.at (by rfl)) | exact hs.cel (B3.at (by rfl)) | exact hs.cel (B5.at (by rfl)))) ?_
  refine Dq (i := 8) rfl GS32 (fun _ _ => Y_field U104 rfl fz104_2 (by decide) rfl) ?_
  refine Dq (i := 9) rfl GS32 (fun _ hs => Y_load U3 rfl rfl (by first | exact hs.cel (B2.at (by rfl)))) ?_
  refine Dq (i := 10) rfl GS32 (fun _ _ => Y_index U23 sz50 rfl rfl (by first | assumption | omega)) ?_
  refine Dq (i := 11) rfl GS32 (fun _ _ => Y_field U50 rfl fz50_1 (by decide) rfl) ?_
  refine D_1 (i := 12) (by kernel_rfl) ?_
  refine E_of (i := 12) rfl (Ys_data sz3 OX hne hmN rfl rfl) ?_
  rintro w33 ⟨m33, hp33, OXF⟩
  try dsimp only at hp33
  replace G := G.abv m33
  replace GS32 := GS32.trn m33
  replace hAl := hAl0.grow G
  replace hBl := hBl0.grow G
  replace B1 := B1.md m33
  replace B2 := B2.md m33
  replace B3 := B3.md m33
  replace B5 := B5.md m33
  have zm33 := m33.size
  refine ⟨GS32, ?_⟩
  refine D_en (by kernel_rfl) rfl rfl ?_
  refine ib_n ?_
  refine th_n (hK3 _ _ ?_)
  clear hK3 K3
  refine wp_seq_k fun K25 hK25 => ?_
  refine Sb 131 rfl ?_
  refine S_val (Y_loadS U26 rfl sz26 rfl (B5.row (by rfl))) ?_
  refine S_stM (pre := []) (old := [_, _]) (post := []) (vs := [_, _]) sz26 rfl rfl rfl (by first | rfl | assumption) B3 rfl rfl ?_
  intro w34 m34 X34
  replace B3 := Blk.eq (ys := [_, _]) X34 rfl
  clear X34
  replace G := G.abv m34
  replace hAl := hAl0.grow G
  replace hBl := hBl0.grow G
  replace OXF := OXF.md m34
  replace B1 := B1.md m34
  replace B2 := B2.md m34
  replace B5 := B5.md m34
  have zm34 := m34.size
  refine S_nl rfl rfl ?_
  refine th_n (hK25 _ _ ?_)
  clear hK25 K25
  refine wp_ret ?_
  refine ret_rc (cs := [_, _]) U26 rfl sz26 rfl rfl (B3.row (by rfl)) ?_
  exact ⟨_, _, _, _, _, _, _, _, rfl, by simp, by simp, hvF, OXF.weak (fun i hi => by first | omega | (dsimp only at hi; omega)), G⟩
 replace hb6 := nb_tf hb6
 unfold cvP at hcv; dsimp only at hcv; omega
end
/-! WalkRh -/
section
open Go Go.RowKit
attribute [local irreducible] wpList wpAnyH Code.wp dOp
set_option maxHeartbeats 400000 in
set_option maxRecDepth 20000 in
theorem spec_StepHeap_c (Pr : Nat → Prop) (A B : Option Addr) (h : LH) (c d : Nat) (oop oa ob oc : Int) (w : World) (hA : RC Pr w A h.cells) (hB : R1 Pr w B (ints h.roots)) (va : Valid h) (hcv : cvP ⟨oop, oa, ob, oc⟩) :
    Calls Try.prog 79 #[.agg #[.slice A h.cells.length c, .slice B h.roots.length d], .agg #[.int .i64 oop, .int .i64 oa, .int .i64 ob, .int .i64 oc]] w (Ret fun v w' => ∃ A1 B1 n1 c1 n2 c2 rs h2 ok, v = .tuple #[.agg #[.slice A1 n1 c1, .slice B1 n2 c2], .bool ok] ∧ n1 = h2.cells.length ∧ n2 = h2.roots.length ∧ Valid h2 ∧ XH (fun i => w.heap.size ≤ i) w' 50 3 A1 B1 h2 rs c1 c2 ∧ Grow w w') := by
 have hz1 := hsize_cells h
 have hz2 := hsize_roots h
 have hne : (50 : TypeId) ≠ 3 := by decide
 have hsm := va.small
 have h40 := va.le
 refine enter Try.func79 rfl Try.ntmps79 (L := [_,_,_,_,_,_,_,_,_,_,_,_,_,_,_,_,_,_,_,_,_,_,_,_,_,_,_,_,_,_,_,_,_,_,_,_,_,_]) rfl ?_
 have G := Mod.refl No w
 have hA0 := hA
 have hB0 := hB
 refine wp_seq_k fun K1 hK1 => ?_
 refine Sb 38 rfl ?_
 refine S_box (cs := [_, _]) rfl rfl ?_
 intro b1 w1 fb1 g1 B1
 have lb1 := B1.lt
 replace hA := hA.grow g1
 replace hB := hB.grow g1
 replace G := G.grow g1
 have zg1 := g1.size
 refine S_box (cs := [_, _, _, _]) rfl rfl ?_
 intro b2 w2 fb2 g2 B2
 have lb2 := B2.lt
 replace hA := hA.grow g2
 replace hB := hB.grow g2
 replace G := G.grow g2
 replace B1 := B1.grow g2
 have zg2 := g2.size
 refine S_alloc (cs := [_, _]) zr26 rfl ?_
 intro b3 w3 fb3 g3 B3
 have lb3 := B3.lt
 replace hA := hA.grow g3
 replace hB := hB.grow g3
 replace G := G.grow g3
 replace B1 := B1.grow g3
 replace B2 := B2.grow g3
 have zg3 := g3.size
 refine Sas rfl ?_
 refine S_nl rfl rfl ?_
 refine th_n (hK1 _ _ ?_)
 clear hK1 K1
 refine wp_seq_k fun K2 hK2 => ?_
 refine wp_seq_k fun K3 hK3 => ?_
 refine Sb 38 rfl ?_
 refine S_val (Y_loadS U26 rfl sz26 rfl (B1.row (by rfl))) ?_
 refine S_call rfl en44 (spec_HeapValid_c _ _ _ _ _ _ _ (by assumption) (by assumption) (by omega)) ?_
 rintro v4 w4 ⟨rfl, g4⟩
 replace hA := hA.grow g4
 replace hB := hB.grow g4
 replace G := G.grow g4
 replace B1 := B1.grow g4
 replace B2 := B2.grow g4
 replace B3 := B3.grow g4
 have zg4 := g4.size
 refine S_val (Y_not rfl) ?_
 refine Smv rfl ?_
 refine S_g 9 rfl (fun hb1 => ?_) (fun hb1 => ?_)
 ·
  first | with_reducible (replace hb1 := nb_nt hb1) | with_reducible (replace hb1 := nb_tt hb1) | with_reducible (replace hb1 := nb_bt hb1) | skip
  rw [valid_iff.2 va] at hb1; cases hb1
 first | with_reducible (replace hb1 := nb_nf hb1) | with_reducible (replace hb1 := nb_tf hb1) | with_reducible (replace hb1 := nb_bf hb1) | skip
 refine S_on rfl rfl ?_
 refine S_val (Y_loadS U104 rfl sz104 rfl (B2.row (by rfl))) ?_
 refine S_on rfl rfl ?_
 refine S_call rfl en81 (spec_CommandValid_c _ _ _ _ _) ?_
 rintro v5 w5 ⟨rfl, g5⟩
 replace hA := hA.grow g5
 replace hB := hB.grow g5
 replace G := G.grow g5
 replace B1 := B1.grow g5
 replace B2 := B2.grow g5
 replace B3 := B3.grow g5
 have zg5 := g5.size
 refine S_on rfl rfl ?_
 refine S_val (Y_not rfl) ?_
 refine S_val (Y_pickF rfl rfl) ?_
 refine S_nl rfl rfl ?_
 refine th_n (hK3 _ _ ?_)
 clear hK3 K3
 refine S_if rfl (fun hb2 => ?_) (fun hb2 => ?_)
 ·
  first | with_reducible (replace hb2 := nb_nt hb2) | with_reducible (replace hb2 := nb_tt hb2) | with_reducible (replace hb2 := nb_bt hb2) | skip
  simp [cvB, hcv] at hb2
 first | with_reducible (replace hb2 := nb_nf hb2) | with_reducible (replace hb2 := nb_tf hb2) | with_reducible (replace hb2 := nb_bf hb2) | skip
 refine wp_skip ?_
 refine th_n (hK2 _ _ ?_)
 clear hK2 K2
 refine wp_seq_k fun K4 hK4 => ?_
 refine wp_seq_k fun K5 hK5 => ?_
 refine Sb 38 rfl ?_
 refine S_val (Y_loadS U26 rfl sz26 rfl (B1.row (by rfl))) ?_
 refine S_val (Y_loadS U104 rfl sz104 rfl (B2.row (by rfl))) ?_
 refine S_call rfl en83 (spec_CommandPossible_c _ _ _ h _ _ _ _ _ _ _ (by assumption) (by assumption) (by omega)) ?_
 rintro v6 w6 ⟨rfl, g6⟩
 replace hA := hA.grow g6
 replace hB := hB.grow g6
 replace G := G.grow g6
 replace B1 := B1.grow g6
 replace B2 := B2.grow g6
 replace B3 := B3.grow g6
 have zg6 := g6.size
 refine S_val (Y_not rfl) ?_
 refine Smv rfl ?_
 refine S_g 19 rfl (fun hb3 => ?_) (fun hb3 => ?_)
 ·
  first | with_reducible (replace hb3 := nb_nt hb3) | with_reducible (replace hb3 := nb_tt hb3) | with_reducible (replace hb3 := nb_bt hb3) | skip
  refine S_off rfl rfl ?_
  refine S_off rfl rfl ?_
  refine S_off rfl rfl ?_
  refine S_off rfl rfl ?_
  refine S_offU rfl rfl ?_
  refine S_offU rfl rfl ?_
  refine S_offU rfl rfl ?_
  refine S_offU rfl rfl ?_
  refine S_off rfl rfl ?_
  refine S_val (Y_pickT rfl rfl) ?_
  refine S_nl rfl rfl ?_
  refine th_n (hK5 _ _ ?_)
  clear hK5 K5
  refine S_ifT rfl ?_
  refine wp_seq_k fun K6 hK6 => ?_
  refine Sb 38 rfl ?_
  refine S_val (Y_loadS U26 rfl sz26 rfl (B1.row (by rfl))) ?_
  refine S_call rfl en25 (spec_l7Copy2_c _ _ _ _ _ _ _ (by assumption) (by assumption) (by omega)) ?_
  rintro v7 w7 ⟨A7, B7, n17, c17, n27, c27, rs7, rfl, hn17, hn27, O7, g7⟩
  replace hA := hA.grow g7
  replace hB := hB.grow g7
  replace G := G.grow g7
  replace B1 := B1.grow g7
  replace B2 := B2.grow g7
  replace B3 := B3.grow g7
  have zg7 := g7.size
  subst hn17
  subst hn27
  obtain ⟨AH, rfl⟩ : ∃ x, x = A7 := ⟨_, rfl⟩
  obtain ⟨BH, rfl⟩ : ∃ x, x = B7 := ⟨_, rfl⟩
  obtain ⟨cH, rfl⟩ : ∃ x, x = c17 := ⟨_, rfl⟩
  obtain ⟨dH, rfl⟩ : ∃ x, x = c27 := ⟨_, rfl⟩
  obtain ⟨rsH, rfl⟩ : ∃ x, x = rs7 := ⟨_, rfl⟩
  have OX := O7.lt
  have hvF := va
  refine S_stM (pre := []) (old := [_, _]) (post := []) (vs := [_, _]) sz26 rfl rfl rfl (by first | rfl | assumption) B3 rfl rfl ?_
  intro w8 m8 X8
  replace B3 := Blk.eq (ys := [_, _]) X8 rfl
  clear X8
  replace G := G.abv m8
  replace hA := hA0.grow G
  replace hB := hB0.grow G
  replace OX := OX.md m8
  replace B1 := B1.md m8
  replace B2 := B2.md m8
  have zm8 := m8.size
  refine Sas rfl ?_
  refine S_nl rfl rfl ?_
  refine th_n (hK6 _ _ ?_)
  clear hK6 K6
  refine wp_ret ?_
  refine th_r ?_
  clear hK4 K4
  refine ret_rct (cs := [_, _]) U26 rfl sz26 rfl rfl rfl (B3.row (by rfl)) ?_
  exact ⟨_, _, _, _, _, _, _, _, _, rfl, rfl, rfl, hvF, OX.weak (fun i hi => by first | omega | (dsimp only at hi; omega)), G⟩
 first | with_reducible (replace hb3 := nb_nf hb3) | with_reducible (replace hb3 := nb_tf hb3) | with_reducible (replace hb3 := nb_bf hb3) | skip
 have hef : effectB h ⟨oop, oa, ob, oc⟩ = true := by rw [possB_t (valid_iff.2 va) (by simp [cvB, hcv])] at hb3; exact hb3
 refine S_on rfl rfl ?_
 refine S_val (Y_field U104 rfl fz104_0 (by decide) rfl) ?_
 refine S_on rfl rfl ?_
 refine S_val (Y_load U3 rfl rfl (B2.at (by rfl))) ?_
 refine S_on rfl rfl ?_
 refine S_val (Y_eql rfl rfl) ?_
 refine S_on rfl rfl ?_
 refine Smv rfl ?_
 refine S_g 23 rfl (fun hb4 => ?_) (fun hb4 => ?_)
 ·
  replace hb4 := nb_tt hb4
  refine S_on rfl rfl ?_
  refine S_val (Y_field U26 rfl fz26_0 (by decide) rfl) ?_
  refine S_on rfl rfl ?_
  refine S_val (Y_load U23 rfl rfl (B1.at (by rfl))) ?_
  refine S_on rfl rfl ?_
  refine S_val (Y_len U23 rfl) ?_
  refine S_on rfl rfl ?_
  refine S_val (Y_eql rfl rfl) ?_
  refine S_on rfl rfl ?_
  refine S_val (Y_pickT rfl rfl) ?_
  refine S_val (Y_pickF rfl rfl) ?_
  refine S_nl rfl rfl ?_
  refine th_n (hK5 _ _ ?_)
  clear hK5 K5
  refine S_if rfl (fun hb5 => ?_) (fun hb5 => ?_)
  ·
   first | with_reducible (replace hb5 := nb_nt hb5) | with_reducible (replace hb5 := nb_tt hb5) | with_reducible (replace hb5 := nb_bt hb5) | skip
   refine wp_seq_k fun K7 hK7 => ?_
   refine Sb 38 rfl ?_
   refine S_val (Y_loadS U26 rfl sz26 rfl (B1.row (by rfl))) ?_
   refine S_call rfl en25 (spec_l7Copy2_c _ _ _ _ _ _ _ (by assumption) (by assumption) (by omega)) ?_
   rintro v9 w9 ⟨A9, B9, n19, c19, n29, c29, rs9, rfl, hn19, hn29, O9, g9⟩
   replace hA := hA.grow g9
   replace hB := hB.grow g9
   replace G := G.grow g9
   replace B1 := B1.grow g9
   replace B2 := B2.grow g9
   replace B3 := B3.grow g9
   have zg9 := g9.size
   subst hn19
   subst hn29
   obtain ⟨AH, rfl⟩ : ∃ x, x = A9 := ⟨_, rfl⟩
   obtain ⟨BH, rfl⟩ : ∃ x, x = B9 := ⟨_, rfl⟩
   obtain ⟨cH, rfl⟩ : ∃ x, x = c19 := ⟨_, rfl⟩
   obtain ⟨dH, rfl⟩ : ∃ x, x = c29 := ⟨_, rfl⟩
   obtain ⟨rsH, rfl⟩ : ∃ x, x = rs9 := ⟨_, rfl⟩
   have OX := O9.lt
   have hvF := va
   refine S_stM (pre := []) (old := [_, _]) (post := []) (vs := [_, _]) sz26 rfl rfl rfl (by first | rfl | assumption) B3 rfl rfl ?_
   intro w10 m10 X10
   replace B3 := Blk.eq (ys := [_, _]) X10 rfl
   clear X10
   replace G := G.abv m10
   replace hA := hA0.grow G
   replace hB := hB0.grow G
   replace OX := OX.md m10
   replace B1 := B1.md m10
   replace B2 := B2.md m10
   have zm10 := m10.size
   refine Sas rfl ?_
   refine S_nl rfl rfl ?_
   refine th_n (hK7 _ _ ?_)
   clear hK7 K7
   refine wp_ret ?_
   refine th_r ?_
   clear hK4 K4
   refine ret_rct (cs := [_, _]) U26 rfl sz26 rfl rfl rfl (B3.row (by rfl)) ?_
   exact ⟨_, _, _, _, _, _, _, _, _, rfl, rfl, rfl, hvF, OX.weak (fun i hi => by first | omega | (dsimp only at hi; omega)), G⟩
  first | with_reducible (replace hb5 := nb_nf hb5) | with_reducible (replace hb5 := nb_tf hb5) | with_reducible (replace hb5 := nb_bf hb5) | skip
  refine wp_skip ?_
  refine th_n (hK4 _ _ ?_)
  clear hK4 K4
  refine wp_seq_k fun K8 hK8 => ?_
  refine Sb 38 rfl ?_
  refine S_val (Y_loadS U26 rfl sz26 rfl (B1.row (by rfl))) ?_
  refine S_val (Y_loadS U104 rfl sz104 rfl (B2.row (by rfl))) ?_
  refine S_val (Y_field U26 rfl fz26_0 (by decide) rfl) ?_
  refine S_val (Y_load U23 rfl rfl (B1.at (by rfl))) ?_
  refine S_val (Y_len U23 rfl) ?_
  refine S_call rfl en85 (spec_l8Do_c _ _ _ h _ _ h.cells.length _ _ _ _ _ hA hB va hcv hef (fun h1 => by omega)) ?_
  rintro v11 w11 ⟨A11, B11, n111, c111, n211, c211, rs11, h11, rfl, hn111, hn211, va11, O11, g11⟩
  replace hA := hA.grow g11
  replace hB := hB.grow g11
  replace G := G.grow g11
  replace B1 := B1.grow g11
  replace B2 := B2.grow g11
  replace B3 := B3.grow g11
  have zg11 := g11.size
  obtain ⟨hF, rfl⟩ : ∃ x, x = h11 := ⟨_, rfl⟩
  have hvF := va11
  subst hn111
  subst hn211
  obtain ⟨AH, rfl⟩ : ∃ x, x = A11 := ⟨_, rfl⟩
  obtain ⟨BH, rfl⟩ : ∃ x, x = B11 := ⟨_, rfl⟩
  obtain ⟨cH, rfl⟩ : ∃ x, x = c111 := ⟨_, rfl⟩
  obtain ⟨dH, rfl⟩ : ∃ x, x = c211 := ⟨_, rfl⟩
  obtain ⟨rsH, rfl⟩ : ∃ x, x = rs11 := ⟨_, rfl⟩
  have OX := O11.lt
  refine S_stM (pre := []) (old := [_, _]) (post := []) (vs := [_, _]) sz26 rfl rfl rfl (by first | rfl | assumption) B3 rfl rfl ?_
  intro w12 m12 X12
  replace B3 := Blk.eq (ys := [_, _]) X12 rfl
  clear X12
  replace G := G.abv m12
  replace hA := hA0.grow G
  replace hB := hB0.grow G
  replace OX := OX.md m12
  replace B1 := B1.md m12
  replace B2 := B2.md m12
  have zm12 := m12.size
  refine Sas rfl ?_
  refine S_nl rfl rfl ?_
  refine th_n (hK8 _ _ ?_)
  clear hK8 K8
  refine wp_ret ?_
  refine ret_rct (cs := [_, _]) U26 rfl sz26 rfl rfl rfl (B3.row (by rfl)) ?_
  exact ⟨_, _, _, _, _, _, _, _, _, rfl, rfl, rfl, hvF, OX.weak (fun i hi => by first | omega | (dsimp only at hi; omega)), G⟩
 replace hb4 := nb_tf hb4
 refine S_off rfl rfl ?_
 refine S_off rfl rfl ?_
 refine S_off rfl rfl ?_
 refine S_off rfl rfl ?_
 refine S_on rfl rfl ?_
 refine S_val (Y_pickF rfl rfl) ?_
 refine S_val (Y_pickF rfl rfl) ?_
 refine S_nl rfl rfl ?_
 refine th_n (hK5 _ _ ?_)
 clear hK5 K5
 refine S_ifF rfl ?_
 refine wp_skip ?_
 refine th_n (hK4 _ _ ?_)
 clear hK4 K4
 refine wp_seq_k fun K9 hK9 => ?_
 refine Sb 38 rfl ?_
 refine S_val (Y_loadS U26 rfl sz26 rfl (B1.row (by rfl))) ?_
 refine S_val (Y_loadS U104 rfl sz104 rfl (B2.row (by rfl))) ?_
 refine S_val (Y_field U26 rfl fz26_0 (by decide) rfl) ?_
 refine S_val (Y_load U23 rfl rfl (B1.at (by rfl))) ?_
 refine S_val (Y_len U23 rfl) ?_
 refine S_call rfl en85 (spec_l8Do_c _ _ _ h _ _ h.cells.length _ _ _ _ _ hA hB va hcv hef (fun h1 => by omega)) ?_
 rintro v13 w13 ⟨A13, B13, n113, c113, n213, c213, rs13, h13, rfl, hn113, hn213, va13, O13, g13⟩
 replace hA := hA.grow g13
 replace hB := hB.grow g13
 replace G := G.grow g13
 replace B1 := B1.grow g13
 replace B2 := B2.grow g13
 replace B3 := B3.grow g13
 have zg13 := g13.size
 obtain ⟨hF, rfl⟩ : ∃ x, x = h13 := ⟨_, rfl⟩
 have hvF := va13
 subst hn113
 subst hn213
 obtain ⟨AH, rfl⟩ : ∃ x, x = A13 := ⟨_, rfl⟩
 obtain ⟨BH, rfl⟩ : ∃ x, x = B13 := ⟨_, rfl⟩
 obtain ⟨cH, rfl⟩ : ∃ x, x = c113 := ⟨_, rfl⟩
 obtain ⟨dH, rfl⟩ : ∃ x, x = c213 := ⟨_, rfl⟩
 obtain ⟨rsH, rfl⟩ : ∃ x, x = rs13 := ⟨_, rfl⟩
 have OX := O13.lt
 refine S_stM (pre := []) (old := [_, _]) (post := []) (vs := [_, _]) sz26 rfl rfl rfl (by first | rfl | assumption) B3 rfl rfl ?_
 intro w14 m14 X14
 replace B3 := Blk.eq (ys := [_, _]) X14 rfl
 clear X14
 replace G := G.abv m14
 replace hA := hA0.grow G
 replace hB := hB0.grow G
 replace OX := OX.md m14
 replace B1 := B1.md m14
 replace B2 := B2.md m14
 have zm14 := m14.size
 refine Sas rfl ?_
 refine S_nl rfl rfl ?_
 refine th_n (hK9 _ _ ?_)
 clear hK9 K9
 refine wp_ret ?_
 refine ret_rct (cs := [_, _]) U26 rfl sz26 rfl rfl rfl (B3.row (by rfl)) ?_
 exact ⟨_, _, _, _, _, _, _, _, _, rfl, rfl, rfl, hvF, OX.weak (fun i hi => by first | omega | (dsimp only at hi; omega)), G⟩
set_option maxHeartbeats 400000 in
set_option maxRecDepth 20000 in
theorem spec_RunHeap_c (Pr : Nat → Prop) (A : Option Addr) (xs : List LCmd) (c : Nat) (w : World) (hA : RO Pr w A xs) (hx : xs.length ≤ 1048576) (hcs : csB xs = true) :
    Calls Try.prog 70 #[.slice A xs.length c] w (Ret fun v w' => ∃ A1 B1 n1 c1 n2 c2 rs h2, v = .agg #[.slice A1 n1 c1, .slice B1 n2 c2] ∧ n1 = h2.cells.length ∧ n2 = h2.roots.length ∧ Valid h2 ∧ XH (fun i => w.heap.size ≤ i) w' 50 3 A1 B1 h2 rs c1 c2 ∧ Grow w w') := by
 have hAl := hA.below
 have hne : (50 : TypeId) ≠ 3 := by decide
 have hall : ∀ (k : Nat) (hk : k < xs.length), cvB xs[k] = true := fun k hk => by unfold csB at hcs; rw [decide_eq_true_eq] at hcs; exact List.all_eq_true.1 hcs.2 _ (List.getElem_mem hk)
 refine enter Try.func70 rfl Try.ntmps70 (L := [_,_,_,_,_,_,_,_,_,_,_,_,_,_,_,_,_,_,_,_,_,_,_,_,_,_,_,_,_]) rfl ?_
 have G := Mod.refl No w
 have hAl0 := hAl
 refine wp_seq_k fun K1 hK1 => ?_
 refine Sb 29 rfl ?_
 refine S_alloc (cs := [_, _]) zr26 rfl ?_
 intro b1 w1 fb1 g1 B1
 have lb1 := B1.lt
 replace hAl := hAl.grow g1
 replace G := G.grow g1
 have zg1 := g1.size
 refine S_nl rfl rfl ?_
 refine th_n (hK1 _ _ ?_)
 clear hK1 K1
 refine wp_seq_k fun K2 hK2 => ?_
 refine wp_seq_k fun K3 hK3 => ?_
 refine Sb 29 rfl ?_
 refine Smv rfl ?_
 refine S_call rfl en72 (spec_CommandsValid_c _ _ _ _ _ (by assumption) (by omega)) ?_
 rintro v2 w2 ⟨rfl, g2⟩
 replace hAl := hAl.grow g2
 replace G := G.grow g2
 replace B1 := B1.grow g2
 have zg2 := g2.size
 refine S_val (Y_not rfl) ?_
 refine S_nl rfl rfl ?_
 refine th_n (hK3 _ _ ?_)
 clear hK3 K3
 refine S_if rfl (fun hb1 => ?_) (fun hb1 => ?_)
 ·
  first | with_reducible (replace hb1 := nb_nt hb1) | with_reducible (replace hb1 := nb_tt hb1) | with_reducible (replace hb1 := nb_bt hb1) | skip
  rw [hcs] at hb1; cases hb1
 first | with_reducible (replace hb1 := nb_nf hb1) | with_reducible (replace hb1 := nb_tf hb1) | with_reducible (replace hb1 := nb_bf hb1) | skip
 refine wp_skip ?_
 refine th_n (hK2 _ _ ?_)
 clear hK2 K2
 refine wp_seq_k fun K4 hK4 => ?_
 refine Sb 29 rfl ?_
 refine S_call rfl en73 (spec_EmptyHeap2_c _) ?_
 rintro v3 w3 ⟨A3, B3, n13, c13, n23, c23, rs3, rfl, hn13, hn23, O3, g3⟩
 replace hAl := hAl.grow g3
 replace G := G.grow g3
 replace B1 := B1.grow g3
 have zg3 := g3.size
 subst hn13
 subst hn23
 obtain ⟨AH, rfl⟩ : ∃ x, x = A3 := ⟨_, rfl⟩
 obtain ⟨BH, rfl⟩ : ∃ x, x = B3 := ⟨_, rfl⟩
 obtain ⟨cH, rfl⟩ : ∃ x, x = c13 := ⟨_, rfl⟩
 obtain ⟨dH, rfl⟩ : ∃ x, x = c23 := ⟨_, rfl⟩
 obtain ⟨rsH, rfl⟩ : ∃ x, x = rs3 := ⟨_, rfl⟩
 have OX := O3.lt
 refine S_alloc (cs := [_, _]) zr26 rfl ?_
 intro b4 w4 fb4 g4 B4
 have lb4 := B4.lt
 replace hAl := hAl.grow g4
 replace OX := OX.grow g4
 replace G := G.grow g4
 replace B1 := B1.grow g4
 have zg4 := g4.size
 refine S_stM (pre := []) (old := [_, _]) (post := []) (vs := [_, _]) sz26 rfl rfl rfl (by first | rfl | assumption) B4 rfl rfl ?_
 intro w5 m5 X5
 replace B4 := Blk.eq (ys := [_, _]) X5 rfl
 clear X5
 replace G := G.abv m5
 replace hAl := hAl0.grow G
 replace OX := OX.md m5
 replace B1 := B1.md m5
 have zm5 := m5.size
 refine S_nl rfl rfl ?_
 refine th_n (hK4 _ _ ?_)
 clear hK4 K4
 refine wp_seq_k fun K5 hK5 => ?_
 refine wp_seq_k fun K6 hK6 => ?_
 refine Sb 29 rfl ?_
 refine Sas rfl ?_
 refine S_nl rfl rfl ?_
 refine th_n (hK6 _ _ ?_)
 clear hK6 K6
 refine wp_block ?_
 replace OX := OX.weak (Pr' := fun i => b1 < i ∧ i ≠ b4) (fun i hi => by first | omega | (dsimp only at hi; omega))
 go_loopw [4] (fun u4 wr => (∃ (k : Nat) (hK : LH) (AK BK : Option Addr) (c1 c2 : Nat) (rs : List (Option Addr × Nat)), u4 = .int .i64 k ∧ k ≤ xs.length ∧ Blk wr b4 26 [.slice AK hK.cells.length c1, .slice BK hK.roots.length c2].toArray ∧ Valid hK ∧ XH (fun i => b1 < i ∧ i ≠ b4) wr 50 3 AK BK hK rs c1 c2) ∧ Mod (fun i => i = b4) w5 wr) (fun u4 wr => xs.length - (intOf u4).toNat)
 case atStart =>
  refine ⟨?_, Mod.refl _ _⟩
  exact ⟨0, emptyH, _, _, _, _, _, rfl, by omega, B4, valid_iff.1 (by decide), OX⟩
 case round =>
  obtain ⟨w6, rfl⟩ : ∃ x : World, x = wr := ⟨_, rfl⟩
  obtain ⟨hrel, g6⟩ := hrel
  clear B4
  clear OX
  replace G := G.abv g6
  replace hAl := hAl0.grow G
  replace B1 := B1.md g6
  have zg6 := g6.size
  obtain ⟨k, hK, AK, BK, c1, c2, rs, rfl, hk, B4, vK, OK1⟩ := hrel
  replace OK1 := OK1.lt
  have hKA := OK1.rc
  have hKB := OK1.r1
  have GL6 := g6
  refine wp_seq_k fun K7 hK7 => ?_
  refine wp_seq_k fun K8 hK8 => ?_
  refine Sb 29 rfl ?_
  refine Smv rfl ?_
  refine Smv rfl ?_
  refine S_val (Y_len U78 rfl) ?_
  refine S_val (Y_lss rfl rfl) ?_
  refine S_nl rfl rfl ?_
  refine th_n (hK8 _ _ ?_)
  clear hK8 K8
  refine S_if rfl (fun hb2 => ?_) (fun hb2 => ?_)
  ·
   replace hb2 := nb_tt hb2
   have hk1 : k < xs.length := by omega
   obtain ⟨g2, o2, rfl, hp2, cc20⟩ := hAl0.cell hk1
   have cc2 := cc20.grow G
   refine wp_skip ?_
   refine th_n (hK7 _ _ ?_)
   clear hK7 K7
   refine wp_seq_k fun K9 hK9 => ?_
   refine wp_block ?_
   refine wp_seq_k fun K10 hK10 => ?_
   refine D_start 12 29 (fun w => Mod (No) w) follows rfl rfl ?_
   intro w7 g7
   replace hAl := hAl.grow g7
   replace cc2 := cc2.grow g7
   replace OK1 := OK1.grow g7
   replace hKA := hKA.grow g7
   replace hKB := hKB.grow g7
   replace G := G.grow g7
   replace GL6 := GL6.grow g7
   replace B1 := B1.grow g7
   replace B4 := B4.grow g7
   have zg7 := g7.size
   have GS7 := Mod.refl (No) w7
   have B4d7 := B4
   refine Dq (i := 0) rfl GS7 (fun _ hs => Y_loadS U26 rfl sz26 rfl (by first | exact hs.cells0 (B4.row (by rfl)))) ?_
   refine Dq (i := 1) rfl GS7 (fun _ _ => Y_move rfl) ?_
   refine Dq (i := 2) rfl GS7 (fun _ _ => Y_move rfl) ?_
   refine Dq (i := 3) rfl GS7 (fun _ _ => Y_index U78 sz104 rfl rfl (by first | assumption | omega)) ?_
   refine Dq (i := 4) rfl GS7 (fun _ hs => Y_loadS U104 rfl sz104 rfl (by first | exact hs.cells0 (by assumption) | exact hs.cells0 (B1.row (by rfl)) | exact hs.cells0 (B4.row (by rfl)))) ?_
   refine D_2 (i := 5) (j := 9) (by kernel_rfl) ?_ ?_
   ·
    refine E_call rfl rfl en79 (spec_StepHeap_c _ _ _ hK _ _ _ _ _ _ _ hKA hKB vK (cvB_d0 (hall k hk1))) ?_
    rintro v8 w8 ⟨A8, B8, n18, c18, n28, c28, rs8, h8, ok8, rfl, hn18, hn28, va8, O8, g8⟩
    replace hAl := hAl.grow g8
    replace cc2 := cc2.grow g8
    replace OK1 := OK1.grow g8
    replace hKA := hKA.grow g8
    replace hKB := hKB.grow g8
    replace G := G.grow g8
    replace GL6 := GL6.grow g8
    replace GS7 := GS7.grow g8
    replace B1 := B1.grow g8
    replace B4 := B4.grow g8
    have zg8 := g8.size
    obtain ⟨hN, rfl⟩ : ∃ x, x = h8 := ⟨_, rfl⟩
    have vN := va8
    subst hn18
    subst hn28
    obtain ⟨AN, rfl⟩ : ∃ x, x = A8 := ⟨_, rfl⟩
    obtain ⟨BN, rfl⟩ : ∃ x, x = B8 := ⟨_, rfl⟩
    obtain ⟨cN, rfl⟩ : ∃ x, x = c18 := ⟨_, rfl⟩
    obtain ⟨dN, rfl⟩ : ∃ x, x = c28 := ⟨_, rfl⟩
    obtain ⟨rsN, rfl⟩ : ∃ x, x = rs8 := ⟨_, rfl⟩
    have ON := O8.lt
    refine ⟨GS7, ?_⟩
    refine Dq (i := 6) rfl GS7 (fun _ _ => Y_move rfl) ?_
    refine Dq (i := 7) rfl GS7 (fun _ _ => Y_extract rfl rfl) ?_
    refine Dq (i := 8) rfl GS7 (fun _ _ => Y_extract rfl rfl) ?_
    refine D_1 (i := 9) (by kernel_rfl) ?_
    refine E_alloc (cs := [_, _]) rfl zr26 rfl (fun b9 w9 fb9 g9 B9 => ⟨GS7.grow g9, ?_⟩)
    have lb9 := B9.lt
    replace hAl := hAl.grow g9
    replace cc2 := cc2.grow g9
    replace OK1 := OK1.grow g9
    replace hKA := hKA.grow g9
    replace hKB := hKB.grow g9
    replace ON := ON.grow g9
    replace G := G.grow g9
    replace GL6 := GL6.grow g9
    replace GS7 := GS7.grow g9
    replace B1 := B1.grow g9
    replace B4 := B4.grow g9
    have zg9 := g9.size
    refine D_1 (i := 10) (by kernel_rfl) ?_
    refine E_stM (pre := []) (old := [_, _]) (post := []) (vs := [_, _]) (i := 10) rfl sz26 rfl rfl rfl (by first | rfl | assumption) B9 rfl rfl ?_
    intro w10 m10 X10
    replace B9 := Blk.eq (ys := [_, _]) X10 rfl
    clear X10
    replace G := G.abv m10
    first | replace GL6 := GL6.abv m10 | try clear GL6
    replace GS7 := GS7.abv m10
    replace hAl := hAl0.grow G
    replace cc2 := cc20.grow G
    replace OK1 := OK1.md m10
    replace hKA := hKA.md m10
    replace hKB := hKB.md m10
    replace ON := ON.md m10
    replace B1 := B1.md m10
    replace B4 := B4.md m10
    have zm10 := m10.size
    refine ⟨GS7, ?_⟩
    refine Dq (i := 11) rfl GS7 (fun _ _ => Y_assign rfl) ?_
    refine D_en (by kernel_rfl) rfl rfl ?_
    refine th_n (hK10 _ _ ?_)
    clear hK10 K10
    refine Sb 29 rfl ?_
    refine S_val (Y_loadS U26 rfl sz26 rfl (B9.row (by rfl))) ?_
    refine S_stM (pre := []) (old := [_, _]) (post := []) (vs := [_, _]) sz26 rfl rfl rfl (by first | rfl | assumption) B4 rfl rfl ?_
    intro w11 m11 X11
    replace B4 := Blk.eq (ys := [_, _]) X11 rfl
    clear X11
    replace G := G.abv m11
    replace GL6 := GL6.trn m11
    replace hAl := hAl0.grow G
    replace cc2 := cc20.grow G
    replace OK1 := OK1.md m11
    replace hKA := hKA.md m11
    replace hKB := hKB.md m11
    replace ON := ON.md m11
    replace B1 := B1.md m11
    replace B9 := B9.md m11
    have zm11 := m11.size
    refine S_nl rfl rfl ?_
    refine ib_n ?_
    refine th_n (hK9 _ _ ?_)
    clear hK9 K9
    refine Sb 29 rfl ?_
    refine Smv rfl ?_
    refine S_val (Y_inc rfl rfl (by omega)) ?_
    refine Sas rfl ?_
    refine S_nl rfl rfl ?_
    refine th_n ?_
    go_roundw
    case rel =>
     refine ⟨?_, GL6⟩
     exact ⟨k + 1, hN, _, _, _, _, _, rfl, by omega, B4, vN, ON.weak (fun i hi => by first | omega | (dsimp only at hi; omega))⟩
    case measure =>
     exact dec_nat (by omega)
   refine E_alloc (cs := [_, _]) rfl zr26 rfl (fun b12 w12 fb12 g12 B12 => ⟨GS7.grow g12, ?_⟩)
   have lb12 := B12.lt
   replace hAl := hAl.grow g12
   replace cc2 := cc2.grow g12
   replace OK1 := OK1.grow g12
   replace hKA := hKA.grow g12
   replace hKB := hKB.grow g12
   replace G := G.grow g12
   replace GL6 := GL6.grow g12
   replace GS7 := GS7.grow g12
   replace B1 := B1.grow g12
   replace B4 := B4.grow g12
   have zg12 := g12.size
   refine D_1 (i := 5) (by kernel_rfl) ?_
   refine E_call rfl rfl en79 (spec_StepHeap_c _ _ _ hK _ _ _ _ _ _ _ hKA hKB vK (cvB_d0 (hall k hk1))) ?_
   rintro v13 w13 ⟨A13, B13, n113, c113, n213, c213, rs13, h13, ok13, rfl, hn113, hn213, va13, O13, g13⟩
   replace hAl := hAl.grow g13
   replace cc2 := cc2.grow g13
   replace OK1 := OK1.grow g13
   replace hKA := hKA.grow g13
   replace hKB := hKB.grow g13
   replace G := G.grow g13
   replace GL6 := GL6.grow g13
   replace GS7 := GS7.grow g13
   replace B1 := B1.grow g13
   replace B4 := B4.grow g13
   replace B12 := B12.grow g13
   have zg13 := g13.size
   obtain ⟨hN, rfl⟩ : ∃ x, x = h13 := ⟨_, rfl⟩
   have vN := va13
   subst hn113
   subst hn213
   obtain ⟨AN, rfl⟩ : ∃ x, x = A13 := ⟨_, rfl⟩
   obtain ⟨BN, rfl⟩ : ∃ x, x = B13 := ⟨_, rfl⟩
   obtain ⟨cN, rfl⟩ : ∃ x, x = c113 := ⟨_, rfl⟩
   obtain ⟨dN, rfl⟩ : ∃ x, x = c213 := ⟨_, rfl⟩
   obtain ⟨rsN, rfl⟩ : ∃ x, x = rs13 := ⟨_, rfl⟩
   have ON := O13.lt
   refine ⟨GS7, ?_⟩
   refine Dq (i := 6) rfl GS7 (fun _ _ => Y_move rfl) ?_
   refine Dq (i := 7) rfl GS7 (fun _ _ => Y_extract rfl rfl) ?_
   refine Dq (i := 8) rfl GS7 (fun _ _ => Y_extract rfl rfl) ?_
   refine D_1 (i := 10) (by kernel_rfl) ?_
   refine E_stM (pre := []) (old := [_, _]) (post := []) (vs := [_, _]) (i := 10) rfl sz26 rfl rfl rfl (by first | rfl | assumption) B12 rfl rfl ?_
   intro w14 m14 X14
   replace B12 := Blk.eq (ys := [_, _]) X14 rfl
   clear X14
   replace G := G.abv m14
   first | replace GL6 := GL6.abv m14 | try clear GL6
   replace GS7 := GS7.abv m14
   replace hAl := hAl0.grow G
   replace cc2 := cc20.grow G
   replace OK1 := OK1.md m14
   replace hKA := hKA.md m14
   replace hKB := hKB.md m14
   replace ON := ON.md m14
   replace B1 := B1.md m14
   replace B4 := B4.md m14
   have zm14 := m14.size
   refine ⟨GS7, ?_⟩
   refine Dq (i := 11) rfl GS7 (fun _ _ => Y_assign rfl) ?_
   refine D_en (by kernel_rfl) rfl rfl ?_
   refine th_n (hK10 _ _ ?_)
   clear hK10 K10
   refine Sb 29 rfl ?_
   refine S_val (Y_loadS U26 rfl sz26 rfl (B12.row (by rfl))) ?_
   refine S_stM (pre := []) (old := [_, _]) (post := []) (vs := [_, _]) sz26 rfl rfl rfl (by first | rfl | assumption) B4 rfl rfl ?_
   intro w15 m15 X15
   replace B4 := Blk.eq (ys := [_, _]) X15 rfl
   clear X15
   replace G := G.abv m15
   replace GL6 := GL6.trn m15
   replace hAl := hAl0.grow G
   replace cc2 := cc20.grow G
   replace OK1 := OK1.md m15
   replace hKA := hKA.md m15
   replace hKB := hKB.md m15
   replace ON := ON.md m15
   replace B1 := B1.md m15
   replace B12 := B12.md m15
   have zm15 := m15.size
   refine S_nl rfl rfl ?_
   refine ib_n ?_
   refine th_n (hK9 _ _ ?_)
   clear hK9 K9
   refine Sb 29 rfl ?_
   refine Smv rfl ?_
   refine S_val (Y_inc rfl rfl (by omega)) ?_
   refine Sas rfl ?_
   refine S_nl rfl rfl ?_
   refine th_n ?_
   go_roundw
   case rel =>
    refine ⟨?_, GL6⟩
    exact ⟨k + 1, hN, _, _, _, _, _, rfl, by omega, B4, vN, ON.weak (fun i hi => by first | omega | (dsimp only at hi; omega))⟩
   case measure =>
    exact dec_nat (by omega)
  replace hb2 := nb_tf hb2
  refine wp_exit ?_
  refine th_x ?_
  try clear GL6
  refine th_x ?_
  refine ib_e ?_
  refine th_n (hK5 _ _ ?_)
  clear hK7 K7 hK5 K5
  refine wp_seq_k fun K11 hK11 => ?_
  refine Sb 29 rfl ?_
  refine S_val (Y_loadS U26 rfl sz26 rfl (B4.row (by rfl))) ?_
  refine S_stM (pre := []) (old := [_, _]) (post := []) (vs := [_, _]) sz26 rfl rfl rfl (by first | rfl | assumption) B1 rfl rfl ?_
  intro w16 m16 X16
  replace B1 := Blk.eq (ys := [_, _]) X16 rfl
  clear X16
  replace G := G.abv m16
  replace hAl := hAl0.grow G
  replace OK1 := OK1.md m16
  replace hKA := hKA.md m16
  replace hKB := hKB.md m16
  replace B4 := B4.md m16
  have zm16 := m16.size
  refine S_nl rfl rfl ?_
  refine th_n (hK11 _ _ ?_)
  clear hK11 K11
  refine wp_ret ?_
  refine ret_rc (cs := [_, _]) U26 rfl sz26 rfl rfl (B1.row (by rfl)) ?_
  exact ⟨_, _, _, _, _, _, _, _, rfl, rfl, rfl, vK, OK1.weak (fun i hi => by first | omega | (dsimp only at hi; omega)), G⟩
set_option maxHeartbeats 400000 in
set_option maxRecDepth 20000 in
theorem spec_l11Drop2_c (Pr P2 : Nat → Prop) (A B C : Option Addr) (h : LH) (ds : List Bool) (c d e : Nat) (w : World) (hA : RC Pr w A h.cells) (hB : R1 Pr w B (ints h.roots)) (hC : R1 P2 w C (bools ds)) (hz : hsize h ≤ 1048576) (hdl : ds.length ≤ h.cells.length) :
    Calls Try.prog 27 #[.agg #[.slice A h.cells.length c, .slice B h.roots.length d], .slice C ds.length e] w (Ret fun v w' => ∃ A1 B1 n1 c1 n2 c2 rs, v = .agg #[.slice A1 n1 c1, .slice B1 n2 c2] ∧ n1 = (dropH h (inB ds)).cells.length ∧ n2 = (dropH h (inB ds)).roots.length ∧ XH (fun i => w.heap.size ≤ i) w' 50 3 A1 B1 (dropH h (inB ds)) rs c1 c2 ∧ Grow w w') := by
 have hz1 := hsize_cells h
 have hz2 := hsize_roots h
 have hne : (50 : TypeId) ≠ 3 := by decide
 have hAl := hA.below
 have hBl := hB.below
 have hCl := hC.below
 refine enter Try.func27 rfl Try.ntmps27 (L := [_,_,_,_,_,_,_,_,_,_,_,_,_,_,_,_,_,_,_,_,_,_,_,_,_]) rfl ?_
 have G := Mod.refl No w
 have hAl0 := hAl
 have hBl0 := hBl
 have hCl0 := hCl
 refine wp_seq_k fun K1 hK1 => ?_
 refine Sb 25 rfl ?_
 refine S_box (cs := [_, _]) rfl rfl ?_
 intro b1 w1 fb1 g1 B1
 have lb1 := B1.lt
 replace hAl := hAl.grow g1
 replace hBl := hBl.grow g1
 replace hCl := hCl.grow g1
 replace G := G.grow g1
 have zg1 := g1.size
 refine S_alloc (cs := [_, _]) zr26 rfl ?_
 intro b2 w2 fb2 g2 B2
 have lb2 := B2.lt
 replace hAl := hAl.grow g2
 replace hBl := hBl.grow g2
 replace hCl := hCl.grow g2
 replace G := G.grow g2
 replace B1 := B1.grow g2
 have zg2 := g2.size
 refine S_nl rfl rfl ?_
 refine th_n (hK1 _ _ ?_)
 clear hK1 K1
 refine wp_seq_k fun K2 hK2 => ?_
 refine Sb 25 rfl ?_
 refine S_val (Y_loadS U26 rfl sz26 rfl (B1.row (by rfl))) ?_
 refine S_call rfl en25 (spec_l7Copy2_c _ _ _ _ _ _ _ (by assumption) (by assumption) (by omega)) ?_
 rintro v3 w3 ⟨A3, B3, n13, c13, n23, c23, rs3, rfl, hn13, hn23, O3, g3⟩
 replace hAl := hAl.grow g3
 replace hBl := hBl.grow g3
 replace hCl := hCl.grow g3
 replace G := G.grow g3
 replace B1 := B1.grow g3
 replace B2 := B2.grow g3
 have zg3 := g3.size
 subst hn13
 subst hn23
 obtain ⟨AH, rfl⟩ : ∃ x, x = A3 := ⟨_, rfl⟩
 obtain ⟨BH, rfl⟩ : ∃ x, x = B3 := ⟨_, rfl⟩
 obtain ⟨cH, rfl⟩ : ∃ x, x = c13 := ⟨_, rfl⟩
 obtain ⟨dH, rfl⟩ : ∃ x, x = c23 := ⟨_, rfl⟩
 obtain ⟨rsH, rfl⟩ : ∃ x, x = rs3 := ⟨_, rfl⟩
 have OX := O3.lt
 refine S_alloc (cs := [_, _]) zr26 rfl ?_
 intro b4 w4 fb4 g4 B4
 have lb4 := B4.lt
 replace hAl := hAl.grow g4
 replace hBl := hBl.grow g4
 replace hCl := hCl.grow g4
 replace OX := OX.grow g4
 replace G := G.grow g4
 replace B1 := B1.grow g4
 replace B2 := B2.grow g4
 have zg4 := g4.size
 refine S_stM (pre := []) (old := [_, _]) (post := []) (vs := [_, _]) sz26 rfl rfl rfl (by first | rfl | assumption) B4 rfl rfl ?_
 intro w5 m5 X5
 replace B4 := Blk.eq (ys := [_, _]) X5 rfl
 clear X5
 replace G := G.abv m5
 replace hAl := hAl0.grow G
 replace hBl := hBl0.grow G
 replace hCl := hCl0.grow G
 replace OX := OX.md m5
 replace B1 := B1.md m5
 replace B2 := B2.md m5
 have zm5 := m5.size
 refine S_nl rfl rfl ?_
 refine th_n (hK2 _ _ ?_)
 clear hK2 K2
 refine wp_seq_k fun K3 hK3 => ?_
 refine wp_seq_k fun K4 hK4 => ?_
 refine Sb 25 rfl ?_
 refine Sas rfl ?_
 refine S_nl rfl rfl ?_
 refine th_n (hK4 _ _ ?_)
 clear hK4 K4
 refine wp_block ?_
 replace OX := OX.weak (Pr' := fun i => b2 < i ∧ i < b4) (fun i hi => by first | omega | (dsimp only at hi; omega))
 go_loopw [6] (fun u6 wr => (∃ (k : Nat) (rs1 : List (Option Addr × Nat)), u6 = .int .i64 k ∧ k ≤ ds.length ∧ XH (fun i => b2 < i ∧ i < b4) wr 50 3 AH BH ⟨dropK h.cells (inB ds) k, h.roots⟩ rs1 cH dH) ∧ Mod (fun i => b2 < i ∧ i < b4) w5 wr) (fun u6 wr => ds.length - (intOf u6).toNat)
 case atStart =>
  refine ⟨?_, Mod.refl _ _⟩
  exact ⟨0, rsH, rfl, by omega, OX.cast (by rw [dropK_zero])⟩
 case round =>
  obtain ⟨w6, rfl⟩ : ∃ x : World, x = wr := ⟨_, rfl⟩
  obtain ⟨hrel, g6⟩ := hrel
  clear OX
  replace G := G.abv g6
  replace hAl := hAl0.grow G
  replace hBl := hBl0.grow G
  replace hCl := hCl0.grow G
  replace B1 := B1.md g6
  replace B2 := B2.md g6
  replace B4 := B4.md g6
  have zg6 := g6.size
  obtain ⟨k, rs1, rfl, hk, OX⟩ := hrel
  have GL6 := g6
  refine wp_seq_k fun K5 hK5 => ?_
  refine wp_seq_k fun K6 hK6 => ?_
  refine Sb 25 rfl ?_
  refine Smv rfl ?_
  refine Smv rfl ?_
  refine S_val (Y_len U40 rfl) ?_
  refine S_val (Y_lss rfl rfl) ?_
  refine S_nl rfl rfl ?_
  refine th_n (hK6 _ _ ?_)
  clear hK6 K6
  refine S_if rfl (fun hb1 => ?_) (fun hb1 => ?_)
  ·
   replace hb1 := nb_tt hb1
   have hk2 : k < ds.length := by omega
   have hk1 : k < h.cells.length := by omega
   obtain ⟨g3, o3, rfl, hp3, hc3⟩ := hCl.bool hk2
   have hkl : k < (dropK h.cells (inB ds) k).length := by rw [dropK_len]; exact hk1
   obtain ⟨gC, RX, capX, rfl, hpC, _, ccx, _, _⟩ := OX.cellAt hne (i := k) hkl
   refine wp_skip ?_
   refine th_n (hK5 _ _ ?_)
   clear hK5 K5
   refine wp_seq_k fun K7 hK7 => ?_
   refine wp_block ?_
   refine wp_seq_k fun K8 hK8 => ?_
   refine Sb 25 rfl ?_
   refine Smv rfl ?_
   refine Smv rfl ?_
   refine S_val (Y_index U40 sz4 rfl rfl (by first | assumption | omega)) ?_
   refine S_val (Y_load U4 rfl rfl (by first | assumption | exact ccx.at (by rfl) | exact B1.at (by rfl) | exact B2.at (by rfl) | exact B4.at (by rfl))) ?_
   refine S_nl rfl rfl ?_
   refine th_n (hK8 _ _ ?_)
   clear hK8 K8
   refine S_if rfl (fun hb2 => ?_) (fun hb2 => ?_)
   ·
    first | with_reducible (replace hb2 := nb_nt hb2) | with_reducible (replace hb2 := nb_tt hb2) | with_reducible (replace hb2 := nb_bt hb2) | skip
    have hpk : inB ds k = true := by rw [inB_at hk2]; exact hb2
    refine Sb 25 rfl ?_
    refine S_val (Y_field U26 rfl fz26_0 (by decide) rfl) ?_
    refine S_val (Y_load U23 rfl rfl (B4.at (by rfl))) ?_
    refine Smv rfl ?_
    refine S_val (Y_build (cs := [_, _, _]) zr50 pc50 rfl rfl) ?_
    refine S_val (Y_index U23 sz50 rfl rfl (by first | assumption | omega)) ?_
    refine S_of (Ys_cell (z := emptyC) (R := none) (PR := No) sz50 OX hne (i := k) hkl (OI.nil _ _ _ _) (fun i hi => hi.elim) rfl rfl) ?_
    rintro w7 ⟨m7, hp7, OY⟩
    replace OY := OY.weak (Pr' := (fun i => b2 < i ∧ i < b4)) (fun i hi => hi.elim (fun h9 => h9) (fun h9 => h9.elim))
    replace OY := OY.cast (h2 := ⟨dropK h.cells (inB ds) (k + 1), h.roots⟩) (by rw [← dropK_yes hk1 hpk])
    replace G := G.abv m7
    replace GL6 := GL6.trn m7
    replace hAl := hAl0.grow G
    replace hBl := hBl0.grow G
    replace hCl := hCl0.grow G
    replace B1 := B1.md m7
    replace B2 := B2.md m7
    replace B4 := B4.md m7
    have zm7 := m7.size
    refine S_nl rfl rfl ?_
    refine ib_n ?_
    refine th_n (hK7 _ _ ?_)
    clear hK7 K7
    refine Sb 25 rfl ?_
    refine Smv rfl ?_
    refine S_val (Y_inc rfl rfl (by omega)) ?_
    refine Sas rfl ?_
    refine S_nl rfl rfl ?_
    refine th_n ?_
    go_roundw
    case rel =>
     refine ⟨?_, GL6⟩
     first | exact ⟨k + 1, _, rfl, by omega, OY⟩ | exact ⟨k + 1, rs1, rfl, by omega, OX.cast (by rw [dropK_no hpk])⟩
    case measure =>
     exact dec_nat (by omega)
   first | with_reducible (replace hb2 := nb_nf hb2) | with_reducible (replace hb2 := nb_tf hb2) | with_reducible (replace hb2 := nb_bf hb2) | skip
   have hpk : inB ds k = false := by rw [inB_at hk2]; exact hb2
   refine wp_skip ?_
   refine ib_n ?_
   refine th_n (hK7 _ _ ?_)
   clear hK7 K7
   refine Sb 25 rfl ?_
   refine Smv rfl ?_
   refine S_val (Y_inc rfl rfl (by omega)) ?_
   refine Sas rfl ?_
   refine S_nl rfl rfl ?_
   refine th_n ?_
   go_roundw
   case rel =>
    refine ⟨?_, GL6⟩
    first | exact ⟨k + 1, _, rfl, by omega, OY⟩ | exact ⟨k + 1, rs1, rfl, by omega, OX.cast (by rw [dropK_no hpk])⟩
   case measure =>
    exact dec_nat (by omega)
  replace hb1 := nb_tf hb1
  refine wp_exit ?_
  refine th_x ?_
  try clear GL6
  refine th_x ?_
  refine ib_e ?_
  refine th_n (hK3 _ _ ?_)
  clear hK5 K5 hK3 K3
  refine wp_seq_k fun K9 hK9 => ?_
  refine Sb 25 rfl ?_
  refine S_val (Y_loadS U26 rfl sz26 rfl (B4.row (by rfl))) ?_
  refine S_stM (pre := []) (old := [_, _]) (post := []) (vs := [_, _]) sz26 rfl rfl rfl (by first | rfl | assumption) B2 rfl rfl ?_
  intro w8 m8 X8
  replace B2 := Blk.eq (ys := [_, _]) X8 rfl
  clear X8
  replace G := G.abv m8
  replace hAl := hAl0.grow G
  replace hBl := hBl0.grow G
  replace hCl := hCl0.grow G
  replace OX := OX.md m8
  replace B1 := B1.md m8
  replace B4 := B4.md m8
  have zm8 := m8.size
  refine S_nl rfl rfl ?_
  refine th_n (hK9 _ _ ?_)
  clear hK9 K9
  refine wp_ret ?_
  refine ret_rc (cs := [_, _]) U26 rfl sz26 rfl rfl (B2.row (by rfl)) ?_
  have hde : dropK h.cells (inB ds) k = dropC h.cells (inB ds) := dropC_ext (fun i hi => by
    by_cases hik : i < k
    · simp [hik]
    · have : inB ds i = false := by unfold inB; rw [List.getElem?_eq_none (by omega)]; rfl
      simp [this])
  exact ⟨_, _, _, _, _, _, rs1, rfl, (dropC_len _ _).symm, rfl, (OX.cast (h2 := dropH h (inB ds)) (by unfold dropH; rw [hde])).weak (fun i hi => by first | omega | (dsimp only at hi; omega)), G⟩
set_option maxHeartbeats 400000 in
set_option maxRecDepth 20000 in
theorem spec_SweepCells2_c (Pr P2 : Nat → Prop) (A B C : Option Addr) (h : LH) (ms : List Bool) (c d e : Nat) (w : World) (hA : RC Pr w A h.cells) (hB : R1 Pr w B (ints h.roots)) (hC : R1 P2 w C (bools ms)) (hz : hsize h ≤ 1048576) (hmz : ms.length ≤ 1048576) :
    Calls Try.prog 80 #[.agg #[.slice A h.cells.length c, .slice B h.roots.length d], .slice C ms.length e] w (Ret fun v w' => ∃ A1 B1 n1 c1 n2 c2 rs, v = .tuple #[.agg #[.slice A1 n1 c1, .slice B1 n2 c2], .int .i64 (sweepV h ms).2] ∧ n1 = (sweepV h ms).1.cells.length ∧ n2 = (sweepV h ms).1.roots.length ∧ XH (fun i => w.heap.size ≤ i) w' 50 3 A1 B1 (sweepV h ms).1 rs c1 c2 ∧ Grow w w') := by
 have hz1 := hsize_cells h
 have hz2 := hsize_roots h
 have hne : (50 : TypeId) ≠ 3 := by decide
 refine enter Try.func80 rfl Try.ntmps80 (L := [_,_,_,_,_,_,_,_,_,_,_,_,_,_,_,_,_,_,_,_,_,_,_,_,_,_,_,_,_,_,_,_,_,_,_,_,_,_,_,_,_,_,_,_,_,_,_,_,_,_,_,_,_,_,_,_,_,_,_,_,_]) rfl ?_
 have G := Mod.refl No w
 have hA0 := hA
 have hB0 := hB
 have hC0 := hC
 refine wp_seq_k fun K1 hK1 => ?_
 refine Sb 61 rfl ?_
 refine S_box (cs := [_, _]) rfl rfl ?_
 intro b1 w1 fb1 g1 B1
 have lb1 := B1.lt
 replace hA := hA.grow g1
 replace hB := hB.grow g1
 replace hC := hC.grow g1
 replace G := G.grow g1
 have zg1 := g1.size
 refine S_alloc (cs := [_, _]) zr26 rfl ?_
 intro b2 w2 fb2 g2 B2
 have lb2 := B2.lt
 replace hA := hA.grow g2
 replace hB := hB.grow g2
 replace hC := hC.grow g2
 replace G := G.grow g2
 replace B1 := B1.grow g2
 have zg2 := g2.size
 refine Sas rfl ?_
 refine S_nl rfl rfl ?_
 refine th_n (hK1 _ _ ?_)
 clear hK1 K1
 refine wp_seq_k fun K2 hK2 => ?_
 refine wp_seq_k fun K3 hK3 => ?_
 refine Sb 61 rfl ?_
 refine S_val (Y_loadS U26 rfl sz26 rfl (B1.row (by rfl))) ?_
 refine S_call rfl en44 (spec_HeapValid_c _ _ _ _ _ _ _ (by assumption) (by assumption) (by omega)) ?_
 rintro v3 w3 ⟨rfl, g3⟩
 replace hA := hA.grow g3
 replace hB := hB.grow g3
 replace hC := hC.grow g3
 replace G := G.grow g3
 replace B1 := B1.grow g3
 replace B2 := B2.grow g3
 have zg3 := g3.size
 refine S_val (Y_not rfl) ?_
 refine Smv rfl ?_
 refine S_g 13 rfl (fun hb1 => ?_) (fun hb1 => ?_)
 ·
  first | with_reducible (replace hb1 := nb_nt hb1) | with_reducible (replace hb1 := nb_tt hb1) | with_reducible (replace hb1 := nb_bt hb1) | skip
  refine S_off rfl rfl ?_
  refine S_off rfl rfl ?_
  refine S_off rfl rfl ?_
  refine S_off rfl rfl ?_
  refine S_off rfl rfl ?_
  refine S_off rfl rfl ?_
  refine S_val (Y_pickT rfl rfl) ?_
  refine S_nl rfl rfl ?_
  refine th_n (hK3 _ _ ?_)
  clear hK3 K3
  refine S_ifT rfl ?_
  refine wp_seq_k fun K4 hK4 => ?_
  refine Sb 61 rfl ?_
  refine S_val (Y_build (cs := [_, _]) zr26 pc26 rfl rfl) ?_
  refine S_stM (pre := []) (old := [_, _]) (post := []) (vs := [_, _]) sz26 rfl rfl rfl (by first | rfl | assumption) B2 rfl rfl ?_
  intro w4 m4 X4
  replace B2 := Blk.eq (ys := [_, _]) X4 rfl
  clear X4
  replace G := G.abv m4
  replace hA := hA0.grow G
  replace hB := hB0.grow G
  replace hC := hC0.grow G
  replace B1 := B1.md m4
  have zm4 := m4.size
  refine Sas rfl ?_
  refine S_nl rfl rfl ?_
  refine th_n (hK4 _ _ ?_)
  clear hK4 K4
  refine wp_ret ?_
  refine th_r ?_
  clear hK2 K2
  refine ret_rct (cs := [_, _]) U26 rfl sz26 rfl rfl rfl (B2.row (by rfl)) ?_
  have hsv := sweepV_f1 (ms := ms) hb1
  exact ⟨_, _, _, _, _, _, [], by rw [hsv], by rw [hsv]; rfl, by rw [hsv]; rfl, by rw [hsv]; exact XH.nil _ _ _ _, G⟩
 first | with_reducible (replace hb1 := nb_nf hb1) | with_reducible (replace hb1 := nb_tf hb1) | with_reducible (replace hb1 := nb_bf hb1) | skip
 have va := valid_iff.1 hb1
 have hl := va.leads
 have h40 := va.le
 have hr4 := va.roots4
 refine S_on rfl rfl ?_
 refine Smv rfl ?_
 refine S_on rfl rfl ?_
 refine S_val (Y_len U40 rfl) ?_
 refine S_on rfl rfl ?_
 refine S_val (Y_field U26 rfl fz26_0 (by decide) rfl) ?_
 refine S_on rfl rfl ?_
 refine S_val (Y_load U23 rfl rfl (B1.at (by rfl))) ?_
 refine S_on rfl rfl ?_
 refine S_val (Y_len U23 rfl) ?_
 refine S_on rfl rfl ?_
 refine S_val (Y_neq rfl rfl) ?_
 refine S_val (Y_pickF rfl rfl) ?_
 refine S_nl rfl rfl ?_
 refine th_n (hK3 _ _ ?_)
 clear hK3 K3
 refine S_if rfl (fun hb2 => ?_) (fun hb2 => ?_)
 ·
  first | with_reducible (replace hb2 := nb_nt hb2) | with_reducible (replace hb2 := nb_tt hb2) | with_reducible (replace hb2 := nb_bt hb2) | skip
  refine wp_seq_k fun K5 hK5 => ?_
  refine Sb 61 rfl ?_
  refine S_val (Y_build (cs := [_, _]) zr26 pc26 rfl rfl) ?_
  refine S_stM (pre := []) (old := [_, _]) (post := []) (vs := [_, _]) sz26 rfl rfl rfl (by first | rfl | assumption) B2 rfl rfl ?_
  intro w5 m5 X5
  replace B2 := Blk.eq (ys := [_, _]) X5 rfl
  clear X5
  replace G := G.abv m5
  replace hA := hA0.grow G
  replace hB := hB0.grow G
  replace hC := hC0.grow G
  replace B1 := B1.md m5
  have zm5 := m5.size
  refine Sas rfl ?_
  refine S_nl rfl rfl ?_
  refine th_n (hK5 _ _ ?_)
  clear hK5 K5
  refine wp_ret ?_
  refine th_r ?_
  clear hK2 K2
  refine ret_rct (cs := [_, _]) U26 rfl sz26 rfl rfl rfl (B2.row (by rfl)) ?_
  have hsv := sweepV_f2 (h := h) (ms := ms) (by omega)
  exact ⟨_, _, _, _, _, _, [], by rw [hsv], by rw [hsv]; rfl, by rw [hsv]; rfl, by rw [hsv]; exact XH.nil _ _ _ _, G⟩
 first | with_reducible (replace hb2 := nb_nf hb2) | with_reducible (replace hb2 := nb_tf hb2) | with_reducible (replace hb2 := nb_bf hb2) | skip
 have hlen : ms.length = h.cells.length := by omega
 refine wp_skip ?_
 refine th_n (hK2 _ _ ?_)
 clear hK2 K2
 refine wp_seq_k fun K6 hK6 => ?_
 refine Sb 61 rfl ?_
 refine S_bs0 U40 sz4 ?_
 intro b6 w6 fb6 g6 B6
 have lb6 := B6.lt
 replace hA := hA.grow g6
 replace hB := hB.grow g6
 replace hC := hC.grow g6
 replace G := G.grow g6
 replace B1 := B1.grow g6
 replace B2 := B2.grow g6
 have zg6 := g6.size
 refine Sas rfl ?_
 refine S_nl rfl rfl ?_
 refine th_n (hK6 _ _ ?_)
 clear hK6 K6
 refine wp_seq_k fun K7 hK7 => ?_
 refine Sb 61 rfl ?_
 refine Sas rfl ?_
 refine S_nl rfl rfl ?_
 refine th_n (hK7 _ _ ?_)
 clear hK7 K7
 refine wp_seq_k fun K8 hK8 => ?_
 refine wp_seq_k fun K9 hK9 => ?_
 refine Sb 61 rfl ?_
 refine Sas rfl ?_
 refine S_nl rfl rfl ?_
 refine th_n (hK9 _ _ ?_)
 clear hK9 K9
 refine wp_block ?_
 obtain ⟨wz, hwz⟩ : ∃ x, x = w6.heap.size := ⟨_, rfl⟩
 have O1 : OW (fun i => i = b6 ∨ wz ≤ i) w6 4 1 (some ⟨b6, 0, none⟩) 0 0 (bools []) := OW.of_blk B6 rfl (by decide) (.inl rfl)
 go_loopw [6, 7, 8] (fun u6 u7 u8 wr => (∃ (k cap : Nat) (A1 : Option Addr), u8 = .int .i64 k ∧ u7 = .int .i64 ((cntP (sweepN h ms) k : Nat) : Int) ∧ u6 = .slice A1 k cap ∧ k ≤ ms.length ∧ OW (fun i => i = b6 ∨ wz ≤ i) wr 4 1 A1 k cap (bools ((ms.take k).map (fun b => !b)))) ∧ Mod (fun i => i = b6 ∨ wz ≤ i) w6 wr) (fun u6 u7 u8 wr => ms.length - (intOf u8).toNat)
 case atStart =>
  refine ⟨?_, Mod.refl _ _⟩
  exact ⟨0, 0, _, rfl, rfl, rfl, by omega, O1⟩
 case round =>
  obtain ⟨w7, rfl⟩ : ∃ x : World, x = wr := ⟨_, rfl⟩
  obtain ⟨hrel, g7⟩ := hrel
  clear O1
  replace G := G.abv g7
  replace hA := hA0.grow G
  replace hB := hB0.grow G
  replace hC := hC0.grow G
  replace B1 := B1.md g7
  replace B2 := B2.md g7
  have zg7 := g7.size
  obtain ⟨k, cap1, A1, rfl, rfl, rfl, hk, O1⟩ := hrel
  have hcl := cntP_le (sweepN h ms) k
  have GL7 := g7
  refine wp_seq_k fun K10 hK10 => ?_
  refine wp_seq_k fun K11 hK11 => ?_
  refine Sb 61 rfl ?_
  refine Smv rfl ?_
  refine Smv rfl ?_
  refine S_val (Y_len U40 rfl) ?_
  refine S_val (Y_lss rfl rfl) ?_
  refine S_nl rfl rfl ?_
  refine th_n (hK11 _ _ ?_)
  clear hK11 K11
  refine S_if rfl (fun hb3 => ?_) (fun hb3 => ?_)
  ·
   replace hb3 := nb_tt hb3
   have hk1 : k < ms.length := by omega
   have hk2 : k < h.cells.length := by omega
   obtain ⟨g3, o3, rfl, hp3, hc3⟩ := hC.bool hk1
   obtain ⟨g2, o2, E2, d2, rfl, hp2, cc20, hE20⟩ := hA0.cell hk2
   have cc2 := cc20.grow G
   have hE2 := hE20.grow G
   have htk := List.take_succ_eq_append_getElem hk1
   refine wp_skip ?_
   refine th_n (hK10 _ _ ?_)
   clear hK10 K10
   refine wp_seq_k fun K12 hK12 => ?_
   refine wp_block ?_
   refine wp_seq_k fun K13 hK13 => ?_
   refine Sb 61 rfl ?_
   refine Smv rfl ?_
   refine Smv rfl ?_
   refine Smv rfl ?_
   refine S_val (Y_index U40 sz4 rfl rfl (by first | assumption | omega)) ?_
   refine S_val (Y_load U4 rfl rfl (by first | assumption | exact cc2.at (by rfl) | exact B1.at (by rfl) | exact B2.at (by rfl))) ?_
   refine S_val (Y_not rfl) ?_
   refine S_bs1 (cs := [_]) U40 zr4 sz4 rfl rfl rfl ?_
   intro b8 w8 fb8 g8 B8
   have lb8 := B8.lt
   replace hA := hA.grow g8
   replace hB := hB.grow g8
   replace hC := hC.grow g8
   replace cc2 := cc2.grow g8
   replace hE2 := hE2.grow g8
   replace O1 := O1.grow g8
   replace G := G.grow g8
   replace GL7 := GL7.grow g8
   replace B1 := B1.grow g8
   replace B2 := B2.grow g8
   have zg8 := g8.size
   refine S_app U40 zr4 sz4 by4 rfl rfl O1 rfl (Src.blk B8) (by simp [Value.oneCell']) (by omega) (Pr' := fun i => i = b6 ∨ wz ≤ i) (fun i hi => hi) (by omega) ?_
   intro A9 cap9 w9 X9 m9
   replace O1 := X9
   rw [bools_app] at O1
   clear X9
   replace G := G.abv m9
   replace GL7 := GL7.trn m9
   replace hA := hA0.grow G
   replace hB := hB0.grow G
   replace hC := hC0.grow G
   replace cc2 := cc20.grow G
   replace hE2 := hE20.grow G
   replace B1 := B1.md m9
   replace B2 := B2.md m9
   have zm9 := m9.size
   obtain ⟨g4, o4, e4, hp4, hc4⟩ := hC.bool hk1
   cases e4
   refine Sas rfl ?_
   refine S_nl rfl rfl ?_
   refine th_n (hK13 _ _ ?_)
   clear hK13 K13
   refine wp_seq_k fun K14 hK14 => ?_
   refine Sb 61 rfl ?_
   refine Smv rfl ?_
   refine Smv rfl ?_
   refine S_val (Y_index U40 sz4 rfl rfl (by first | assumption | omega)) ?_
   refine S_val (Y_load U4 rfl rfl (by first | assumption | exact cc2.at (by rfl) | exact B1.at (by rfl) | exact B2.at (by rfl))) ?_
   refine S_val (Y_not rfl) ?_
   refine Smv rfl ?_
   refine S_g 42 rfl (fun hb4 => ?_) (fun hb4 => ?_)
   ·
    first | with_reducible (replace hb4 := nb_nt hb4) | with_reducible (replace hb4 := nb_tt hb4) | with_reducible (replace hb4 := nb_bt hb4) | skip
    refine S_on rfl rfl ?_
    refine S_val (Y_field U26 rfl fz26_0 (by decide) rfl) ?_
    refine S_on rfl rfl ?_
    refine S_val (Y_load U23 rfl rfl (B1.at (by rfl))) ?_
    refine S_on rfl rfl ?_
    refine Smv rfl ?_
    refine S_on rfl rfl ?_
    refine S_val (Y_index U23 sz50 rfl rfl (by first | assumption | omega)) ?_
    refine S_on rfl rfl ?_
    refine S_val (Y_field U50 rfl fz50_0 (by decide) rfl) ?_
    refine S_on rfl rfl ?_
    refine S_val (Y_load U4 rfl rfl (by first | assumption | exact cc2.at (by rfl) | exact B1.at (by rfl) | exact B2.at (by rfl))) ?_
    refine S_val (Y_pickT rfl rfl) ?_
    refine S_nl rfl rfl ?_
    refine th_n (hK14 _ _ ?_)
    clear hK14 K14
    refine S_if rfl (fun hb5 => ?_) (fun hb5 => ?_)
    ·
     first | with_reducible (replace hb5 := nb_nt hb5) | with_reducible (replace hb5 := nb_tt hb5) | with_reducible (replace hb5 := nb_bt hb5) | skip
     have hpn : sweepN h ms k = true := by unfold sweepN sweepP; rw [inB_at hk1, hb4, usedAt_at hk2, hb5]; rfl
     refine Sb 61 rfl ?_
     refine Smv rfl ?_
     refine S_val (Y_inc rfl rfl (by omega)) ?_
     refine Sas rfl ?_
     refine S_nl rfl rfl ?_
     refine ib_n ?_
     refine th_n (hK12 _ _ ?_)
     clear hK12 K12
     refine Sb 61 rfl ?_
     refine Smv rfl ?_
     refine S_val (Y_inc rfl rfl (by omega)) ?_
     refine Sas rfl ?_
     refine S_nl rfl rfl ?_
     refine th_n ?_
     go_roundw
     case rel =>
      refine ⟨?_, GL7⟩
      first | exact ⟨k + 1, _, _, rfl, by rw [cntP_no hpn], rfl, by omega, by rw [htk, List.map_append]; exact O1⟩ | exact ⟨k + 1, _, _, rfl, by rw [cntP_yes hpn], rfl, by omega, by rw [htk, List.map_append]; exact O1⟩
     case measure =>
      exact dec_nat (by omega)
    first | with_reducible (replace hb5 := nb_nf hb5) | with_reducible (replace hb5 := nb_tf hb5) | with_reducible (replace hb5 := nb_bf hb5) | skip
    have hpn : sweepN h ms k = false := by unfold sweepN sweepP; rw [usedAt_at hk2, hb5]; rfl
    refine wp_skip ?_
    refine ib_n ?_
    refine th_n (hK12 _ _ ?_)
    clear hK12 K12
    refine Sb 61 rfl ?_
    refine Smv rfl ?_
    refine S_val (Y_inc rfl rfl (by omega)) ?_
    refine Sas rfl ?_
    refine S_nl rfl rfl ?_
    refine th_n ?_
    go_roundw
    case rel =>
     refine ⟨?_, GL7⟩
     first | exact ⟨k + 1, _, _, rfl, by rw [cntP_no hpn], rfl, by omega, by rw [htk, List.map_append]; exact O1⟩ | exact ⟨k + 1, _, _, rfl, by rw [cntP_yes hpn], rfl, by omega, by rw [htk, List.map_append]; exact O1⟩
    case measure =>
     exact dec_nat (by omega)
   first | with_reducible (replace hb4 := nb_nf hb4) | with_reducible (replace hb4 := nb_tf hb4) | with_reducible (replace hb4 := nb_bf hb4) | skip
   have hpn : sweepN h ms k = false := by unfold sweepN sweepP; rw [inB_at hk1, hb4]; simp
   refine S_off rfl rfl ?_
   refine S_off rfl rfl ?_
   refine S_off rfl rfl ?_
   refine S_off rfl rfl ?_
   refine S_off rfl rfl ?_
   refine S_off rfl rfl ?_
   refine S_val (Y_pickF rfl rfl) ?_
   refine S_nl rfl rfl ?_
   refine th_n (hK14 _ _ ?_)
   clear hK14 K14
   refine S_ifF rfl ?_
   refine wp_skip ?_
   refine ib_n ?_
   refine th_n (hK12 _ _ ?_)
   clear hK12 K12
   refine Sb 61 rfl ?_
   refine Smv rfl ?_
   refine S_val (Y_inc rfl rfl (by omega)) ?_
   refine Sas rfl ?_
   refine S_nl rfl rfl ?_
   refine th_n ?_
   go_roundw
   case rel =>
    refine ⟨?_, GL7⟩
    first | exact ⟨k + 1, _, _, rfl, by rw [cntP_no hpn], rfl, by omega, by rw [htk, List.map_append]; exact O1⟩ | exact ⟨k + 1, _, _, rfl, by rw [cntP_yes hpn], rfl, by omega, by rw [htk, List.map_append]; exact O1⟩
   case measure =>
    exact dec_nat (by omega)
  replace hb3 := nb_tf hb3
  rw [List.take_of_length_le (by omega)] at O1
  have hkq : k = (ms.map (fun b => !b)).length := by rw [List.length_map]; omega
  subst hkq
  replace O1 := O1.lt
  have hD := O1.r1
  refine wp_exit ?_
  refine th_x ?_
  try clear GL7
  refine th_x ?_
  refine ib_e ?_
  refine th_n (hK8 _ _ ?_)
  clear hK10 K10 hK8 K8
  refine wp_seq_k fun K15 hK15 => ?_
  refine Sb 61 rfl ?_
  refine S_val (Y_loadS U26 rfl sz26 rfl (B1.row (by rfl))) ?_
  refine Smv rfl ?_
  refine S_call rfl en27 (spec_l11Drop2_c _ _ _ _ _ _ (ms.map (fun b => !b)) _ _ _ _ (by assumption) (by assumption) hD (by omega) (by rw [List.length_map]; omega)) ?_
  rintro v10 w10 ⟨A10, B10, n110, c110, n210, c210, rs10, rfl, hn110, hn210, O10, g10⟩
  replace hA := hA.grow g10
  replace hB := hB.grow g10
  replace hC := hC.grow g10
  replace O1 := O1.grow g10
  replace hD := hD.grow g10
  replace G := G.grow g10
  replace B1 := B1.grow g10
  replace B2 := B2.grow g10
  have zg10 := g10.size
  rw [drop_not hlen] at hn110 hn210 O10
  subst hn110
  subst hn210
  obtain ⟨AH, rfl⟩ : ∃ x, x = A10 := ⟨_, rfl⟩
  obtain ⟨BH, rfl⟩ : ∃ x, x = B10 := ⟨_, rfl⟩
  obtain ⟨cH, rfl⟩ : ∃ x, x = c110 := ⟨_, rfl⟩
  obtain ⟨dH, rfl⟩ : ∃ x, x = c210 := ⟨_, rfl⟩
  obtain ⟨rsH, rfl⟩ : ∃ x, x = rs10 := ⟨_, rfl⟩
  have OX := O10.lt
  have hXA := OX.rc
  have hXB := OX.r1
  refine S_alloc (cs := [_, _]) zr26 rfl ?_
  intro b11 w11 fb11 g11 B11
  have lb11 := B11.lt
  replace hA := hA.grow g11
  replace hB := hB.grow g11
  replace hC := hC.grow g11
  replace O1 := O1.grow g11
  replace hD := hD.grow g11
  replace OX := OX.grow g11
  replace hXA := hXA.grow g11
  replace hXB := hXB.grow g11
  replace G := G.grow g11
  replace B1 := B1.grow g11
  replace B2 := B2.grow g11
  have zg11 := g11.size
  refine S_stM (pre := []) (old := [_, _]) (post := []) (vs := [_, _]) sz26 rfl rfl rfl (by first | rfl | assumption) B11 rfl rfl ?_
  intro w12 m12 X12
  replace B11 := Blk.eq (ys := [_, _]) X12 rfl
  clear X12
  replace G := G.abv m12
  replace hA := hA0.grow G
  replace hB := hB0.grow G
  replace hC := hC0.grow G
  replace O1 := O1.md m12
  replace hD := hD.md m12
  replace OX := OX.md m12
  replace hXA := hXA.md m12
  replace hXB := hXB.md m12
  replace B1 := B1.md m12
  replace B2 := B2.md m12
  have zm12 := m12.size
  refine S_nl rfl rfl ?_
  refine th_n (hK15 _ _ ?_)
  clear hK15 K15
  refine wp_seq_k fun K16 hK16 => ?_
  refine wp_seq_k fun K17 hK17 => ?_
  refine Sb 61 rfl ?_
  refine S_val (Y_loadS U26 rfl sz26 rfl (B11.row (by rfl))) ?_
  refine S_call rfl en44 (spec_HeapValid_c _ _ _ _ _ _ _ hXA hXB (by have := drop_small va (sweepP ms); omega)) ?_
  rintro v13 w13 ⟨rfl, g13⟩
  replace hA := hA.grow g13
  replace hB := hB.grow g13
  replace hC := hC.grow g13
  replace O1 := O1.grow g13
  replace hD := hD.grow g13
  replace OX := OX.grow g13
  replace hXA := hXA.grow g13
  replace hXB := hXB.grow g13
  replace G := G.grow g13
  replace B1 := B1.grow g13
  replace B2 := B2.grow g13
  replace B11 := B11.grow g13
  have zg13 := g13.size
  refine S_val (Y_not rfl) ?_
  refine S_nl rfl rfl ?_
  refine th_n (hK17 _ _ ?_)
  clear hK17 K17
  refine S_if rfl (fun hb4 => ?_) (fun hb4 => ?_)
  ·
   first | with_reducible (replace hb4 := nb_nt hb4) | with_reducible (replace hb4 := nb_tt hb4) | with_reducible (replace hb4 := nb_bt hb4) | skip
   refine wp_seq_k fun K18 hK18 => ?_
   refine Sb 61 rfl ?_
   refine S_val (Y_build (cs := [_, _]) zr26 pc26 rfl rfl) ?_
   refine S_stM (pre := []) (old := [_, _]) (post := []) (vs := [_, _]) sz26 rfl rfl rfl (by first | rfl | assumption) B2 rfl rfl ?_
   intro w14 m14 X14
   replace B2 := Blk.eq (ys := [_, _]) X14 rfl
   clear X14
   replace G := G.abv m14
   replace hA := hA0.grow G
   replace hB := hB0.grow G
   replace hC := hC0.grow G
   replace O1 := O1.md m14
   replace hD := hD.md m14
   replace OX := OX.md m14
   replace hXA := hXA.md m14
   replace hXB := hXB.md m14
   replace B1 := B1.md m14
   replace B11 := B11.md m14
   have zm14 := m14.size
   refine Sas rfl ?_
   refine S_nl rfl rfl ?_
   refine th_n (hK18 _ _ ?_)
   clear hK18 K18
   refine wp_ret ?_
   refine th_r ?_
   clear hK16 K16
   refine ret_rct (cs := [_, _]) U26 rfl sz26 rfl rfl rfl (B2.row (by rfl)) ?_
   have hsv := sweepV_f3 hb4
   exact ⟨_, _, _, _, _, _, [], by rw [hsv], by rw [hsv]; rfl, by rw [hsv]; rfl, by rw [hsv]; exact XH.nil _ _ _ _, G⟩
  first | with_reducible (replace hb4 := nb_nf hb4) | with_reducible (replace hb4 := nb_tf hb4) | with_reducible (replace hb4 := nb_bf hb4) | skip
  refine wp_skip ?_
  refine th_n (hK16 _ _ ?_)
  clear hK16 K16
  refine wp_seq_k fun K19 hK19 => ?_
  refine Sb 61 rfl ?_
  refine S_val (Y_loadS U26 rfl sz26 rfl (B11.row (by rfl))) ?_
  refine Smv rfl ?_
  refine S_stM (pre := []) (old := [_, _]) (post := []) (vs := [_, _]) sz26 rfl rfl rfl (by first | rfl | assumption) B2 rfl rfl ?_
  intro w15 m15 X15
  replace B2 := Blk.eq (ys := [_, _]) X15 rfl
  clear X15
  replace G := G.abv m15
  replace hA := hA0.grow G
  replace hB := hB0.grow G
  replace hC := hC0.grow G
  replace O1 := O1.md m15
  replace hD := hD.md m15
  replace OX := OX.md m15
  replace hXA := hXA.md m15
  replace hXB := hXB.md m15
  replace B1 := B1.md m15
  replace B11 := B11.md m15
  have zm15 := m15.size
  refine Sas rfl ?_
  refine S_nl rfl rfl ?_
  refine th_n (hK19 _ _ ?_)
  clear hK19 K19
  refine wp_ret ?_
  refine ret_rct (cs := [_, _]) U26 rfl sz26 rfl rfl rfl (B2.row (by rfl)) ?_
  have hsv := sweepV_t hb1 hlen hb4
  exact ⟨AH, BH, _, cH, _, dH, rsH, by rw [hsv, List.length_map, hlen], by rw [hsv], by rw [hsv], by rw [hsv]; exact OX.weak (fun i hi => by omega), G⟩
set_option maxHeartbeats 400000 in
set_option maxRecDepth 20000 in
theorem spec_CollectSweep2_c (Pr : Nat → Prop) (A B : Option Addr) (h : LH) (c d : Nat) (w : World) (hA : RC Pr w A h.cells) (hB : R1 Pr w B (ints h.roots)) (hz : hsize h ≤ 1048576) :
    Calls Try.prog 71 #[.agg #[.slice A h.cells.length c, .slice B h.roots.length d]] w (Ret fun v w' => ∃ A1 B1 n1 c1 n2 c2 rs, v = .tuple #[.agg #[.slice A1 n1 c1, .slice B1 n2 c2], .int .i64 (sweepV h (reachV h)).2] ∧ n1 = (sweepV h (reachV h)).1.cells.length ∧ n2 = (sweepV h (reachV h)).1.roots.length ∧ XH (fun i => w.heap.size ≤ i) w' 50 3 A1 B1 (sweepV h (reachV h)).1 rs c1 c2 ∧ Grow w w') := by
 have hz1 := hsize_cells h
 have hz2 := hsize_roots h
 have hne : (50 : TypeId) ≠ 3 := by decide
 have hrl := reachV_le h
 refine enter Try.func71 rfl Try.ntmps71 (L := [_,_,_,_,_,_,_,_,_,_]) rfl ?_
 have G := Mod.refl No w
 have hA0 := hA
 have hB0 := hB
 refine wp_seq_k fun K1 hK1 => ?_
 refine Sb 10 rfl ?_
 refine S_box (cs := [_, _]) rfl rfl ?_
 intro b1 w1 fb1 g1 B1
 have lb1 := B1.lt
 replace hA := hA.grow g1
 replace hB := hB.grow g1
 replace G := G.grow g1
 have zg1 := g1.size
 refine S_alloc (cs := [_, _]) zr26 rfl ?_
 intro b2 w2 fb2 g2 B2
 have lb2 := B2.lt
 replace hA := hA.grow g2
 replace hB := hB.grow g2
 replace G := G.grow g2
 replace B1 := B1.grow g2
 have zg2 := g2.size
 refine Sas rfl ?_
 refine S_nl rfl rfl ?_
 refine th_n (hK1 _ _ ?_)
 clear hK1 K1
 refine wp_seq_k fun K2 hK2 => ?_
 refine D_start 8 10 (fun w => Mod (fun i => i = b2) w) follows rfl rfl ?_
 intro w3 g3
 replace hA := hA.grow g3
 replace hB := hB.grow g3
 replace G := G.grow g3
 replace B1 := B1.grow g3
 replace B2 := B2.grow g3
 have zg3 := g3.size
 have GS3 := Mod.refl (fun i => i = b2) w3
 refine Dq (i := 0) rfl GS3 (fun _ hs => Y_loadS U26 rfl sz26 rfl (by first | exact CellsAt.mod (B1.row (by rfl)) hs (by intro h; first | omega | (dsimp only at h; omega)))) ?_
 refine Dq (i := 1) rfl GS3 (fun _ hs => Y_loadS U26 rfl sz26 rfl (by first | exact CellsAt.mod (B1.row (by rfl)) hs (by intro h; first | omega | (dsimp only at h; omega)))) ?_
 refine D_1 (i := 2) (by kernel_rfl) ?_
 refine E_call rfl rfl en78 (spec_Reachable_c _ _ _ _ _ _ _ (by assumption) (by assumption) (by omega)) ?_
 rintro v4 w4 ⟨A4, q4, cap4, rfl, hq4, O4, g4⟩
 replace hA := hA.grow g4
 replace hB := hB.grow g4
 replace G := G.grow g4
 replace GS3 := GS3.grow g4
 replace B1 := B1.grow g4
 replace B2 := B2.grow g4
 have zg4 := g4.size
 subst hq4
 have OR := O4.lt
 have hR := OR.r1
 refine ⟨GS3, ?_⟩
 refine D_1 (i := 3) (by kernel_rfl) ?_
 refine E_call rfl rfl en80 (spec_SweepCells2_c _ _ _ _ _ _ (reachV h) _ _ _ _ (by assumption) (by assumption) hR (by omega) (by omega)) ?_
 rintro v5 w5 ⟨A5, B5, n15, c15, n25, c25, rs5, rfl, hn15, hn25, O5, g5⟩
 replace hA := hA.grow g5
 replace hB := hB.grow g5
 replace hR := hR.grow g5
 replace G := G.grow g5
 replace GS3 := GS3.grow g5
 replace B1 := B1.grow g5
 replace B2 := B2.grow g5
 have zg5 := g5.size
 subst hn15
 subst hn25
 obtain ⟨AH, rfl⟩ : ∃ x, x = A5 := ⟨_, rfl⟩
 obtain ⟨BH, rfl⟩ : ∃ x, x = B5 := ⟨_, rfl⟩
 obtain ⟨cH, rfl⟩ : ∃ x, x = c15 := ⟨_, rfl⟩
 obtain ⟨dH, rfl⟩ : ∃ x, x = c25 := ⟨_, rfl⟩
 obtain ⟨rsH, rfl⟩ : ∃ x, x = rs5 := ⟨_, rfl⟩
 have OX := O5.lt
 refine ⟨GS3, ?_⟩
 refine Dq (i := 4) rfl GS3 (fun _ _ => Y_extract rfl rfl) ?_
 refine Dq (i := 5) rfl GS3 (fun _ _ => Y_extract rfl rfl) ?_
 refine D_1 (i := 6) (by kernel_rfl) ?_
 refine E_stM (pre := []) (old := [_, _]) (post := []) (vs := [_, _]) (i := 6) rfl sz26 rfl rfl rfl (by first | rfl | assumption) B2 rfl rfl ?_
 intro w6 m6 X6
 replace B2 := Blk.eq (ys := [_, _]) X6 rfl
 clear X6
 replace G := G.abv m6
 replace GS3 := GS3.trn m6
 replace hA := hA0.grow G
 replace hB := hB0.grow G
 replace hR := hR.md m6
 replace OX := OX.md m6
 replace B1 := B1.md m6
 have zm6 := m6.size
 refine ⟨GS3, ?_⟩
 refine Dq (i := 7) rfl GS3 (fun _ _ => Y_assign rfl) ?_
 refine D_en (by kernel_rfl) rfl rfl ?_
 refine th_n (hK2 _ _ ?_)
 clear hK2 K2
 refine wp_ret ?_
 refine ret_rct (cs := [_, _]) U26 rfl sz26 rfl rfl rfl (B2.row (by rfl)) ?_
 exact ⟨_, _, _, _, _, _, _, rfl, rfl, rfl, OX.weak (fun i hi => by omega), G⟩
end
end Go.Proofs.Ytdlmjmcddafojaa
