/-
  Walks: lazy heaps.
  Conditions: those that each theorem states.
-/
import Derived.Test.YtjmfdmndchoplaaTy
import Derived.Test.YtjmfdmndchoplaaWalkU
import Derived.Test.YtjmfdmndchoplaaLazy
namespace Go.Proofs.Ytjmfdmndchoplaa
open Go Go.RowKit
attribute [local irreducible] wpList wpAnyH Code.wp dOp

theorem reach_bits {h : LH} {m u : Nat} (va : Valid h) (hu : SetOf u (usedL h.cells)) (hr : ∀ n, m.testBit n = true ↔ Rch h.cells h.roots (hasB u) n) (i : Nat) : m.testBit i = (decide (i < h.cells.length) && rB h i) := by
  rw [Bool.eq_iff_iff, hr, rch_used va.leadsU hu]
  unfold rB
  rw [Bool.and_eq_true, decide_eq_true_eq, decide_eq_true_eq, orderL_mem va.leads]
  exact ⟨fun hh => ⟨hh.lt va.leads, hh⟩, fun hh => hh.2⟩


set_option maxHeartbeats 400000 in
set_option maxRecDepth 20000 in
theorem impl_reachable2_c (Pr : Nat → Prop) (A B : Option Addr) (h : LH) (c d : Nat) (w : World) (hA : RC Pr w A h.cells) (hB : R1 Pr w B (ints h.roots)) (hz : hsize h ≤ 1048576) (va : Valid h) :
    Calls Try.prog 99 #[.agg #[.slice A h.cells.length c, .slice B h.roots.length d]] w (Ret fun v w' => ∃ m : Nat, v = .int .u64 (m : Int) ∧ m < 2 ^ 64 ∧ (∀ i, m.testBit i = (decide (i < h.cells.length) && rB h i)) ∧ Grow w w') := by
 have h40 := va.le
 have hr4 := va.roots4
 refine enter Try.func99 rfl Try.ntmps99 (L := [_,_,_,_,_,_,_,_,_]) rfl ?_
 have G := Mod.refl No w
 have hA0 := hA
 have hB0 := hB
 refine wp_seq_k fun K1 hK1 => ?_
 refine Sb 9 rfl ?_  -- 0
 refine S_box (cs := [_, _]) rfl rfl ?_
 intro b1 w1 fb1 g1 B1
 have lb1 := B1.lt
 replace hA := hA.grow g1
 replace hB := hB.grow g1
 replace G := G.grow g1
 have zg1 := g1.size
 refine S_val (Y_assign rfl) ?_
 refine S_nl rfl rfl ?_
 refine th_n (hK1 _ _ ?_)
 clear hK1 K1
 refine wp_seq_k fun K2 hK2 => ?_
 refine D_start 7 9 (fun w => Mod (No) w) follows rfl rfl ?_  -- d1 r1
 intro w2 g2
 replace hA := hA.grow g2
 replace hB := hB.grow g2
 replace G := G.grow g2
 replace B1 := B1.grow g2
 have zg2 := g2.size
 have GS2 := Mod.refl (No) w2
 have B1d2 := B1
 refine Dq (i := 0) rfl GS2 (fun _ hs => Y_loadS Try.underlying25 rfl sz25 rfl (by first | exact hs.cells0 (B1.row (by rfl)))) ?_
 refine Dq (i := 1) rfl GS2 (fun _ _ => Y_field Try.underlying25 rfl fz25_1 (by decide) rfl) ?_
 refine Dq (i := 2) rfl GS2 (fun _ hs => Y_load Try.underlying22 rfl rfl (hs.cell0 (B1.at (by rfl)))) ?_
 refine Dq (i := 3) rfl GS2 (fun _ hs => Y_loadS Try.underlying25 rfl sz25 rfl (by first | exact hs.cells0 (B1.row (by rfl)))) ?_
 refine D_1 (i := 4) (by kernel_rfl) ?_
 refine E_call rfl rfl en71 (impl_usedSet_c _ _ _ _ _ _ _ (by assumption) (by omega)) ?_  -- k1 impl.usedSet
 rintro v3 w3 ⟨s3, rfl, hs3, g3⟩
 replace hA := hA.grow g3
 replace hB := hB.grow g3
 replace G := G.grow g3
 replace GS2 := GS2.grow g3
 replace B1 := B1.grow g3
 have zg3 := g3.size
 refine ⟨GS2, ?_⟩
 refine D_1 (i := 5) (by kernel_rfl) ?_
 refine E_call rfl rfl en98 (impl_closure_c _ _ _ _ _ _ _ _ _ _ _ _ (by assumption) (by assumption) (by omega) (by omega) hs3.1 hs3.lt (by omega)) ?_  -- k2 impl.closure
 rintro v4 w4 ⟨s4, rfl, hs4, hr4, g4⟩
 replace hA := hA.grow g4
 replace hB := hB.grow g4
 replace G := G.grow g4
 replace GS2 := GS2.grow g4
 replace B1 := B1.grow g4
 have zg4 := g4.size
 refine ⟨GS2, ?_⟩
 refine Dq (i := 6) rfl GS2 (fun _ _ => Y_assign rfl) ?_
 refine D_en (by kernel_rfl) rfl rfl ?_
 refine th_n (hK2 _ _ ?_)
 clear hK2 K2
 refine wp_ret ?_
 refine ret_r1 rfl rfl ?_  -- r1
 exact ⟨_, rfl, hs4, reach_bits va hs3 hr4, G⟩

set_option maxHeartbeats 400000 in
set_option maxRecDepth 20000 in
theorem laws_eqLazy_c (P1 P2 P5 P6 : Nat → Prop) (A B C Aq Bq Cq : Option Addr) (x y : LH) (ms ns : List Bool) (p q : Int) (c d e c2 d2 e2 : Nat) (w : World) (hA : RC P1 w A x.cells) (hB : R1 P1 w B (ints x.roots)) (hC : R1 P5 w C (bools ms)) (hA2 : RC P2 w Aq y.cells) (hB2 : R1 P2 w Bq (ints y.roots)) (hC2 : R1 P6 w Cq (bools ns)) (hz : hsize x ≤ 9223372036854775807) (hxz : ms.length ≤ 9223372036854775807) :
    Calls Try.prog 32 #[.agg #[.slice A x.cells.length c, .slice B x.roots.length d, .slice C ms.length e, .int .i64 p], .agg #[.slice Aq y.cells.length c2, .slice Bq y.roots.length d2, .slice Cq ns.length e2, .int .i64 q]] w (Ret fun v w' => v = .bool (decide (x = y) && (decide (ms = ns) && decide (p = q))) ∧ Grow w w') := by
 refine enter Try.func32 rfl Try.ntmps32 (L := [_,_,_,_,_,_,_,_,_,_,_,_,_,_,_,_,_,_,_,_,_,_]) rfl ?_
 have G := Mod.refl No w
 have hA0 := hA
 have hB0 := hB
 have hC0 := hC
 have hA20 := hA2
 have hB20 := hB2
 have hC20 := hC2
 refine wp_seq_k fun K1 hK1 => ?_
 refine Sb 22 rfl ?_  -- 0
 refine S_box (cs := [_, _, _, _]) rfl rfl ?_
 intro b1 w1 fb1 g1 B1
 have lb1 := B1.lt
 replace hA := hA.grow g1
 replace hB := hB.grow g1
 replace hC := hC.grow g1
 replace hA2 := hA2.grow g1
 replace hB2 := hB2.grow g1
 replace hC2 := hC2.grow g1
 replace G := G.grow g1
 have zg1 := g1.size
 refine S_box (cs := [_, _, _, _]) rfl rfl ?_
 intro b2 w2 fb2 g2 B2
 have lb2 := B2.lt
 replace hA := hA.grow g2
 replace hB := hB.grow g2
 replace hC := hC.grow g2
 replace hA2 := hA2.grow g2
 replace hB2 := hB2.grow g2
 replace hC2 := hC2.grow g2
 replace G := G.grow g2
 replace B1 := B1.grow g2
 have zg2 := g2.size
 refine S_val (Y_assign rfl) ?_
 refine S_nl rfl rfl ?_
 refine th_n (hK1 _ _ ?_)
 clear hK1 K1
 refine wp_seq_k fun K2 hK2 => ?_
 refine wp_seq_k fun K3 hK3 => ?_
 refine Sb 22 rfl ?_  -- 1
 refine S_val (Y_field Try.underlying51 rfl fz51_0 (by decide) rfl) ?_
 refine S_val (Y_loadS Try.underlying25 rfl sz25 rfl (CellsAt.of_blk (pre := []) (us := [_, _]) (post := [_, _]) B1 rfl)) ?_  -- l1
 refine S_val (Y_field Try.underlying51 rfl fz51_0 (by decide) rfl) ?_
 refine S_val (Y_loadS Try.underlying25 rfl sz25 rfl (CellsAt.of_blk (pre := []) (us := [_, _]) (post := [_, _]) B2 rfl)) ?_  -- l2
 refine S_call rfl en13 (laws_eqHeap_c _ _ _ _ _ _ _ _ _ _ _ _ _ (by assumption) (by assumption) (by assumption) (by assumption) (by omega)) ?_  -- k1 laws.eqHeap
 rintro v3 w3 ⟨rfl, g3⟩
 replace hA := hA.grow g3
 replace hB := hB.grow g3
 replace hC := hC.grow g3
 replace hA2 := hA2.grow g3
 replace hB2 := hB2.grow g3
 replace hC2 := hC2.grow g3
 replace G := G.grow g3
 replace B1 := B1.grow g3
 replace B2 := B2.grow g3
 have zg3 := g3.size
 refine S_val (Y_not rfl) ?_
 refine S_nl rfl rfl ?_
 refine th_n (hK3 _ _ ?_)
 clear hK3 K3
 refine S_if rfl (fun hb1 => ?_) (fun hb1 => ?_)  -- c1
 · -- c1T
  first | with_reducible (replace hb1 := nb_nt hb1) | with_reducible (replace hb1 := nb_tt hb1) | with_reducible (replace hb1 := nb_bt hb1) | skip
  refine wp_seq_k fun K4 hK4 => ?_
  refine Sb 22 rfl ?_  -- 2
  refine S_val (Y_assign rfl) ?_
  refine S_nl rfl rfl ?_
  refine th_n (hK4 _ _ ?_)
  clear hK4 K4
  refine wp_ret ?_
  refine th_r ?_
  clear hK2 K2
  refine ret_r1 rfl rfl ?_  -- r1
  exact ⟨by first | (simp [hb1, hb2, hb3]; done) | (simp [hb1, hb2]; done) | simp [hb1], G⟩
 · -- c1F
  first | with_reducible (replace hb1 := nb_nf hb1) | with_reducible (replace hb1 := nb_tf hb1) | with_reducible (replace hb1 := nb_bf hb1) | skip
  refine wp_skip ?_
  refine th_n (hK2 _ _ ?_)
  clear hK2 K2
  refine wp_seq_k fun K5 hK5 => ?_
  refine wp_seq_k fun K6 hK6 => ?_
  refine Sb 22 rfl ?_  -- 3
  refine S_val (Y_field Try.underlying51 rfl fz51_1 (by decide) rfl) ?_
  refine S_val (Y_load Try.underlying38 rfl rfl (B1.at (by rfl))) ?_  -- l3
  refine S_val (Y_field Try.underlying51 rfl fz51_1 (by decide) rfl) ?_
  refine S_val (Y_load Try.underlying38 rfl rfl (B2.at (by rfl))) ?_  -- l4
  refine S_call rfl en22 (laws_eqBoolS_c _ _ _ _ _ _ _ _ _ (by assumption) (by assumption) (by omega)) ?_  -- k2 laws.eqBoolS
  rintro v4 w4 ⟨rfl, g4⟩
  replace hA := hA.grow g4
  replace hB := hB.grow g4
  replace hC := hC.grow g4
  replace hA2 := hA2.grow g4
  replace hB2 := hB2.grow g4
  replace hC2 := hC2.grow g4
  replace G := G.grow g4
  replace B1 := B1.grow g4
  replace B2 := B2.grow g4
  have zg4 := g4.size
  refine S_val (Y_not rfl) ?_
  refine S_nl rfl rfl ?_
  refine th_n (hK6 _ _ ?_)
  clear hK6 K6
  refine S_if rfl (fun hb2 => ?_) (fun hb2 => ?_)  -- c2
  · -- c2T
   first | with_reducible (replace hb2 := nb_nt hb2) | with_reducible (replace hb2 := nb_tt hb2) | with_reducible (replace hb2 := nb_bt hb2) | skip
   refine wp_seq_k fun K7 hK7 => ?_
   refine Sb 22 rfl ?_  -- 4
   refine S_val (Y_assign rfl) ?_
   refine S_nl rfl rfl ?_
   refine th_n (hK7 _ _ ?_)
   clear hK7 K7
   refine wp_ret ?_
   refine th_r ?_
   clear hK5 K5
   refine ret_r1 rfl rfl ?_  -- r2
   exact ⟨by first | (simp [hb1, hb2, hb3]; done) | (simp [hb1, hb2]; done) | simp [hb1], G⟩
  · -- c2F
   first | with_reducible (replace hb2 := nb_nf hb2) | with_reducible (replace hb2 := nb_tf hb2) | with_reducible (replace hb2 := nb_bf hb2) | skip
   refine wp_skip ?_
   refine th_n (hK5 _ _ ?_)
   clear hK5 K5
   refine wp_seq_k fun K8 hK8 => ?_
   refine wp_seq_k fun K9 hK9 => ?_
   refine Sb 22 rfl ?_  -- 5
   refine S_val (Y_field Try.underlying51 rfl fz51_2 (by decide) rfl) ?_
   refine S_val (Y_load Try.underlying3 rfl rfl (B1.at (by rfl))) ?_  -- l5
   refine S_val (Y_field Try.underlying51 rfl fz51_2 (by decide) rfl) ?_
   refine S_val (Y_load Try.underlying3 rfl rfl (B2.at (by rfl))) ?_  -- l6
   refine S_val (Y_neq rfl rfl) ?_
   refine S_nl rfl rfl ?_
   refine th_n (hK9 _ _ ?_)
   clear hK9 K9
   refine S_if rfl (fun hb3 => ?_) (fun hb3 => ?_)  -- c3
   · -- c3T
    replace hb3 := nb_nt hb3
    refine wp_seq_k fun K10 hK10 => ?_
    refine Sb 22 rfl ?_  -- 6
    refine S_val (Y_assign rfl) ?_
    refine S_nl rfl rfl ?_
    refine th_n (hK10 _ _ ?_)
    clear hK10 K10
    refine wp_ret ?_
    refine th_r ?_
    clear hK8 K8
    refine ret_r1 rfl rfl ?_  -- r3
    exact ⟨by first | (simp [hb1, hb2, hb3]; done) | (simp [hb1, hb2]; done) | simp [hb1], G⟩
   · -- c3F
    replace hb3 := nb_nf hb3
    refine wp_skip ?_
    refine th_n (hK8 _ _ ?_)
    clear hK8 K8
    refine wp_seq_k fun K11 hK11 => ?_
    refine Sb 22 rfl ?_  -- 7
    refine S_val (Y_assign rfl) ?_
    refine S_nl rfl rfl ?_
    refine th_n (hK11 _ _ ?_)
    clear hK11 K11
    refine wp_ret ?_
    refine ret_r1 rfl rfl ?_  -- r4
    exact ⟨by first | (simp [hb1, hb2, hb3]; done) | (simp [hb1, hb2]; done) | simp [hb1], G⟩

end Go.Proofs.Ytjmfdmndchoplaa
