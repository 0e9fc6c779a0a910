/-
  The law FnExactSweepCells returns true.
  Conditions: those that each theorem states.
-/
import Derived.Test.YtjmfdmndchoplaaTy
import Derived.Test.YtjmfdmndchoplaaWalkSw
namespace Go.Proofs.Ytjmfdmndchoplaa
open Go Go.RowKit
attribute [local irreducible] wpList wpAnyH Code.wp dOp

set_option maxHeartbeats 400000 in
set_option maxRecDepth 20000 in
theorem laws_FnExactSweepCells_c (Pr : Nat → Prop) (A B : Option Addr) (h : LH) (c d : Nat) (P2 : Nat → Prop) (C : Option Addr) (bs : List Bool) (e : Nat) (w : World) (hA : RC Pr w A h.cells) (hB : R1 Pr w B (ints h.roots)) (hn : h.cells.length ≤ 9223372036854775807) (hN : ∀ x ∈ h.cells, x.refs.length ≤ 9223372036854775807) (hm : h.roots.length ≤ 9223372036854775807) (hC : R1 P2 w C (bools bs)) (hk : bs.length ≤ 9223372036854775807) :
    Calls Try.prog 5 #[.agg #[.slice A h.cells.length c, .slice B h.roots.length d], .slice C bs.length e] w (Ret fun v w' => v = .bool true ∧ Grow w w') := by
 refine enter Try.func5 rfl Try.ntmps5 (L := [_,_,_,_,_,_,_,_,_,_,_,_,_,_,_,_,_,_,_,_,_,_,_,_,_,_,_,_,_,_,_,_,_,_,_,_,_,_,_,_,_,_,_,_,_,_,_,_,_,_,_,_,_,_,_,_,_,_,_,_,_,_,_,_,_,_,_,_,_,_,_,_,_,_,_,_,_,_,_,_,_,_,_,_,_,_,_,_,_,_,_,_,_,_,_,_,_,_,_,_,_,_,_,_,_,_,_,_,_,_,_,_,_,_,_,_,_]) rfl ?_
 have G := Mod.refl No w
 have hA0 := hA
 have hB0 := hB
 have hC0 := hC
 refine wp_seq_k fun K1 hK1 => ?_
 refine Sb 117 rfl ?_  -- 0
 refine S_box (cs := [_, _]) rfl rfl ?_
 intro b1 w1 fb1 g1 B1
 have lb1 := B1.lt
 replace hA := hA.grow g1
 replace hB := hB.grow g1
 replace hC := hC.grow g1
 replace G := G.grow g1
 have zg1 := g1.size
 refine S_val (Y_assign rfl) ?_
 refine S_nl rfl rfl ?_
 refine th_n (hK1 _ _ ?_)
 clear hK1 K1
 refine wp_seq_k fun K2 hK2 => ?_
 refine wp_seq_k fun K3 hK3 => ?_
 refine Sb 117 rfl ?_  -- 1
 refine S_val (Y_move rfl) ?_
 refine S_val (Y_len Try.underlying38 rfl) ?_
 refine S_val (Y_gtr rfl rfl) ?_
 refine S_nl rfl rfl ?_
 refine th_n (hK3 _ _ ?_)
 clear hK3 K3
 refine S_if rfl (fun hb1 => ?_) (fun hb1 => ?_)  -- c1
 · -- c1T
  replace hb1 := nb_tt hb1
  refine wp_seq_k fun K4 hK4 => ?_
  refine Sb 117 rfl ?_  -- 2
  refine S_val (Y_assign rfl) ?_
  refine S_nl rfl rfl ?_
  refine th_n (hK4 _ _ ?_)
  clear hK4 K4
  refine wp_ret ?_
  refine th_r ?_
  clear hK2 K2
  refine ret_r1 rfl rfl ?_  -- r1
  exact ⟨rfl, G⟩
 · -- c1F
  replace hb1 := nb_tf hb1
  refine wp_skip ?_
  refine th_n (hK2 _ _ ?_)
  clear hK2 K2
  refine wp_seq_k fun K5 hK5 => ?_
  refine Sb 117 rfl ?_  -- 3
  refine S_val (Y_assign rfl) ?_
  refine S_nl rfl rfl ?_
  refine th_n (hK5 _ _ ?_)
  clear hK5 K5
  refine wp_seq_k fun K6 hK6 => ?_
  refine Sb 117 rfl ?_  -- 4
  refine S_val (Y_loadS Try.underlying36 rfl sz36 rfl (B1.row (by rfl))) ?_  -- l1
  refine S_val (Y_move rfl) ?_
  refine S_call rfl en18 (laws_szHeap_c _ _ _ _ _ _ _ _ (by assumption) (by omega) (by assumption) (by omega) (by omega) (by omega)) ?_  -- k1 laws.szHeap
  rintro v2 w2 ⟨r2, rfl, hr2, g2⟩
  replace hA := hA.grow g2
  replace hB := hB.grow g2
  replace hC := hC.grow g2
  replace G := G.grow g2
  replace B1 := B1.grow g2
  have zg2 := g2.size
  refine S_val (Y_assign rfl) ?_
  refine S_nl rfl rfl ?_
  refine th_n (hK6 _ _ ?_)
  clear hK6 K6
  refine wp_seq_k fun K7 hK7 => ?_
  refine wp_seq_k fun K8 hK8 => ?_
  refine Sb 117 rfl ?_  -- 5
  refine S_val (Y_move rfl) ?_
  refine S_val (Y_lss rfl rfl) ?_
  refine S_nl rfl rfl ?_
  refine th_n (hK8 _ _ ?_)
  clear hK8 K8
  refine S_if rfl (fun hb2 => ?_) (fun hb2 => ?_)  -- c2
  · -- c2T
   replace hb2 := nb_tt hb2
   refine wp_seq_k fun K9 hK9 => ?_
   refine Sb 117 rfl ?_  -- 6
   refine S_val (Y_assign rfl) ?_
   refine S_nl rfl rfl ?_
   refine th_n (hK9 _ _ ?_)
   clear hK9 K9
   refine wp_ret ?_
   refine th_r ?_
   clear hK7 K7
   refine ret_r1 rfl rfl ?_  -- r2
   exact ⟨rfl, G⟩
  · -- c2F
   replace hb2 := nb_tf hb2
   have hz : hsize h ≤ 1048576 := by omega
   have hbz : bs.length ≤ 1048576 := by omega
   have hsm := sweep_small h bs
   have hk9 : kEnd 1 h ≤ 4194304 := by
     have := kAt_le (k := 1) (cs := h.cells) (Nat.le_refl _)
     unfold kEnd
     unfold hsize at hz
     omega
   have hk8 := kEnd_ge 1 h
   have hk7 := kEnd_ge 1 ((sweepV h bs).1)
   refine wp_skip ?_
   refine th_n (hK7 _ _ ?_)
   clear hK7 K7
   refine wp_seq_k fun K10 hK10 => ?_
   refine Sb 117 rfl ?_  -- 7
   refine S_val (Y_loadS Try.underlying36 rfl sz36 rfl (B1.row (by rfl))) ?_  -- l2
   refine S_call rfl en20 (laws_toHeap_c _ _ _ _ _ _ _ (by assumption) (by assumption) (by omega)) ?_  -- k2 laws.toHeap
   rintro v3 w3 ⟨a3, b3, rs3, rfl, O3, g3⟩
   replace hA := hA.grow g3
   replace hB := hB.grow g3
   replace hC := hC.grow g3
   replace G := G.grow g3
   replace B1 := B1.grow g3
   have zg3 := g3.size
   replace O3 := O3.lt
   have hA3 := O3.rc
   have hB3 := O3.r1
   refine S_val (Y_move rfl) ?_
   refine S_call rfl en26 (laws_toBoolS_c _ _ _ _ _ (by assumption) (by omega)) ?_  -- k3 laws.toBoolS
   rintro v4 w4 ⟨b4, rfl, fb4, B4, g4⟩
   replace hA := hA.grow g4
   replace hB := hB.grow g4
   replace hC := hC.grow g4
   replace hA3 := hA3.grow g4
   replace hB3 := hB3.grow g4
   replace G := G.grow g4
   replace B1 := B1.grow g4
   have zg4 := g4.size
   have lb4 := B4.lt
   have hS4 := R1.of_blkE B4
   refine S_call rfl en25 (spec_SweepCells_c _ _ _ _ _ _ _ _ _ _ _ (by assumption) (by assumption) (by assumption) (by omega) (by omega)) ?_  -- k4 spec.SweepCells
   rintro v5 w5 ⟨A5, B5, n15, c15, n25, c25, rs5, rfl, hn15, hn25, O5, g5⟩
   replace hA := hA.grow g5
   replace hB := hB.grow g5
   replace hC := hC.grow g5
   replace hA3 := hA3.grow g5
   replace hB3 := hB3.grow g5
   replace hS4 := hS4.grow g5
   replace G := G.grow g5
   replace B1 := B1.grow g5
   replace B4 := B4.grow g5
   have zg5 := g5.size
   subst hn15
   subst hn25
   replace O5 := O5.lt
   have OXw := O5
   have hAw := OXw.rc
   have hBw := OXw.r1
   refine S_val (Y_move rfl) ?_
   refine S_val (Y_extract rfl rfl) ?_
   refine S_val (Y_extract rfl rfl) ?_
   refine S_alloc (cs := [_, _]) zr25 rfl ?_
   intro b6 w6 fb6 g6 B6
   have lb6 := B6.lt
   replace hA := hA.grow g6
   replace hB := hB.grow g6
   replace hC := hC.grow g6
   replace hA3 := hA3.grow g6
   replace hB3 := hB3.grow g6
   replace hS4 := hS4.grow g6
   replace OXw := OXw.grow g6
   replace hAw := hAw.grow g6
   replace hBw := hBw.grow g6
   replace G := G.grow g6
   replace B1 := B1.grow g6
   replace B4 := B4.grow g6
   have zg6 := g6.size
   refine S_stM (pre := []) (old := [_, _]) (post := []) (vs := [_, _]) sz25 rfl rfl rfl (by first | rfl | assumption) B6 rfl rfl ?_
   intro w7 m7 X7
   replace B6 := Blk.eq (ys := [_, _]) X7 rfl
   clear X7
   replace G := G.abv m7
   replace hA := hA0.grow G
   replace hB := hB0.grow G
   replace hC := hC0.grow G
   replace hA3 := hA3.md m7
   replace hB3 := hB3.md m7
   replace hS4 := hS4.md m7
   replace OXw := OXw.md m7
   replace hAw := hAw.md m7
   replace hBw := hBw.md m7
   replace B1 := B1.md m7
   replace B4 := B4.md m7
   have zm7 := m7.size
   refine S_val (Y_assign rfl) ?_
   refine S_nl rfl rfl ?_
   refine th_n (hK10 _ _ ?_)
   clear hK10 K10
   refine wp_seq_k fun K11 hK11 => ?_
   refine Sb 117 rfl ?_  -- 8
   refine S_val (Y_loadS Try.underlying36 rfl sz36 rfl (B1.row (by rfl))) ?_  -- l3
   refine S_call rfl en20 (laws_toHeap_c _ _ _ _ _ _ _ (by assumption) (by assumption) (by omega)) ?_  -- k5 laws.toHeap
   rintro v8 w8 ⟨a8, b8, rs8, rfl, O8, g8⟩
   replace hA := hA.grow g8
   replace hB := hB.grow g8
   replace hC := hC.grow g8
   replace hA3 := hA3.grow g8
   replace hB3 := hB3.grow g8
   replace hS4 := hS4.grow g8
   replace OXw := OXw.grow g8
   replace hAw := hAw.grow g8
   replace hBw := hBw.grow g8
   replace G := G.grow g8
   replace B1 := B1.grow g8
   replace B4 := B4.grow g8
   replace B6 := B6.grow g8
   have zg8 := g8.size
   replace O8 := O8.lt
   have OH := O8
   have hXA := OH.rc
   have hXB := OH.r1
   refine S_alloc (cs := [_, _]) zr25 rfl ?_
   intro b9 w9 fb9 g9 B9
   have lb9 := B9.lt
   replace hA := hA.grow g9
   replace hB := hB.grow g9
   replace hC := hC.grow g9
   replace hA3 := hA3.grow g9
   replace hB3 := hB3.grow g9
   replace hS4 := hS4.grow g9
   replace OXw := OXw.grow g9
   replace hAw := hAw.grow g9
   replace hBw := hBw.grow g9
   replace OH := OH.grow g9
   replace hXA := hXA.grow g9
   replace hXB := hXB.grow g9
   replace G := G.grow g9
   replace B1 := B1.grow g9
   replace B4 := B4.grow g9
   replace B6 := B6.grow g9
   have zg9 := g9.size
   refine S_stM (pre := []) (old := [_, _]) (post := []) (vs := [_, _]) sz25 rfl rfl rfl (by first | rfl | assumption) B9 rfl rfl ?_
   intro w10 m10 X10
   replace B9 := Blk.eq (ys := [_, _]) X10 rfl
   clear X10
   replace G := G.abv m10
   replace hA := hA0.grow G
   replace hB := hB0.grow G
   replace hC := hC0.grow G
   replace hA3 := hA3.md m10
   replace hB3 := hB3.md m10
   replace hS4 := hS4.md m10
   replace OXw := OXw.md m10
   replace hAw := hAw.md m10
   replace hBw := hBw.md m10
   replace OH := OH.md m10
   replace hXA := hXA.md m10
   replace hXB := hXB.md m10
   replace B1 := B1.md m10
   replace B4 := B4.md m10
   replace B6 := B6.md m10
   have zm10 := m10.size
   refine S_nl rfl rfl ?_
   refine th_n (hK11 _ _ ?_)
   clear hK11 K11
   refine wp_seq_k fun K12 hK12 => ?_
   refine Sb 117 rfl ?_  -- 9
   refine S_val (Y_move rfl) ?_
   refine S_call rfl en26 (laws_toBoolS_c _ _ _ _ _ (by assumption) (by omega)) ?_  -- k6 laws.toBoolS
   rintro v11 w11 ⟨b11, rfl, fb11, B11, g11⟩
   replace hA := hA.grow g11
   replace hB := hB.grow g11
   replace hC := hC.grow g11
   replace hA3 := hA3.grow g11
   replace hB3 := hB3.grow g11
   replace hS4 := hS4.grow g11
   replace OXw := OXw.grow g11
   replace hAw := hAw.grow g11
   replace hBw := hBw.grow g11
   replace OH := OH.grow g11
   replace hXA := hXA.grow g11
   replace hXB := hXB.grow g11
   replace G := G.grow g11
   replace B1 := B1.grow g11
   replace B4 := B4.grow g11
   replace B6 := B6.grow g11
   replace B9 := B9.grow g11
   have zg11 := g11.size
   have lb11 := B11.lt
   have OS : OI (fun i => i = b11) w11 4 (some ⟨b11, 0, none⟩) (bools bs) := OI.of_blk' B11 rfl
   have hSS := OS.r1
   refine S_val (Y_assign rfl) ?_
   refine S_nl rfl rfl ?_
   refine th_n (hK12 _ _ ?_)
   clear hK12 K12
   refine wp_seq_k fun K13 hK13 => ?_
   refine Sb 117 rfl ?_  -- 10
   refine S_val (Y_loadS Try.underlying25 rfl sz25 rfl (B9.row (by rfl))) ?_  -- l4
   refine S_val (Y_move rfl) ?_
   refine S_call rfl en27 (impl_SweepCells_c _ _ _ _ _ _ _ _ _ _ _ (by assumption) (by assumption) (by assumption) (by omega) (by omega)) ?_  -- k7 impl.SweepCells
   rintro v12 w12 ⟨A12, B12, n112, c112, n212, c212, rs12, rfl, hn112, hn212, O12, g12⟩
   replace hA := hA.grow g12
   replace hB := hB.grow g12
   replace hC := hC.grow g12
   replace hA3 := hA3.grow g12
   replace hB3 := hB3.grow g12
   replace hS4 := hS4.grow g12
   replace OXw := OXw.grow g12
   replace hAw := hAw.grow g12
   replace hBw := hBw.grow g12
   replace OH := OH.grow g12
   replace hXA := hXA.grow g12
   replace hXB := hXB.grow g12
   replace OS := OS.grow g12
   replace hSS := hSS.grow g12
   replace G := G.grow g12
   replace B1 := B1.grow g12
   replace B4 := B4.grow g12
   replace B6 := B6.grow g12
   replace B9 := B9.grow g12
   have zg12 := g12.size
   subst hn112
   subst hn212
   replace O12 := O12.lt
   have OXg := O12
   have hAg := OXg.rc
   have hBg := OXg.r1
   refine S_val (Y_move rfl) ?_
   refine S_val (Y_extract rfl rfl) ?_
   refine S_val (Y_extract rfl rfl) ?_
   refine S_alloc (cs := [_, _]) zr25 rfl ?_
   intro b13 w13 fb13 g13 B13
   have lb13 := B13.lt
   replace hA := hA.grow g13
   replace hB := hB.grow g13
   replace hC := hC.grow g13
   replace hA3 := hA3.grow g13
   replace hB3 := hB3.grow g13
   replace hS4 := hS4.grow g13
   replace OXw := OXw.grow g13
   replace hAw := hAw.grow g13
   replace hBw := hBw.grow g13
   replace OH := OH.grow g13
   replace hXA := hXA.grow g13
   replace hXB := hXB.grow g13
   replace OS := OS.grow g13
   replace hSS := hSS.grow g13
   replace OXg := OXg.grow g13
   replace hAg := hAg.grow g13
   replace hBg := hBg.grow g13
   replace G := G.grow g13
   replace B1 := B1.grow g13
   replace B4 := B4.grow g13
   replace B6 := B6.grow g13
   replace B9 := B9.grow g13
   have zg13 := g13.size
   refine S_stM (pre := []) (old := [_, _]) (post := []) (vs := [_, _]) sz25 rfl rfl rfl (by first | rfl | assumption) B13 rfl rfl ?_
   intro w14 m14 X14
   replace B13 := Blk.eq (ys := [_, _]) X14 rfl
   clear X14
   replace G := G.abv m14
   replace hA := hA0.grow G
   replace hB := hB0.grow G
   replace hC := hC0.grow G
   replace hA3 := hA3.md m14
   replace hB3 := hB3.md m14
   replace hS4 := hS4.md m14
   replace OXw := OXw.md m14
   replace hAw := hAw.md m14
   replace hBw := hBw.md m14
   replace OH := OH.md m14
   replace hXA := hXA.md m14
   replace hXB := hXB.md m14
   replace OS := OS.md m14
   replace hSS := hSS.md m14
   replace OXg := OXg.md m14
   replace hAg := hAg.md m14
   replace hBg := hBg.md m14
   replace B1 := B1.md m14
   replace B4 := B4.md m14
   replace B6 := B6.md m14
   replace B9 := B9.md m14
   have zm14 := m14.size
   refine S_val (Y_assign rfl) ?_
   refine S_nl rfl rfl ?_
   refine th_n (hK13 _ _ ?_)
   clear hK13 K13
   refine wp_seq_k fun K14 hK14 => ?_
   refine wp_seq_k fun K15 hK15 => ?_
   refine Sb 117 rfl ?_  -- 11
   refine S_val (Y_loadS Try.underlying25 rfl sz25 rfl (B13.row (by rfl))) ?_  -- l5
   refine S_val (Y_loadS Try.underlying25 rfl sz25 rfl (B6.row (by rfl))) ?_  -- l6
   refine S_call rfl en13 (laws_eqHeap_c _ _ _ _ _ _ _ _ _ _ _ _ _ (by assumption) (by assumption) (by assumption) (by assumption) (by omega)) ?_  -- k8 laws.eqHeap
   rintro v15 w15 ⟨rfl, g15⟩
   replace hA := hA.grow g15
   replace hB := hB.grow g15
   replace hC := hC.grow g15
   replace hA3 := hA3.grow g15
   replace hB3 := hB3.grow g15
   replace hS4 := hS4.grow g15
   replace OXw := OXw.grow g15
   replace hAw := hAw.grow g15
   replace hBw := hBw.grow g15
   replace OH := OH.grow g15
   replace hXA := hXA.grow g15
   replace hXB := hXB.grow g15
   replace OS := OS.grow g15
   replace hSS := hSS.grow g15
   replace OXg := OXg.grow g15
   replace hAg := hAg.grow g15
   replace hBg := hBg.grow g15
   replace G := G.grow g15
   replace B1 := B1.grow g15
   replace B4 := B4.grow g15
   replace B6 := B6.grow g15
   replace B9 := B9.grow g15
   replace B13 := B13.grow g15
   have zg15 := g15.size
   refine S_val (Y_not rfl) ?_
   refine S_val (Y_move rfl) ?_
   refine S_g 47 rfl (fun hb3 => ?_) (fun hb3 => ?_)  -- g1
   · -- g1T
    first | with_reducible (replace hb3 := nb_nt hb3) | with_reducible (replace hb3 := nb_tt hb3) | with_reducible (replace hb3 := nb_bt hb3) | skip
    first | exact absurd rfl hb3 | omega | (simp at hb3)
   · -- g1F
    first | with_reducible (replace hb3 := nb_nf hb3) | with_reducible (replace hb3 := nb_tf hb3) | with_reducible (replace hb3 := nb_bf hb3) | skip
    refine S_on rfl rfl ?_
    refine S_val (Y_move rfl) ?_
    refine S_on rfl rfl ?_
    refine S_val (Y_move rfl) ?_
    refine S_on rfl rfl ?_
    refine S_val (Y_neq rfl rfl) ?_
    refine S_val (Y_pickF rfl rfl) ?_
    refine S_nl rfl rfl ?_
    refine th_n (hK15 _ _ ?_)
    clear hK15 K15
    refine S_if rfl (fun hb4 => ?_) (fun hb4 => ?_)  -- c3
    · -- c3T
     first | with_reducible (replace hb4 := nb_nt hb4) | with_reducible (replace hb4 := nb_tt hb4) | with_reducible (replace hb4 := nb_bt hb4) | skip
     first | exact absurd rfl hb4 | omega | (simp at hb4)
    · -- c3F
     first | with_reducible (replace hb4 := nb_nf hb4) | with_reducible (replace hb4 := nb_tf hb4) | with_reducible (replace hb4 := nb_bf hb4) | skip
     refine wp_skip ?_
     refine th_n (hK14 _ _ ?_)
     clear hK14 K14
     refine wp_seq_k fun K16 hK16 => ?_
     refine wp_seq_k fun K17 hK17 => ?_
     refine D_start 5 117 (fun w => Mod (No) w) follows rfl rfl ?_  -- d1 r13
     intro w16 g16
     replace hA := hA.grow g16
     replace hB := hB.grow g16
     replace hC := hC.grow g16
     replace hA3 := hA3.grow g16
     replace hB3 := hB3.grow g16
     replace hS4 := hS4.grow g16
     replace OXw := OXw.grow g16
     replace hAw := hAw.grow g16
     replace hBw := hBw.grow g16
     replace OH := OH.grow g16
     replace hXA := hXA.grow g16
     replace hXB := hXB.grow g16
     replace OS := OS.grow g16
     replace hSS := hSS.grow g16
     replace OXg := OXg.grow g16
     replace hAg := hAg.grow g16
     replace hBg := hBg.grow g16
     replace G := G.grow g16
     replace B1 := B1.grow g16
     replace B4 := B4.grow g16
     replace B6 := B6.grow g16
     replace B9 := B9.grow g16
     replace B13 := B13.grow g16
     have zg16 := g16.size
     have GS16 := Mod.refl (No) w16
     have B1d16 := B1
     have B9d16 := B9
     refine Dq (i := 0) rfl GS16 (fun _ hs => Y_loadS Try.underlying25 rfl sz25 rfl (by first | exact hs.cells0 (B9.row (by rfl)))) ?_
     refine Dq (i := 1) rfl GS16 (fun _ hs => Y_loadS Try.underlying36 rfl sz36 rfl (by first | exact hs.cells0 (B1.row (by rfl)))) ?_
     refine D_1 (i := 2) (by kernel_rfl) ?_
     refine E_call rfl rfl en20 (laws_toHeap_c _ _ _ _ _ _ _ (by assumption) (by assumption) (by omega)) ?_  -- k9 laws.toHeap
     rintro v17 w17 ⟨a17, b17, rs17, rfl, O17, g17⟩
     replace hA := hA.grow g17
     replace hB := hB.grow g17
     replace hC := hC.grow g17
     replace hA3 := hA3.grow g17
     replace hB3 := hB3.grow g17
     replace hS4 := hS4.grow g17
     replace OXw := OXw.grow g17
     replace hAw := hAw.grow g17
     replace hBw := hBw.grow g17
     replace OH := OH.grow g17
     replace hXA := hXA.grow g17
     replace hXB := hXB.grow g17
     replace OS := OS.grow g17
     replace hSS := hSS.grow g17
     replace OXg := OXg.grow g17
     replace hAg := hAg.grow g17
     replace hBg := hBg.grow g17
     replace G := G.grow g17
     replace GS16 := GS16.grow g17
     replace B1 := B1.grow g17
     replace B4 := B4.grow g17
     replace B6 := B6.grow g17
     replace B9 := B9.grow g17
     replace B13 := B13.grow g17
     have zg17 := g17.size
     replace O17 := O17.lt
     have hA17 := O17.rc
     have hB17 := O17.r1
     refine ⟨GS16, ?_⟩
     refine D_1 (i := 3) (by kernel_rfl) ?_
     refine E_call rfl rfl en13 (laws_eqHeap_c _ _ _ _ _ _ _ _ _ _ _ _ _ (by assumption) (by assumption) (by assumption) (by assumption) (by omega)) ?_  -- k10 laws.eqHeap
     rintro v18 w18 ⟨rfl, g18⟩
     replace hA := hA.grow g18
     replace hB := hB.grow g18
     replace hC := hC.grow g18
     replace hA3 := hA3.grow g18
     replace hB3 := hB3.grow g18
     replace hS4 := hS4.grow g18
     replace OXw := OXw.grow g18
     replace hAw := hAw.grow g18
     replace hBw := hBw.grow g18
     replace OH := OH.grow g18
     replace hXA := hXA.grow g18
     replace hXB := hXB.grow g18
     replace OS := OS.grow g18
     replace hSS := hSS.grow g18
     replace OXg := OXg.grow g18
     replace hAg := hAg.grow g18
     replace hBg := hBg.grow g18
     replace hA17 := hA17.grow g18
     replace hB17 := hB17.grow g18
     replace G := G.grow g18
     replace GS16 := GS16.grow g18
     replace B1 := B1.grow g18
     replace B4 := B4.grow g18
     replace B6 := B6.grow g18
     replace B9 := B9.grow g18
     replace B13 := B13.grow g18
     have zg18 := g18.size
     refine ⟨GS16, ?_⟩
     refine Dq (i := 4) rfl GS16 (fun _ _ => Y_not rfl) ?_
     refine D_en (by kernel_rfl) rfl rfl ?_
     refine th_n (hK17 _ _ ?_)
     clear hK17 K17
     refine S_if rfl (fun hb5 => ?_) (fun hb5 => ?_)  -- c4
     · -- c4T
      first | with_reducible (replace hb5 := nb_nt hb5) | with_reducible (replace hb5 := nb_tt hb5) | with_reducible (replace hb5 := nb_bt hb5) | skip
      first | exact absurd rfl hb5 | omega | (simp at hb5)
     · -- c4F
      first | with_reducible (replace hb5 := nb_nf hb5) | with_reducible (replace hb5 := nb_tf hb5) | with_reducible (replace hb5 := nb_bf hb5) | skip
      refine wp_skip ?_
      refine th_n (hK16 _ _ ?_)
      clear hK16 K16
      refine wp_seq_k fun K18 hK18 => ?_
      refine wp_seq_k fun K19 hK19 => ?_
      refine Sb 117 rfl ?_  -- 15
      refine S_val (Y_move rfl) ?_
      refine S_val (Y_move rfl) ?_
      refine S_call rfl en26 (laws_toBoolS_c _ _ _ _ _ (by assumption) (by omega)) ?_  -- k11 laws.toBoolS
      rintro v19 w19 ⟨b19, rfl, fb19, B19, g19⟩
      replace hA := hA.grow g19
      replace hB := hB.grow g19
      replace hC := hC.grow g19
      replace hA3 := hA3.grow g19
      replace hB3 := hB3.grow g19
      replace hS4 := hS4.grow g19
      replace OXw := OXw.grow g19
      replace hAw := hAw.grow g19
      replace hBw := hBw.grow g19
      replace OH := OH.grow g19
      replace hXA := hXA.grow g19
      replace hXB := hXB.grow g19
      replace OS := OS.grow g19
      replace hSS := hSS.grow g19
      replace OXg := OXg.grow g19
      replace hAg := hAg.grow g19
      replace hBg := hBg.grow g19
      replace hA17 := hA17.grow g19
      replace hB17 := hB17.grow g19
      replace G := G.grow g19
      replace B1 := B1.grow g19
      replace B4 := B4.grow g19
      replace B6 := B6.grow g19
      replace B9 := B9.grow g19
      replace B13 := B13.grow g19
      have zg19 := g19.size
      have lb19 := B19.lt
      have hS19 := R1.of_blkE B19
      refine S_call rfl en22 (laws_eqBoolS_c _ _ _ _ _ _ _ _ _ (by assumption) (by assumption) (by omega)) ?_  -- k12 laws.eqBoolS
      rintro v20 w20 ⟨rfl, g20⟩
      replace hA := hA.grow g20
      replace hB := hB.grow g20
      replace hC := hC.grow g20
      replace hA3 := hA3.grow g20
      replace hB3 := hB3.grow g20
      replace hS4 := hS4.grow g20
      replace OXw := OXw.grow g20
      replace hAw := hAw.grow g20
      replace hBw := hBw.grow g20
      replace OH := OH.grow g20
      replace hXA := hXA.grow g20
      replace hXB := hXB.grow g20
      replace OS := OS.grow g20
      replace hSS := hSS.grow g20
      replace OXg := OXg.grow g20
      replace hAg := hAg.grow g20
      replace hBg := hBg.grow g20
      replace hA17 := hA17.grow g20
      replace hB17 := hB17.grow g20
      replace hS19 := hS19.grow g20
      replace G := G.grow g20
      replace B1 := B1.grow g20
      replace B4 := B4.grow g20
      replace B6 := B6.grow g20
      replace B9 := B9.grow g20
      replace B13 := B13.grow g20
      replace B19 := B19.grow g20
      have zg20 := g20.size
      refine S_val (Y_not rfl) ?_
      refine S_nl rfl rfl ?_
      refine th_n (hK19 _ _ ?_)
      clear hK19 K19
      refine S_if rfl (fun hb6 => ?_) (fun hb6 => ?_)  -- c5
      · -- c5T
       first | with_reducible (replace hb6 := nb_nt hb6) | with_reducible (replace hb6 := nb_tt hb6) | with_reducible (replace hb6 := nb_bt hb6) | skip
       first | exact absurd rfl hb6 | omega | (simp at hb6)
      · -- c5F
       first | with_reducible (replace hb6 := nb_nf hb6) | with_reducible (replace hb6 := nb_tf hb6) | with_reducible (replace hb6 := nb_bf hb6) | skip
       refine wp_skip ?_
       refine th_n (hK18 _ _ ?_)
       clear hK18 K18
       refine wp_seq_k fun K20 hK20 => ?_
       refine Sb 117 rfl ?_  -- 17
       refine S_val (Y_assign rfl) ?_
       refine S_nl rfl rfl ?_
       refine th_n (hK20 _ _ ?_)
       clear hK20 K20
       refine wp_seq_k fun K21 hK21 => ?_
       refine Sb 117 rfl ?_  -- 18
       refine S_val (Y_loadS Try.underlying25 rfl sz25 rfl (B9.row (by rfl))) ?_  -- l9
       refine S_val (Y_move rfl) ?_
       refine S_call rfl en16 (laws_markHeap_c _ _ _ _ _ _ _ _ _ OH (by omega) ⟨by omega, by omega⟩) ?_  -- k13 laws.markHeap
       rintro v21 w21 ⟨rfl, O21, m21⟩
       replace G := G.abv m21
       replace hA := hA0.grow G
       replace hB := hB0.grow G
       replace hC := hC0.grow G
       replace hA3 := hA3.md m21
       replace hB3 := hB3.md m21
       replace hS4 := hS4.md m21
       replace OXw := OXw.md m21
       replace hAw := hAw.md m21
       replace hBw := hBw.md m21
       replace OS := OS.md m21
       replace hSS := hSS.md m21
       replace OXg := OXg.md m21
       replace hAg := hAg.md m21
       replace hBg := hBg.md m21
       replace hA17 := hA17.md m21
       replace hB17 := hB17.md m21
       replace hS19 := hS19.md m21
       replace B1 := B1.md m21
       replace B4 := B4.md m21
       replace B6 := B6.md m21
       replace B9 := B9.md m21
       replace B13 := B13.md m21
       replace B19 := B19.md m21
       have zm21 := m21.size
       refine S_val (Y_assign rfl) ?_
       refine S_nl rfl rfl ?_
       refine th_n (hK21 _ _ ?_)
       clear hK21 K21
       refine wp_seq_k fun K22 hK22 => ?_
       refine Sb 117 rfl ?_  -- 19
       refine S_val (Y_move rfl) ?_
       refine S_val (Y_move rfl) ?_
       refine S_call rfl en23 (markBoolS_p _ _ _ _ _ _ _ OS rfl (by omega) ⟨by omega, by omega⟩) ?_  -- k14 laws.markBoolS
       rintro v22 w22 ⟨rfl, O22, m22⟩
       replace G := G.abv m22
       replace hA := hA0.grow G
       replace hB := hB0.grow G
       replace hC := hC0.grow G
       replace hA3 := hA3.md m22
       replace hB3 := hB3.md m22
       replace hS4 := hS4.md m22
       replace OXw := OXw.md m22
       replace hAw := hAw.md m22
       replace hBw := hBw.md m22
       replace OXg := OXg.md m22
       replace hAg := hAg.md m22
       replace hBg := hBg.md m22
       replace hA17 := hA17.md m22
       replace hB17 := hB17.md m22
       replace hS19 := hS19.md m22
       replace B1 := B1.md m22
       replace B4 := B4.md m22
       replace B6 := B6.md m22
       replace B9 := B9.md m22
       replace B13 := B13.md m22
       replace B19 := B19.md m22
       have zm22 := m22.size
       refine S_val (Y_assign rfl) ?_
       refine S_nl rfl rfl ?_
       refine th_n (hK22 _ _ ?_)
       clear hK22 K22
       refine wp_seq_k fun K23 hK23 => ?_
       refine wp_seq_k fun K24 hK24 => ?_
       refine Sb 117 rfl ?_  -- 20
       refine S_val (Y_move rfl) ?_
       refine S_val (Y_lss rfl rfl) ?_
       refine S_val (Y_move rfl) ?_
       refine S_g 70 rfl (fun hb7 => ?_) (fun hb7 => ?_)  -- g2
       · -- g2T
        replace hb7 := nb_tt hb7
        first | exact absurd rfl hb7 | omega | (simp at hb7)
       · -- g2F
        replace hb7 := nb_tf hb7
        refine S_on rfl rfl ?_
        refine S_val (Y_loadS Try.underlying25 rfl sz25 rfl (B13.row (by rfl))) ?_  -- l10
        refine S_on rfl rfl ?_
        refine S_val (Y_loadS Try.underlying25 rfl sz25 rfl (B6.row (by rfl))) ?_  -- l11
        refine S_on rfl rfl ?_
        refine S_call rfl en13 (laws_eqHeap_c _ _ _ _ _ _ _ _ _ _ _ _ _ (by assumption) (by assumption) (by assumption) (by assumption) (by omega)) ?_  -- k15 laws.eqHeap
        rintro v23 w23 ⟨rfl, g23⟩
        replace hA := hA.grow g23
        replace hB := hB.grow g23
        replace hC := hC.grow g23
        replace hA3 := hA3.grow g23
        replace hB3 := hB3.grow g23
        replace hS4 := hS4.grow g23
        replace OXw := OXw.grow g23
        replace hAw := hAw.grow g23
        replace hBw := hBw.grow g23
        replace OXg := OXg.grow g23
        replace hAg := hAg.grow g23
        replace hBg := hBg.grow g23
        replace hA17 := hA17.grow g23
        replace hB17 := hB17.grow g23
        replace hS19 := hS19.grow g23
        replace G := G.grow g23
        replace B1 := B1.grow g23
        replace B4 := B4.grow g23
        replace B6 := B6.grow g23
        replace B9 := B9.grow g23
        replace B13 := B13.grow g23
        replace B19 := B19.grow g23
        have zg23 := g23.size
        refine S_on rfl rfl ?_
        refine S_val (Y_not rfl) ?_
        refine S_val (Y_pickF rfl rfl) ?_
        refine S_val (Y_move rfl) ?_
        refine S_g 76 rfl (fun hb8 => ?_) (fun hb8 => ?_)  -- g3
        · -- g3T
         first | with_reducible (replace hb8 := nb_nt hb8) | with_reducible (replace hb8 := nb_tt hb8) | with_reducible (replace hb8 := nb_bt hb8) | skip
         first | exact absurd rfl hb8 | omega | (simp at hb8)
        · -- g3F
         first | with_reducible (replace hb8 := nb_nf hb8) | with_reducible (replace hb8 := nb_tf hb8) | with_reducible (replace hb8 := nb_bf hb8) | skip
         refine S_on rfl rfl ?_
         refine S_val (Y_move rfl) ?_
         refine S_on rfl rfl ?_
         refine S_val (Y_move rfl) ?_
         refine S_on rfl rfl ?_
         refine S_val (Y_neq rfl rfl) ?_
         refine S_val (Y_pickF rfl rfl) ?_
         refine S_nl rfl rfl ?_
         refine th_n (hK24 _ _ ?_)
         clear hK24 K24
         refine S_if rfl (fun hb9 => ?_) (fun hb9 => ?_)  -- c6
         · -- c6T
          first | with_reducible (replace hb9 := nb_nt hb9) | with_reducible (replace hb9 := nb_tt hb9) | with_reducible (replace hb9 := nb_bt hb9) | skip
          first | exact absurd rfl hb9 | omega | (simp at hb9)
         · -- c6F
          first | with_reducible (replace hb9 := nb_nf hb9) | with_reducible (replace hb9 := nb_tf hb9) | with_reducible (replace hb9 := nb_bf hb9) | skip
          refine wp_skip ?_
          refine th_n (hK23 _ _ ?_)
          clear hK23 K23
          refine wp_seq_k fun K25 hK25 => ?_
          refine Sb 117 rfl ?_  -- 22
          refine S_val (Y_assign rfl) ?_
          refine S_nl rfl rfl ?_
          refine th_n (hK25 _ _ ?_)
          clear hK25 K25
          refine wp_seq_k fun K26 hK26 => ?_
          refine Sb 117 rfl ?_  -- 23
          refine S_val (Y_loadS Try.underlying25 rfl sz25 rfl (B13.row (by rfl))) ?_  -- l12
          refine S_val (Y_move rfl) ?_
          refine S_call rfl en16 (laws_markHeap_c _ _ _ _ _ _ _ _ _ OXg (by omega) ⟨by omega, by omega⟩) ?_  -- k16 laws.markHeap
          rintro v24 w24 ⟨rfl, O24, m24⟩
          replace G := G.abv m24
          replace hA := hA0.grow G
          replace hB := hB0.grow G
          replace hC := hC0.grow G
          replace hA3 := hA3.md m24
          replace hB3 := hB3.md m24
          replace hS4 := hS4.md m24
          replace OXw := OXw.md m24
          replace hAw := hAw.md m24
          replace hBw := hBw.md m24
          replace hA17 := hA17.md m24
          replace hB17 := hB17.md m24
          replace hS19 := hS19.md m24
          replace B1 := B1.md m24
          replace B4 := B4.md m24
          replace B6 := B6.md m24
          replace B9 := B9.md m24
          replace B13 := B13.md m24
          replace B19 := B19.md m24
          have zm24 := m24.size
          have hMA := O24.rc
          have hMB := O24.r1
          refine S_val (Y_assign rfl) ?_
          refine S_nl rfl rfl ?_
          refine th_n (hK26 _ _ ?_)
          clear hK26 K26
          refine wp_seq_k fun K27 hK27 => ?_
          refine Sb 117 rfl ?_  -- 24
          refine S_val (Y_assign rfl) ?_
          refine S_nl rfl rfl ?_
          refine th_n (hK27 _ _ ?_)
          clear hK27 K27
          refine wp_seq_k fun K28 hK28 => ?_
          refine Sb 117 rfl ?_  -- 25
          refine S_val (Y_loadS Try.underlying25 rfl sz25 rfl (B13.row (by rfl))) ?_  -- l13
          refine S_val (Y_move rfl) ?_
          refine S_call rfl en17 (laws_heldHeap_c _ _ _ _ _ _ _ _ hMA hMB (by omega) ⟨by omega, by omega⟩) ?_  -- k17 laws.heldHeap
          rintro v25 w25 ⟨rfl, g25⟩
          replace hA := hA.grow g25
          replace hB := hB.grow g25
          replace hC := hC.grow g25
          replace hA3 := hA3.grow g25
          replace hB3 := hB3.grow g25
          replace hS4 := hS4.grow g25
          replace OXw := OXw.grow g25
          replace hAw := hAw.grow g25
          replace hBw := hBw.grow g25
          replace hA17 := hA17.grow g25
          replace hB17 := hB17.grow g25
          replace hS19 := hS19.grow g25
          replace hMA := hMA.grow g25
          replace hMB := hMB.grow g25
          replace G := G.grow g25
          replace B1 := B1.grow g25
          replace B4 := B4.grow g25
          replace B6 := B6.grow g25
          replace B9 := B9.grow g25
          replace B13 := B13.grow g25
          replace B19 := B19.grow g25
          have zg25 := g25.size
          refine S_val (Y_assign rfl) ?_
          refine S_nl rfl rfl ?_
          refine th_n (hK28 _ _ ?_)
          clear hK28 K28
          refine wp_seq_k fun K29 hK29 => ?_
          refine wp_seq_k fun K30 hK30 => ?_
          refine Sb 117 rfl ?_  -- 26
          refine S_val (Y_move rfl) ?_
          refine S_val (Y_lss rfl rfl) ?_
          refine S_nl rfl rfl ?_
          refine th_n (hK30 _ _ ?_)
          clear hK30 K30
          refine S_if rfl (fun hb10 => ?_) (fun hb10 => ?_)  -- c7
          · -- c7T
           replace hb10 := nb_tt hb10
           first | exact absurd rfl hb10 | omega | (simp at hb10)
          · -- c7F
           replace hb10 := nb_tf hb10
           refine wp_skip ?_
           refine th_n (hK29 _ _ ?_)
           clear hK29 K29
           refine wp_seq_k fun K31 hK31 => ?_
           refine wp_seq_k fun K32 hK32 => ?_
           refine Sb 117 rfl ?_  -- 28
           refine S_val (Y_move rfl) ?_
           refine S_val (Y_move rfl) ?_
           refine S_val (Y_neq rfl rfl) ?_
           refine S_nl rfl rfl ?_
           refine th_n (hK32 _ _ ?_)
           clear hK32 K32
           refine S_if rfl (fun hb11 => ?_) (fun hb11 => ?_)  -- c8
           · -- c8T
            replace hb11 := nb_nt hb11
            first | exact absurd rfl hb11 | omega | (simp at hb11)
           · -- c8F
            replace hb11 := nb_nf hb11
            refine wp_skip ?_
            refine th_n (hK31 _ _ ?_)
            clear hK31 K31
            refine wp_seq_k fun K33 hK33 => ?_
            refine Sb 117 rfl ?_  -- 30
            refine S_val (Y_loadS Try.underlying36 rfl sz36 rfl (B1.row (by rfl))) ?_  -- l14
            refine S_call rfl en20 (laws_toHeap_c _ _ _ _ _ _ _ (by assumption) (by assumption) (by omega)) ?_  -- k18 laws.toHeap
            rintro v26 w26 ⟨a26, b26, rs26, rfl, O26, g26⟩
            replace hA := hA.grow g26
            replace hB := hB.grow g26
            replace hC := hC.grow g26
            replace hA3 := hA3.grow g26
            replace hB3 := hB3.grow g26
            replace hS4 := hS4.grow g26
            replace OXw := OXw.grow g26
            replace hAw := hAw.grow g26
            replace hBw := hBw.grow g26
            replace hA17 := hA17.grow g26
            replace hB17 := hB17.grow g26
            replace hS19 := hS19.grow g26
            replace hMA := hMA.grow g26
            replace hMB := hMB.grow g26
            replace G := G.grow g26
            replace B1 := B1.grow g26
            replace B4 := B4.grow g26
            replace B6 := B6.grow g26
            replace B9 := B9.grow g26
            replace B13 := B13.grow g26
            replace B19 := B19.grow g26
            have zg26 := g26.size
            replace O26 := O26.lt
            have hA26 := O26.rc
            have hB26 := O26.r1
            refine S_val (Y_move rfl) ?_
            refine S_call rfl en26 (laws_toBoolS_c _ _ _ _ _ (by assumption) (by omega)) ?_  -- k19 laws.toBoolS
            rintro v27 w27 ⟨b27, rfl, fb27, B27, g27⟩
            replace hA := hA.grow g27
            replace hB := hB.grow g27
            replace hC := hC.grow g27
            replace hA3 := hA3.grow g27
            replace hB3 := hB3.grow g27
            replace hS4 := hS4.grow g27
            replace OXw := OXw.grow g27
            replace hAw := hAw.grow g27
            replace hBw := hBw.grow g27
            replace hA17 := hA17.grow g27
            replace hB17 := hB17.grow g27
            replace hS19 := hS19.grow g27
            replace hMA := hMA.grow g27
            replace hMB := hMB.grow g27
            replace hA26 := hA26.grow g27
            replace hB26 := hB26.grow g27
            replace G := G.grow g27
            replace B1 := B1.grow g27
            replace B4 := B4.grow g27
            replace B6 := B6.grow g27
            replace B9 := B9.grow g27
            replace B13 := B13.grow g27
            replace B19 := B19.grow g27
            have zg27 := g27.size
            have lb27 := B27.lt
            have hS27 := R1.of_blkE B27
            refine S_call rfl en27 (impl_SweepCells_c _ _ _ _ _ _ _ _ _ _ _ (by assumption) (by assumption) (by assumption) (by omega) (by omega)) ?_  -- k20 impl.SweepCells
            rintro v28 w28 ⟨A28, B28, n128, c128, n228, c228, rs28, rfl, hn128, hn228, O28, g28⟩
            replace hA := hA.grow g28
            replace hB := hB.grow g28
            replace hC := hC.grow g28
            replace hA3 := hA3.grow g28
            replace hB3 := hB3.grow g28
            replace hS4 := hS4.grow g28
            replace OXw := OXw.grow g28
            replace hAw := hAw.grow g28
            replace hBw := hBw.grow g28
            replace hA17 := hA17.grow g28
            replace hB17 := hB17.grow g28
            replace hS19 := hS19.grow g28
            replace hMA := hMA.grow g28
            replace hMB := hMB.grow g28
            replace hA26 := hA26.grow g28
            replace hB26 := hB26.grow g28
            replace hS27 := hS27.grow g28
            replace G := G.grow g28
            replace B1 := B1.grow g28
            replace B4 := B4.grow g28
            replace B6 := B6.grow g28
            replace B9 := B9.grow g28
            replace B13 := B13.grow g28
            replace B19 := B19.grow g28
            replace B27 := B27.grow g28
            have zg28 := g28.size
            subst hn128
            subst hn228
            replace O28 := O28.lt
            have OXh := O28
            have hAh := OXh.rc
            have hBh := OXh.r1
            refine S_val (Y_move rfl) ?_
            refine S_val (Y_extract rfl rfl) ?_
            refine S_val (Y_extract rfl rfl) ?_
            refine S_alloc (cs := [_, _]) zr25 rfl ?_
            intro b29 w29 fb29 g29 B29
            have lb29 := B29.lt
            replace hA := hA.grow g29
            replace hB := hB.grow g29
            replace hC := hC.grow g29
            replace hA3 := hA3.grow g29
            replace hB3 := hB3.grow g29
            replace hS4 := hS4.grow g29
            replace OXw := OXw.grow g29
            replace hAw := hAw.grow g29
            replace hBw := hBw.grow g29
            replace hA17 := hA17.grow g29
            replace hB17 := hB17.grow g29
            replace hS19 := hS19.grow g29
            replace hMA := hMA.grow g29
            replace hMB := hMB.grow g29
            replace hA26 := hA26.grow g29
            replace hB26 := hB26.grow g29
            replace hS27 := hS27.grow g29
            replace OXh := OXh.grow g29
            replace hAh := hAh.grow g29
            replace hBh := hBh.grow g29
            replace G := G.grow g29
            replace B1 := B1.grow g29
            replace B4 := B4.grow g29
            replace B6 := B6.grow g29
            replace B9 := B9.grow g29
            replace B13 := B13.grow g29
            replace B19 := B19.grow g29
            replace B27 := B27.grow g29
            have zg29 := g29.size
            refine S_stM (pre := []) (old := [_, _]) (post := []) (vs := [_, _]) sz25 rfl rfl rfl (by first | rfl | assumption) B29 rfl rfl ?_
            intro w30 m30 X30
            replace B29 := Blk.eq (ys := [_, _]) X30 rfl
            clear X30
            replace G := G.abv m30
            replace hA := hA0.grow G
            replace hB := hB0.grow G
            replace hC := hC0.grow G
            replace hA3 := hA3.md m30
            replace hB3 := hB3.md m30
            replace hS4 := hS4.md m30
            replace OXw := OXw.md m30
            replace hAw := hAw.md m30
            replace hBw := hBw.md m30
            replace hA17 := hA17.md m30
            replace hB17 := hB17.md m30
            replace hS19 := hS19.md m30
            replace hMA := hMA.md m30
            replace hMB := hMB.md m30
            replace hA26 := hA26.md m30
            replace hB26 := hB26.md m30
            replace hS27 := hS27.md m30
            replace OXh := OXh.md m30
            replace hAh := hAh.md m30
            replace hBh := hBh.md m30
            replace B1 := B1.md m30
            replace B4 := B4.md m30
            replace B6 := B6.md m30
            replace B9 := B9.md m30
            replace B13 := B13.md m30
            replace B19 := B19.md m30
            replace B27 := B27.md m30
            have zm30 := m30.size
            refine S_val (Y_assign rfl) ?_
            refine S_nl rfl rfl ?_
            refine th_n (hK33 _ _ ?_)
            clear hK33 K33
            refine wp_seq_k fun K34 hK34 => ?_
            refine wp_seq_k fun K35 hK35 => ?_
            refine Sb 117 rfl ?_  -- 31
            refine S_val (Y_loadS Try.underlying25 rfl sz25 rfl (B29.row (by rfl))) ?_  -- l15
            refine S_val (Y_loadS Try.underlying25 rfl sz25 rfl (B6.row (by rfl))) ?_  -- l16
            refine S_call rfl en13 (laws_eqHeap_c _ _ _ _ _ _ _ _ _ _ _ _ _ (by assumption) (by assumption) (by assumption) (by assumption) (by omega)) ?_  -- k21 laws.eqHeap
            rintro v31 w31 ⟨rfl, g31⟩
            replace hA := hA.grow g31
            replace hB := hB.grow g31
            replace hC := hC.grow g31
            replace hA3 := hA3.grow g31
            replace hB3 := hB3.grow g31
            replace hS4 := hS4.grow g31
            replace OXw := OXw.grow g31
            replace hAw := hAw.grow g31
            replace hBw := hBw.grow g31
            replace hA17 := hA17.grow g31
            replace hB17 := hB17.grow g31
            replace hS19 := hS19.grow g31
            replace hMA := hMA.grow g31
            replace hMB := hMB.grow g31
            replace hA26 := hA26.grow g31
            replace hB26 := hB26.grow g31
            replace hS27 := hS27.grow g31
            replace OXh := OXh.grow g31
            replace hAh := hAh.grow g31
            replace hBh := hBh.grow g31
            replace G := G.grow g31
            replace B1 := B1.grow g31
            replace B4 := B4.grow g31
            replace B6 := B6.grow g31
            replace B9 := B9.grow g31
            replace B13 := B13.grow g31
            replace B19 := B19.grow g31
            replace B27 := B27.grow g31
            replace B29 := B29.grow g31
            have zg31 := g31.size
            refine S_val (Y_not rfl) ?_
            refine S_val (Y_move rfl) ?_
            refine S_g 104 rfl (fun hb12 => ?_) (fun hb12 => ?_)  -- g4
            · -- g4T
             first | with_reducible (replace hb12 := nb_nt hb12) | with_reducible (replace hb12 := nb_tt hb12) | with_reducible (replace hb12 := nb_bt hb12) | skip
             first | exact absurd rfl hb12 | omega | (simp at hb12)
            · -- g4F
             first | with_reducible (replace hb12 := nb_nf hb12) | with_reducible (replace hb12 := nb_tf hb12) | with_reducible (replace hb12 := nb_bf hb12) | skip
             refine S_on rfl rfl ?_
             refine S_val (Y_move rfl) ?_
             refine S_on rfl rfl ?_
             refine S_val (Y_move rfl) ?_
             refine S_on rfl rfl ?_
             refine S_val (Y_neq rfl rfl) ?_
             refine S_val (Y_pickF rfl rfl) ?_
             refine S_nl rfl rfl ?_
             refine th_n (hK35 _ _ ?_)
             clear hK35 K35
             refine S_if rfl (fun hb13 => ?_) (fun hb13 => ?_)  -- c9
             · -- c9T
              first | with_reducible (replace hb13 := nb_nt hb13) | with_reducible (replace hb13 := nb_tt hb13) | with_reducible (replace hb13 := nb_bt hb13) | skip
              first | exact absurd rfl hb13 | omega | (simp at hb13)
             · -- c9F
              first | with_reducible (replace hb13 := nb_nf hb13) | with_reducible (replace hb13 := nb_tf hb13) | with_reducible (replace hb13 := nb_bf hb13) | skip
              refine wp_skip ?_
              refine th_n (hK34 _ _ ?_)
              clear hK34 K34
              refine wp_seq_k fun K36 hK36 => ?_
              refine Sb 117 rfl ?_  -- 33
              refine S_val (Y_assign rfl) ?_
              refine S_nl rfl rfl ?_
              refine th_n (hK36 _ _ ?_)
              clear hK36 K36
              refine wp_seq_k fun K37 hK37 => ?_
              refine Sb 117 rfl ?_  -- 34
              refine S_val (Y_loadS Try.underlying25 rfl sz25 rfl (B13.row (by rfl))) ?_  -- l17
              refine S_val (Y_move rfl) ?_
              refine S_call rfl en17 (laws_heldHeap_c _ _ _ _ _ _ _ _ hMA hMB (by omega) ⟨by omega, by omega⟩) ?_  -- k22 laws.heldHeap
              rintro v32 w32 ⟨rfl, g32⟩
              replace hA := hA.grow g32
              replace hB := hB.grow g32
              replace hC := hC.grow g32
              replace hA3 := hA3.grow g32
              replace hB3 := hB3.grow g32
              replace hS4 := hS4.grow g32
              replace OXw := OXw.grow g32
              replace hAw := hAw.grow g32
              replace hBw := hBw.grow g32
              replace hA17 := hA17.grow g32
              replace hB17 := hB17.grow g32
              replace hS19 := hS19.grow g32
              replace hMA := hMA.grow g32
              replace hMB := hMB.grow g32
              replace hA26 := hA26.grow g32
              replace hB26 := hB26.grow g32
              replace hS27 := hS27.grow g32
              replace OXh := OXh.grow g32
              replace hAh := hAh.grow g32
              replace hBh := hBh.grow g32
              replace G := G.grow g32
              replace B1 := B1.grow g32
              replace B4 := B4.grow g32
              replace B6 := B6.grow g32
              replace B9 := B9.grow g32
              replace B13 := B13.grow g32
              replace B19 := B19.grow g32
              replace B27 := B27.grow g32
              replace B29 := B29.grow g32
              have zg32 := g32.size
              refine S_val (Y_assign rfl) ?_
              refine S_nl rfl rfl ?_
              refine th_n (hK37 _ _ ?_)
              clear hK37 K37
              refine wp_seq_k fun K38 hK38 => ?_
              refine wp_seq_k fun K39 hK39 => ?_
              refine Sb 117 rfl ?_  -- 35
              refine S_val (Y_move rfl) ?_
              refine S_val (Y_lss rfl rfl) ?_
              refine S_nl rfl rfl ?_
              refine th_n (hK39 _ _ ?_)
              clear hK39 K39
              refine S_if rfl (fun hb14 => ?_) (fun hb14 => ?_)  -- c10
              · -- c10T
               replace hb14 := nb_tt hb14
               first | exact absurd rfl hb14 | omega | (simp at hb14)
              · -- c10F
               replace hb14 := nb_tf hb14
               refine wp_skip ?_
               refine th_n (hK38 _ _ ?_)
               clear hK38 K38
               refine wp_seq_k fun K40 hK40 => ?_
               refine wp_seq_k fun K41 hK41 => ?_
               refine Sb 117 rfl ?_  -- 37
               refine S_val (Y_move rfl) ?_
               refine S_val (Y_move rfl) ?_
               refine S_val (Y_neq rfl rfl) ?_
               refine S_nl rfl rfl ?_
               refine th_n (hK41 _ _ ?_)
               clear hK41 K41
               refine S_if rfl (fun hb15 => ?_) (fun hb15 => ?_)  -- c11
               · -- c11T
                replace hb15 := nb_nt hb15
                first | exact absurd rfl hb15 | omega | (simp at hb15)
               · -- c11F
                replace hb15 := nb_nf hb15
                refine wp_skip ?_
                refine th_n (hK40 _ _ ?_)
                clear hK40 K40
                refine wp_seq_k fun K42 hK42 => ?_
                refine Sb 117 rfl ?_  -- 39
                refine S_val (Y_assign rfl) ?_
                refine S_nl rfl rfl ?_
                refine th_n (hK42 _ _ ?_)
                clear hK42 K42
                refine wp_ret ?_
                refine ret_r1 rfl rfl ?_  -- r3
                exact ⟨rfl, G⟩

end Go.Proofs.Ytjmfdmndchoplaa
