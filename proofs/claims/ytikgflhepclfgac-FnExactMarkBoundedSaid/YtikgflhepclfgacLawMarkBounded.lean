/-
  The law FnExactMarkBounded returns true.
  Conditions: those that each theorem states.
-/
import Derived.Test.YtikgflhepclfgacQa5
set_option linter.unusedVariables false
set_option linter.unusedSimpArgs false
namespace Go.Proofs.Ytikgflhepclfgac
open Go Go.RowKit
attribute [local irreducible] wpList wpAnyH Code.wp dOp

set_option maxHeartbeats 400000 in
set_option maxRecDepth 20000 in
theorem laws_FnExactMarkBounded_c (Pr : Nat → Prop) (A B : Option Addr) (h : LH) (c d : Nat) (x : Int) (w : World) (hA : RC Pr w A h.cells) (hB : R1 Pr w B (ints h.roots)) (hn : h.cells.length ≤ 9223372036854775807) (hN : ∀ x ∈ h.cells, x.refs.length ≤ 9223372036854775807) (hm : h.roots.length ≤ 9223372036854775807) (hx : -9223372036854775808 ≤ x ∧ x ≤ 9223372036854775807) :
    Calls Try.prog 3 #[.agg #[.slice A h.cells.length c, .slice B h.roots.length d], .int .i64 x] w (Ret fun v w' => v = .bool true ∧ Grow w w') := by
 refine enter Try.func3 rfl Try.ntmps3 (L := [_,_,_,_,_,_,_,_,_,_,_,_,_,_,_,_,_,_,_,_,_,_,_,_,_,_,_,_,_,_,_,_,_,_,_,_,_,_,_,_,_,_,_,_,_,_,_,_,_,_,_,_,_,_,_,_,_,_,_,_,_,_,_,_,_,_,_,_,_,_,_,_,_,_,_,_,_,_,_,_,_,_,_,_,_,_,_,_,_,_,_,_,_,_,_,_,_,_,_,_,_]) rfl ?_
 have G := Mod.refl No w
 have hA0 := hA
 have hB0 := hB
 refine wp_seq_k fun K1 hK1 => ?_
 refine Sb 101 rfl ?_  -- 0
 refine S_box (cs := [_, _]) rfl rfl ?_
 intro b1 w1 fb1 g1 B1
 have lb1 := B1.lt
 replace hA := hA.grow g1
 replace hB := hB.grow g1
 replace G := G.grow g1
 have zg1 := g1.size
 refine S_val (Y_assign rfl) ?_
 refine S_nl rfl rfl ?_
 refine th_n (hK1 _ _ ?_)
 clear hK1 K1
 refine wp_seq_k fun K2 hK2 => ?_
 refine Sb 101 rfl ?_  -- 1
 refine S_val (Y_assign rfl) ?_
 refine S_nl rfl rfl ?_
 refine th_n (hK2 _ _ ?_)
 clear hK2 K2
 refine wp_seq_k fun K3 hK3 => ?_
 refine Sb 101 rfl ?_  -- 2
 refine S_val (Y_loadS Try.underlying25 rfl sz25 rfl (B1.row (by rfl))) ?_  -- l1
 refine S_val (Y_move rfl) ?_
 refine S_call rfl en11 (laws_szHeap_c _ _ _ _ _ _ _ _ (by assumption) (by omega) (by assumption) (by omega) (by omega) (by omega)) ?_  -- k1 laws.szHeap
 rintro v2 w2 ⟨r2, rfl, hr2, g2⟩
 replace hA := hA.grow g2
 replace hB := hB.grow g2
 replace G := G.grow g2
 replace B1 := B1.grow g2
 have zg2 := g2.size
 refine S_val (Y_assign rfl) ?_
 refine S_nl rfl rfl ?_
 refine th_n (hK3 _ _ ?_)
 clear hK3 K3
 refine wp_seq_k fun K4 hK4 => ?_
 refine wp_seq_k fun K5 hK5 => ?_
 refine Sb 101 rfl ?_  -- 3
 refine S_val (Y_move rfl) ?_
 refine S_val (Y_lss rfl rfl) ?_
 refine S_nl rfl rfl ?_
 refine th_n (hK5 _ _ ?_)
 clear hK5 K5
 refine S_if rfl (fun hb1 => ?_) (fun hb1 => ?_)  -- c1
 · -- c1T
  replace hb1 := nb_tt hb1
  refine wp_seq_k fun K6 hK6 => ?_
  refine Sb 101 rfl ?_  -- 4
  refine S_val (Y_assign rfl) ?_
  refine S_nl rfl rfl ?_
  refine th_n (hK6 _ _ ?_)
  clear hK6 K6
  refine wp_ret ?_
  refine th_r ?_
  clear hK4 K4
  refine ret_r1 rfl rfl ?_  -- r1
  exact ⟨rfl, G⟩
 · -- c1F
  replace hb1 := nb_tf hb1
  have hz : hsize h ≤ 1048576 := by omega
  have hbd : (boundV h x).1.length ≤ 1048576 := by have := boundV_len h x; have := hsize_cells h; omega
  have hk9 : kEnd 1 h ≤ 4194304 := by
    have := kAt_le (k := 1) (cs := h.cells) (Nat.le_refl _)
    unfold kEnd
    unfold hsize at hz
    omega
  have hk8 := kEnd_ge 1 h
  refine wp_skip ?_
  refine th_n (hK4 _ _ ?_)
  clear hK4 K4
  refine wp_seq_k fun K7 hK7 => ?_
  refine Sb 101 rfl ?_  -- 5
  refine S_val (Y_loadS Try.underlying25 rfl sz25 rfl (B1.row (by rfl))) ?_  -- l2
  refine S_call rfl en13 (laws_toHeap_c _ _ _ _ _ _ _ (by assumption) (by assumption) (by omega)) ?_  -- k2 laws.toHeap
  rintro v3 w3 ⟨a3, b3, rs3, rfl, O3, g3⟩
  replace hA := hA.grow g3
  replace hB := hB.grow g3
  replace G := G.grow g3
  replace B1 := B1.grow g3
  have zg3 := g3.size
  replace O3 := O3.lt
  have hA3 := O3.rc
  have hB3 := O3.r1
  refine S_val (Y_move rfl) ?_
  refine S_call rfl en12 (spec_MarkBounded_c _ _ _ _ _ _ _ _ (by assumption) (by assumption) (by omega)) ?_  -- k3 spec.MarkBounded
  rintro v4 w4 ⟨A4, q4, cap4, rfl, hq4, O4, g4⟩
  replace hA := hA.grow g4
  replace hB := hB.grow g4
  replace hA3 := hA3.grow g4
  replace hB3 := hB3.grow g4
  replace G := G.grow g4
  replace B1 := B1.grow g4
  have zg4 := g4.size
  subst hq4
  replace O4 := O4.lt
  have OXw := O4
  have hRw := OXw.r1
  refine S_val (Y_move rfl) ?_
  refine S_val (Y_extract rfl rfl) ?_
  refine S_val (Y_extract rfl rfl) ?_
  refine S_val (Y_assign rfl) ?_
  refine S_val (Y_assign rfl) ?_
  refine S_nl rfl rfl ?_
  refine th_n (hK7 _ _ ?_)
  clear hK7 K7
  refine wp_seq_k fun K8 hK8 => ?_
  refine Sb 101 rfl ?_  -- 6
  refine S_val (Y_loadS Try.underlying25 rfl sz25 rfl (B1.row (by rfl))) ?_  -- l3
  refine S_call rfl en13 (laws_toHeap_c _ _ _ _ _ _ _ (by assumption) (by assumption) (by omega)) ?_  -- k4 laws.toHeap
  rintro v5 w5 ⟨a5, b5, rs5, rfl, O5, g5⟩
  replace hA := hA.grow g5
  replace hB := hB.grow g5
  replace hA3 := hA3.grow g5
  replace hB3 := hB3.grow g5
  replace OXw := OXw.grow g5
  replace hRw := hRw.grow g5
  replace G := G.grow g5
  replace B1 := B1.grow g5
  have zg5 := g5.size
  replace O5 := O5.lt
  have OH := O5
  have hXA := OH.rc
  have hXB := OH.r1
  refine S_alloc (cs := [_, _]) zr32 rfl ?_
  intro b6 w6 fb6 g6 B6
  have lb6 := B6.lt
  replace hA := hA.grow g6
  replace hB := hB.grow g6
  replace hA3 := hA3.grow g6
  replace hB3 := hB3.grow g6
  replace OXw := OXw.grow g6
  replace hRw := hRw.grow g6
  replace OH := OH.grow g6
  replace hXA := hXA.grow g6
  replace hXB := hXB.grow g6
  replace G := G.grow g6
  replace B1 := B1.grow g6
  have zg6 := g6.size
  refine S_stM (pre := []) (old := [_, _]) (post := []) (vs := [_, _]) sz32 rfl rfl rfl (by first | rfl | assumption) B6 rfl rfl ?_
  intro w7 m7 X7
  replace B6 := Blk.eq (ys := [_, _]) X7 rfl
  clear X7
  replace G := G.abv m7
  replace hA := hA0.grow G
  replace hB := hB0.grow G
  replace hA3 := hA3.md m7
  replace hB3 := hB3.md m7
  replace OXw := OXw.md m7
  replace hRw := hRw.md m7
  replace OH := OH.md m7
  replace hXA := hXA.md m7
  replace hXB := hXB.md m7
  replace B1 := B1.md m7
  have zm7 := m7.size
  refine S_nl rfl rfl ?_
  refine th_n (hK8 _ _ ?_)
  clear hK8 K8
  refine wp_seq_k fun K9 hK9 => ?_
  refine Sb 101 rfl ?_  -- 7
  refine S_val (Y_loadS Try.underlying32 rfl sz32 rfl (B6.row (by rfl))) ?_  -- l4
  refine S_val (Y_move rfl) ?_
  refine S_call rfl en14 (impl_MarkBounded_c _ _ _ _ _ _ _ _ (by assumption) (by assumption) (by omega)) ?_  -- k5 impl.MarkBounded
  rintro v8 w8 ⟨A8, q8, cap8, rfl, hq8, O8, g8⟩
  replace hA := hA.grow g8
  replace hB := hB.grow g8
  replace hA3 := hA3.grow g8
  replace hB3 := hB3.grow g8
  replace OXw := OXw.grow g8
  replace hRw := hRw.grow g8
  replace OH := OH.grow g8
  replace hXA := hXA.grow g8
  replace hXB := hXB.grow g8
  replace G := G.grow g8
  replace B1 := B1.grow g8
  replace B6 := B6.grow g8
  have zg8 := g8.size
  subst hq8
  replace O8 := O8.lt
  have OXg := O8
  have hRg := OXg.r1
  refine S_val (Y_move rfl) ?_
  refine S_val (Y_extract rfl rfl) ?_
  refine S_val (Y_extract rfl rfl) ?_
  refine S_val (Y_assign rfl) ?_
  refine S_val (Y_assign rfl) ?_
  refine S_nl rfl rfl ?_
  refine th_n (hK9 _ _ ?_)
  clear hK9 K9
  refine wp_seq_k fun K10 hK10 => ?_
  refine wp_seq_k fun K11 hK11 => ?_
  refine Sb 101 rfl ?_  -- 8
  refine S_val (Y_move rfl) ?_
  refine S_val (Y_move rfl) ?_
  refine S_call rfl en15 (laws_eqBoolS_c _ _ _ _ _ _ _ _ _ (by assumption) (by assumption) (by omega)) ?_  -- k6 laws.eqBoolS
  rintro v9 w9 ⟨rfl, g9⟩
  replace hA := hA.grow g9
  replace hB := hB.grow g9
  replace hA3 := hA3.grow g9
  replace hB3 := hB3.grow g9
  replace OXw := OXw.grow g9
  replace hRw := hRw.grow g9
  replace OH := OH.grow g9
  replace hXA := hXA.grow g9
  replace hXB := hXB.grow g9
  replace OXg := OXg.grow g9
  replace hRg := hRg.grow g9
  replace G := G.grow g9
  replace B1 := B1.grow g9
  replace B6 := B6.grow g9
  have zg9 := g9.size
  refine S_val (Y_not rfl) ?_
  refine S_val (Y_move rfl) ?_
  refine S_g 40 rfl (fun hb2 => ?_) (fun hb2 => ?_)  -- g1
  · -- g1T
   first | with_reducible (replace hb2 := nb_nt hb2) | with_reducible (replace hb2 := nb_tt hb2) | with_reducible (replace hb2 := nb_bt hb2) | skip
   first | exact absurd rfl hb2 | omega | (simp at hb2)
  · -- g1F
   first | with_reducible (replace hb2 := nb_nf hb2) | with_reducible (replace hb2 := nb_tf hb2) | with_reducible (replace hb2 := nb_bf hb2) | skip
   refine S_on rfl rfl ?_
   refine S_val (Y_move rfl) ?_
   refine S_on rfl rfl ?_
   refine S_val (Y_move rfl) ?_
   refine S_on rfl rfl ?_
   refine S_val (Y_neq rfl rfl) ?_
   refine S_val (Y_pickF rfl rfl) ?_
   refine S_nl rfl rfl ?_
   refine th_n (hK11 _ _ ?_)
   clear hK11 K11
   refine S_if rfl (fun hb3 => ?_) (fun hb3 => ?_)  -- c2
   · -- c2T
    first | with_reducible (replace hb3 := nb_nt hb3) | with_reducible (replace hb3 := nb_tt hb3) | with_reducible (replace hb3 := nb_bt hb3) | skip
    first | exact absurd rfl hb3 | omega | (simp at hb3)
   · -- c2F
    first | with_reducible (replace hb3 := nb_nf hb3) | with_reducible (replace hb3 := nb_tf hb3) | with_reducible (replace hb3 := nb_bf hb3) | skip
    refine wp_skip ?_
    refine th_n (hK10 _ _ ?_)
    clear hK10 K10
    refine wp_seq_k fun K12 hK12 => ?_
    refine wp_seq_k fun K13 hK13 => ?_
    refine D_start 5 101 (fun w => Mod (No) w) follows rfl rfl ?_  -- d1 r10
    intro w10 g10
    replace hA := hA.grow g10
    replace hB := hB.grow g10
    replace hA3 := hA3.grow g10
    replace hB3 := hB3.grow g10
    replace OXw := OXw.grow g10
    replace hRw := hRw.grow g10
    replace OH := OH.grow g10
    replace hXA := hXA.grow g10
    replace hXB := hXB.grow g10
    replace OXg := OXg.grow g10
    replace hRg := hRg.grow g10
    replace G := G.grow g10
    replace B1 := B1.grow g10
    replace B6 := B6.grow g10
    have zg10 := g10.size
    have GS10 := Mod.refl (No) w10
    have B1d10 := B1
    have B6d10 := B6
    refine Dq (i := 0) rfl GS10 (fun _ hs => Y_loadS Try.underlying32 rfl sz32 rfl (by first | exact hs.cells0 (B6.row (by rfl)))) ?_
    refine Dq (i := 1) rfl GS10 (fun _ hs => Y_loadS Try.underlying25 rfl sz25 rfl (by first | exact hs.cells0 (B1.row (by rfl)))) ?_
    refine D_1 (i := 2) (by kernel_rfl) ?_
    refine E_call rfl rfl en13 (laws_toHeap_c _ _ _ _ _ _ _ (by assumption) (by assumption) (by omega)) ?_  -- k7 laws.toHeap
    rintro v11 w11 ⟨a11, b11, rs11, rfl, O11, g11⟩
    replace hA := hA.grow g11
    replace hB := hB.grow g11
    replace hA3 := hA3.grow g11
    replace hB3 := hB3.grow g11
    replace OXw := OXw.grow g11
    replace hRw := hRw.grow g11
    replace OH := OH.grow g11
    replace hXA := hXA.grow g11
    replace hXB := hXB.grow g11
    replace OXg := OXg.grow g11
    replace hRg := hRg.grow g11
    replace G := G.grow g11
    replace GS10 := GS10.grow g11
    replace B1 := B1.grow g11
    replace B6 := B6.grow g11
    have zg11 := g11.size
    replace O11 := O11.lt
    have hA11 := O11.rc
    have hB11 := O11.r1
    refine ⟨GS10, ?_⟩
    refine D_1 (i := 3) (by kernel_rfl) ?_
    refine E_call rfl rfl en16 (laws_eqHeap_c _ _ _ _ _ _ _ _ _ _ _ _ _ (by assumption) (by assumption) (by assumption) (by assumption) (by omega)) ?_  -- k8 laws.eqHeap
    rintro v12 w12 ⟨rfl, g12⟩
    replace hA := hA.grow g12
    replace hB := hB.grow g12
    replace hA3 := hA3.grow g12
    replace hB3 := hB3.grow g12
    replace OXw := OXw.grow g12
    replace hRw := hRw.grow g12
    replace OH := OH.grow g12
    replace hXA := hXA.grow g12
    replace hXB := hXB.grow g12
    replace OXg := OXg.grow g12
    replace hRg := hRg.grow g12
    replace hA11 := hA11.grow g12
    replace hB11 := hB11.grow g12
    replace G := G.grow g12
    replace GS10 := GS10.grow g12
    replace B1 := B1.grow g12
    replace B6 := B6.grow g12
    have zg12 := g12.size
    refine ⟨GS10, ?_⟩
    refine Dq (i := 4) rfl GS10 (fun _ _ => Y_not rfl) ?_
    refine D_en (by kernel_rfl) rfl rfl ?_
    refine th_n (hK13 _ _ ?_)
    clear hK13 K13
    refine S_if rfl (fun hb4 => ?_) (fun hb4 => ?_)  -- c3
    · -- c3T
     first | with_reducible (replace hb4 := nb_nt hb4) | with_reducible (replace hb4 := nb_tt hb4) | with_reducible (replace hb4 := nb_bt hb4) | skip
     first | exact absurd rfl hb4 | omega | (simp at hb4)
    · -- c3F
     first | with_reducible (replace hb4 := nb_nf hb4) | with_reducible (replace hb4 := nb_tf hb4) | with_reducible (replace hb4 := nb_bf hb4) | skip
     refine wp_skip ?_
     refine th_n (hK12 _ _ ?_)
     clear hK12 K12
     refine wp_seq_k fun K14 hK14 => ?_
     refine Sb 101 rfl ?_  -- 12
     refine S_val (Y_assign rfl) ?_
     refine S_nl rfl rfl ?_
     refine th_n (hK14 _ _ ?_)
     clear hK14 K14
     refine wp_seq_k fun K15 hK15 => ?_
     refine Sb 101 rfl ?_  -- 13
     refine S_val (Y_loadS Try.underlying32 rfl sz32 rfl (B6.row (by rfl))) ?_  -- l7
     refine S_val (Y_move rfl) ?_
     refine S_call rfl en17 (laws_markHeap_c _ _ _ _ _ _ _ _ _ OH (by omega) ⟨by omega, by omega⟩) ?_  -- k9 laws.markHeap
     rintro v13 w13 ⟨rfl, O13, m13⟩
     replace G := G.abv m13
     replace hA := hA0.grow G
     replace hB := hB0.grow G
     replace hA3 := hA3.md m13
     replace hB3 := hB3.md m13
     replace OXw := OXw.md m13
     replace hRw := hRw.md m13
     replace OXg := OXg.md m13
     replace hRg := hRg.md m13
     replace hA11 := hA11.md m13
     replace hB11 := hB11.md m13
     replace B1 := B1.md m13
     replace B6 := B6.md m13
     have zm13 := m13.size
     refine S_val (Y_assign rfl) ?_
     refine S_nl rfl rfl ?_
     refine th_n (hK15 _ _ ?_)
     clear hK15 K15
     refine wp_seq_k fun K16 hK16 => ?_
     refine wp_seq_k fun K17 hK17 => ?_
     refine Sb 101 rfl ?_  -- 14
     refine S_val (Y_move rfl) ?_
     refine S_val (Y_lss rfl rfl) ?_
     refine S_val (Y_move rfl) ?_
     refine S_g 55 rfl (fun hb5 => ?_) (fun hb5 => ?_)  -- g2
     · -- g2T
      replace hb5 := nb_tt hb5
      first | exact absurd rfl hb5 | omega | (simp at hb5)
     · -- g2F
      replace hb5 := nb_tf hb5
      refine S_on rfl rfl ?_
      refine S_val (Y_move rfl) ?_
      refine S_on rfl rfl ?_
      refine S_val (Y_move rfl) ?_
      refine S_on rfl rfl ?_
      refine S_call rfl en15 (laws_eqBoolS_c _ _ _ _ _ _ _ _ _ (by assumption) (by assumption) (by omega)) ?_  -- k10 laws.eqBoolS
      rintro v14 w14 ⟨rfl, g14⟩
      replace hA := hA.grow g14
      replace hB := hB.grow g14
      replace hA3 := hA3.grow g14
      replace hB3 := hB3.grow g14
      replace OXw := OXw.grow g14
      replace hRw := hRw.grow g14
      replace OXg := OXg.grow g14
      replace hRg := hRg.grow g14
      replace hA11 := hA11.grow g14
      replace hB11 := hB11.grow g14
      replace G := G.grow g14
      replace B1 := B1.grow g14
      replace B6 := B6.grow g14
      have zg14 := g14.size
      refine S_on rfl rfl ?_
      refine S_val (Y_not rfl) ?_
      refine S_val (Y_pickF rfl rfl) ?_
      refine S_val (Y_move rfl) ?_
      refine S_g 61 rfl (fun hb6 => ?_) (fun hb6 => ?_)  -- g3
      · -- g3T
       first | with_reducible (replace hb6 := nb_nt hb6) | with_reducible (replace hb6 := nb_tt hb6) | with_reducible (replace hb6 := nb_bt hb6) | skip
       first | exact absurd rfl hb6 | omega | (simp at hb6)
      · -- g3F
       first | with_reducible (replace hb6 := nb_nf hb6) | with_reducible (replace hb6 := nb_tf hb6) | with_reducible (replace hb6 := nb_bf hb6) | skip
       refine S_on rfl rfl ?_
       refine S_val (Y_move rfl) ?_
       refine S_on rfl rfl ?_
       refine S_val (Y_move rfl) ?_
       refine S_on rfl rfl ?_
       refine S_val (Y_neq rfl rfl) ?_
       refine S_val (Y_pickF rfl rfl) ?_
       refine S_nl rfl rfl ?_
       refine th_n (hK17 _ _ ?_)
       clear hK17 K17
       refine S_if rfl (fun hb7 => ?_) (fun hb7 => ?_)  -- c4
       · -- c4T
        first | with_reducible (replace hb7 := nb_nt hb7) | with_reducible (replace hb7 := nb_tt hb7) | with_reducible (replace hb7 := nb_bt hb7) | skip
        first | exact absurd rfl hb7 | omega | (simp at hb7)
       · -- c4F
        first | with_reducible (replace hb7 := nb_nf hb7) | with_reducible (replace hb7 := nb_tf hb7) | with_reducible (replace hb7 := nb_bf hb7) | skip
        refine wp_skip ?_
        refine th_n (hK16 _ _ ?_)
        clear hK16 K16
        refine wp_seq_k fun K18 hK18 => ?_
        refine Sb 101 rfl ?_  -- 16
        refine S_val (Y_assign rfl) ?_
        refine S_nl rfl rfl ?_
        refine th_n (hK18 _ _ ?_)
        clear hK18 K18
        refine wp_seq_k fun K19 hK19 => ?_
        refine Sb 101 rfl ?_  -- 17
        refine S_val (Y_move rfl) ?_
        refine S_val (Y_move rfl) ?_
        refine S_call rfl en18 (markBoolS_p _ _ _ _ _ _ _ OXg rfl (by omega) ⟨by omega, by omega⟩) ?_  -- k11 laws.markBoolS
        rintro v15 w15 ⟨rfl, O15, m15⟩
        replace G := G.abv m15
        replace hA := hA0.grow G
        replace hB := hB0.grow G
        replace hA3 := hA3.md m15
        replace hB3 := hB3.md m15
        replace OXw := OXw.md m15
        replace hRw := hRw.md m15
        replace hA11 := hA11.md m15
        replace hB11 := hB11.md m15
        replace B1 := B1.md m15
        replace B6 := B6.md m15
        have zm15 := m15.size
        have hM := O15.r1
        refine S_val (Y_assign rfl) ?_
        refine S_nl rfl rfl ?_
        refine th_n (hK19 _ _ ?_)
        clear hK19 K19
        refine wp_seq_k fun K20 hK20 => ?_
        refine Sb 101 rfl ?_  -- 18
        refine S_val (Y_assign rfl) ?_
        refine S_nl rfl rfl ?_
        refine th_n (hK20 _ _ ?_)
        clear hK20 K20
        refine wp_seq_k fun K21 hK21 => ?_
        refine Sb 101 rfl ?_  -- 19
        refine S_val (Y_move rfl) ?_
        refine S_val (Y_move rfl) ?_
        refine S_call rfl en19 (laws_heldBoolS_c _ _ _ _ _ _ hM (by omega) ⟨by omega, by omega⟩) ?_  -- k12 laws.heldBoolS
        rintro v16 w16 ⟨rfl, g16⟩
        replace hA := hA.grow g16
        replace hB := hB.grow g16
        replace hA3 := hA3.grow g16
        replace hB3 := hB3.grow g16
        replace OXw := OXw.grow g16
        replace hRw := hRw.grow g16
        replace hA11 := hA11.grow g16
        replace hB11 := hB11.grow g16
        replace hM := hM.grow g16
        replace G := G.grow g16
        replace B1 := B1.grow g16
        replace B6 := B6.grow g16
        have zg16 := g16.size
        refine S_val (Y_assign rfl) ?_
        refine S_nl rfl rfl ?_
        refine th_n (hK21 _ _ ?_)
        clear hK21 K21
        refine wp_seq_k fun K22 hK22 => ?_
        refine wp_seq_k fun K23 hK23 => ?_
        refine Sb 101 rfl ?_  -- 20
        refine S_val (Y_move rfl) ?_
        refine S_val (Y_lss rfl rfl) ?_
        refine S_nl rfl rfl ?_
        refine th_n (hK23 _ _ ?_)
        clear hK23 K23
        refine S_if rfl (fun hb8 => ?_) (fun hb8 => ?_)  -- c5
        · -- c5T
         replace hb8 := nb_tt hb8
         first | exact absurd rfl hb8 | omega | (simp at hb8)
        · -- c5F
         replace hb8 := nb_tf hb8
         refine wp_skip ?_
         refine th_n (hK22 _ _ ?_)
         clear hK22 K22
         refine wp_seq_k fun K24 hK24 => ?_
         refine wp_seq_k fun K25 hK25 => ?_
         refine Sb 101 rfl ?_  -- 22
         refine S_val (Y_move rfl) ?_
         refine S_val (Y_move rfl) ?_
         refine S_val (Y_neq rfl rfl) ?_
         refine S_nl rfl rfl ?_
         refine th_n (hK25 _ _ ?_)
         clear hK25 K25
         refine S_if rfl (fun hb9 => ?_) (fun hb9 => ?_)  -- c6
         · -- c6T
          replace hb9 := nb_nt hb9
          first | exact absurd rfl hb9 | omega | (simp at hb9)
         · -- c6F
          replace hb9 := nb_nf hb9
          refine wp_skip ?_
          refine th_n (hK24 _ _ ?_)
          clear hK24 K24
          refine wp_seq_k fun K26 hK26 => ?_
          refine Sb 101 rfl ?_  -- 24
          refine S_val (Y_loadS Try.underlying25 rfl sz25 rfl (B1.row (by rfl))) ?_  -- l8
          refine S_call rfl en13 (laws_toHeap_c _ _ _ _ _ _ _ (by assumption) (by assumption) (by omega)) ?_  -- k13 laws.toHeap
          rintro v17 w17 ⟨a17, b17, rs17, rfl, O17, g17⟩
          replace hA := hA.grow g17
          replace hB := hB.grow g17
          replace hA3 := hA3.grow g17
          replace hB3 := hB3.grow g17
          replace OXw := OXw.grow g17
          replace hRw := hRw.grow g17
          replace hA11 := hA11.grow g17
          replace hB11 := hB11.grow g17
          replace hM := hM.grow g17
          replace G := G.grow g17
          replace B1 := B1.grow g17
          replace B6 := B6.grow g17
          have zg17 := g17.size
          replace O17 := O17.lt
          have hA17 := O17.rc
          have hB17 := O17.r1
          refine S_val (Y_move rfl) ?_
          refine S_call rfl en14 (impl_MarkBounded_c _ _ _ _ _ _ _ _ (by assumption) (by assumption) (by omega)) ?_  -- k14 impl.MarkBounded
          rintro v18 w18 ⟨A18, q18, cap18, rfl, hq18, O18, g18⟩
          replace hA := hA.grow g18
          replace hB := hB.grow g18
          replace hA3 := hA3.grow g18
          replace hB3 := hB3.grow g18
          replace OXw := OXw.grow g18
          replace hRw := hRw.grow g18
          replace hA11 := hA11.grow g18
          replace hB11 := hB11.grow g18
          replace hM := hM.grow g18
          replace hA17 := hA17.grow g18
          replace hB17 := hB17.grow g18
          replace G := G.grow g18
          replace B1 := B1.grow g18
          replace B6 := B6.grow g18
          have zg18 := g18.size
          subst hq18
          replace O18 := O18.lt
          have OXh := O18
          have hRh := OXh.r1
          refine S_val (Y_move rfl) ?_
          refine S_val (Y_extract rfl rfl) ?_
          refine S_val (Y_extract rfl rfl) ?_
          refine S_val (Y_assign rfl) ?_
          refine S_val (Y_assign rfl) ?_
          refine S_nl rfl rfl ?_
          refine th_n (hK26 _ _ ?_)
          clear hK26 K26
          refine wp_seq_k fun K27 hK27 => ?_
          refine wp_seq_k fun K28 hK28 => ?_
          refine Sb 101 rfl ?_  -- 25
          refine S_val (Y_move rfl) ?_
          refine S_val (Y_move rfl) ?_
          refine S_call rfl en15 (laws_eqBoolS_c _ _ _ _ _ _ _ _ _ (by assumption) (by assumption) (by omega)) ?_  -- k15 laws.eqBoolS
          rintro v19 w19 ⟨rfl, g19⟩
          replace hA := hA.grow g19
          replace hB := hB.grow g19
          replace hA3 := hA3.grow g19
          replace hB3 := hB3.grow g19
          replace OXw := OXw.grow g19
          replace hRw := hRw.grow g19
          replace hA11 := hA11.grow g19
          replace hB11 := hB11.grow g19
          replace hM := hM.grow g19
          replace hA17 := hA17.grow g19
          replace hB17 := hB17.grow g19
          replace OXh := OXh.grow g19
          replace hRh := hRh.grow g19
          replace G := G.grow g19
          replace B1 := B1.grow g19
          replace B6 := B6.grow g19
          have zg19 := g19.size
          refine S_val (Y_not rfl) ?_
          refine S_val (Y_move rfl) ?_
          refine S_g 88 rfl (fun hb10 => ?_) (fun hb10 => ?_)  -- g4
          · -- g4T
           first | with_reducible (replace hb10 := nb_nt hb10) | with_reducible (replace hb10 := nb_tt hb10) | with_reducible (replace hb10 := nb_bt hb10) | skip
           first | exact absurd rfl hb10 | omega | (simp at hb10)
          · -- g4F
           first | with_reducible (replace hb10 := nb_nf hb10) | with_reducible (replace hb10 := nb_tf hb10) | with_reducible (replace hb10 := nb_bf hb10) | skip
           refine S_on rfl rfl ?_
           refine S_val (Y_move rfl) ?_
           refine S_on rfl rfl ?_
           refine S_val (Y_move rfl) ?_
           refine S_on rfl rfl ?_
           refine S_val (Y_neq rfl rfl) ?_
           refine S_val (Y_pickF rfl rfl) ?_
           refine S_nl rfl rfl ?_
           refine th_n (hK28 _ _ ?_)
           clear hK28 K28
           refine S_if rfl (fun hb11 => ?_) (fun hb11 => ?_)  -- c7
           · -- c7T
            first | with_reducible (replace hb11 := nb_nt hb11) | with_reducible (replace hb11 := nb_tt hb11) | with_reducible (replace hb11 := nb_bt hb11) | skip
            first | exact absurd rfl hb11 | omega | (simp at hb11)
           · -- c7F
            first | with_reducible (replace hb11 := nb_nf hb11) | with_reducible (replace hb11 := nb_tf hb11) | with_reducible (replace hb11 := nb_bf hb11) | skip
            refine wp_skip ?_
            refine th_n (hK27 _ _ ?_)
            clear hK27 K27
            refine wp_seq_k fun K29 hK29 => ?_
            refine Sb 101 rfl ?_  -- 27
            refine S_val (Y_assign rfl) ?_
            refine S_nl rfl rfl ?_
            refine th_n (hK29 _ _ ?_)
            clear hK29 K29
            refine wp_seq_k fun K30 hK30 => ?_
            refine Sb 101 rfl ?_  -- 28
            refine S_val (Y_move rfl) ?_
            refine S_val (Y_move rfl) ?_
            refine S_call rfl en19 (laws_heldBoolS_c _ _ _ _ _ _ hM (by omega) ⟨by omega, by omega⟩) ?_  -- k16 laws.heldBoolS
            rintro v20 w20 ⟨rfl, g20⟩
            replace hA := hA.grow g20
            replace hB := hB.grow g20
            replace hA3 := hA3.grow g20
            replace hB3 := hB3.grow g20
            replace OXw := OXw.grow g20
            replace hRw := hRw.grow g20
            replace hA11 := hA11.grow g20
            replace hB11 := hB11.grow g20
            replace hM := hM.grow g20
            replace hA17 := hA17.grow g20
            replace hB17 := hB17.grow g20
            replace OXh := OXh.grow g20
            replace hRh := hRh.grow g20
            replace G := G.grow g20
            replace B1 := B1.grow g20
            replace B6 := B6.grow g20
            have zg20 := g20.size
            refine S_val (Y_assign rfl) ?_
            refine S_nl rfl rfl ?_
            refine th_n (hK30 _ _ ?_)
            clear hK30 K30
            refine wp_seq_k fun K31 hK31 => ?_
            refine wp_seq_k fun K32 hK32 => ?_
            refine Sb 101 rfl ?_  -- 29
            refine S_val (Y_move rfl) ?_
            refine S_val (Y_lss rfl rfl) ?_
            refine S_nl rfl rfl ?_
            refine th_n (hK32 _ _ ?_)
            clear hK32 K32
            refine S_if rfl (fun hb12 => ?_) (fun hb12 => ?_)  -- c8
            · -- c8T
             replace hb12 := nb_tt hb12
             first | exact absurd rfl hb12 | omega | (simp at hb12)
            · -- c8F
             replace hb12 := nb_tf hb12
             refine wp_skip ?_
             refine th_n (hK31 _ _ ?_)
             clear hK31 K31
             refine wp_seq_k fun K33 hK33 => ?_
             refine wp_seq_k fun K34 hK34 => ?_
             refine Sb 101 rfl ?_  -- 31
             refine S_val (Y_move rfl) ?_
             refine S_val (Y_move rfl) ?_
             refine S_val (Y_neq rfl rfl) ?_
             refine S_nl rfl rfl ?_
             refine th_n (hK34 _ _ ?_)
             clear hK34 K34
             refine S_if rfl (fun hb13 => ?_) (fun hb13 => ?_)  -- c9
             · -- c9T
              replace hb13 := nb_nt hb13
              first | exact absurd rfl hb13 | omega | (simp at hb13)
             · -- c9F
              replace hb13 := nb_nf hb13
              refine wp_skip ?_
              refine th_n (hK33 _ _ ?_)
              clear hK33 K33
              refine wp_seq_k fun K35 hK35 => ?_
              refine Sb 101 rfl ?_  -- 33
              refine S_val (Y_assign rfl) ?_
              refine S_nl rfl rfl ?_
              refine th_n (hK35 _ _ ?_)
              clear hK35 K35
              refine wp_ret ?_
              refine ret_r1 rfl rfl ?_  -- r2
              exact ⟨rfl, G⟩

end Go.Proofs.Ytikgflhepclfgac
