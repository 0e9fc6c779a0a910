/-
  The law FnExactHeapOf returns true.
  Conditions: those that each theorem states.
-/
import Derived.Test.YtjmfdmndchoplaaTy
import Derived.Test.YtjmfdmndchoplaaWalkOf
namespace Go.Proofs.Ytjmfdmndchoplaa
open Go Go.RowKit
attribute [local irreducible] wpList wpAnyH Code.wp dOp

set_option maxHeartbeats 400000 in
set_option maxRecDepth 20000 in
theorem laws_FnExactHeapOf_c (Pr : Nat → Prop) (A : Option Addr) (xs : List Int) (c : Nat) (w : World) (hA : R1 Pr w A (ints xs)) (hn : xs.length ≤ 9223372036854775807) :
    Calls Try.prog 3 #[.slice A xs.length c] w (Ret fun v w' => v = .bool true ∧ Grow w w') := by
 refine enter Try.func3 rfl Try.ntmps3 (L := [_,_,_,_,_,_,_,_,_,_,_,_,_,_,_,_,_,_,_,_,_,_,_,_,_,_,_,_,_,_,_,_,_,_,_,_,_,_,_,_,_,_,_,_,_,_,_,_,_,_,_,_,_,_,_,_,_,_,_,_,_,_,_,_,_,_,_,_,_,_,_,_,_,_,_,_,_,_,_,_,_,_,_,_,_,_,_,_,_,_,_,_,_]) rfl ?_
 have G := Mod.refl No w
 have hA0 := hA
 refine wp_seq_k fun K1 hK1 => ?_
 refine Sb 93 rfl ?_  -- 0
 refine S_val (Y_assign rfl) ?_
 refine S_nl rfl rfl ?_
 refine th_n (hK1 _ _ ?_)
 clear hK1 K1
 refine wp_seq_k fun K2 hK2 => ?_
 refine wp_seq_k fun K3 hK3 => ?_
 refine Sb 93 rfl ?_  -- 1
 refine S_val (Y_move rfl) ?_
 refine S_val (Y_len Try.underlying22 rfl) ?_
 refine S_val (Y_gtr rfl rfl) ?_
 refine S_nl rfl rfl ?_
 refine th_n (hK3 _ _ ?_)
 clear hK3 K3
 refine S_if rfl (fun hb1 => ?_) (fun hb1 => ?_)  -- c1
 · -- c1T
  replace hb1 := nb_tt hb1
  refine wp_seq_k fun K4 hK4 => ?_
  refine Sb 93 rfl ?_  -- 2
  refine S_val (Y_assign rfl) ?_
  refine S_nl rfl rfl ?_
  refine th_n (hK4 _ _ ?_)
  clear hK4 K4
  refine wp_ret ?_
  refine th_r ?_
  clear hK2 K2
  refine ret_r1 rfl rfl ?_  -- r1
  exact ⟨rfl, G⟩
 · -- c1F
  replace hb1 := nb_tf hb1
  have hz : xs.length ≤ 1048576 := by omega
  have hsm := heapOfV_small xs
  have hk7 := kEnd_ge 1 ((heapOfV xs).1)
  refine wp_skip ?_
  refine th_n (hK2 _ _ ?_)
  clear hK2 K2
  refine wp_seq_k fun K5 hK5 => ?_
  refine Sb 93 rfl ?_  -- 3
  refine S_val (Y_move rfl) ?_
  refine S_call rfl en11 (laws_toIntS_c _ _ _ _ _ (by assumption) (by omega)) ?_  -- k1 laws.toIntS
  rintro v1 w1 ⟨b1, rfl, fb1, B1, g1⟩
  replace hA := hA.grow g1
  replace G := G.grow g1
  have zg1 := g1.size
  have lb1 := B1.lt
  have hS1 := R1.of_blkE B1
  refine S_call rfl en10 (spec_HeapOf_c _ _ _ _ _ (by assumption) (by omega) (by omega)) ?_  -- k2 spec.HeapOf
  rintro v2 w2 ⟨A2, B2, n12, c12, n22, c22, rs2, rfl, hn12, hn22, O2, g2⟩
  replace hA := hA.grow g2
  replace hS1 := hS1.grow g2
  replace G := G.grow g2
  replace B1 := B1.grow g2
  have zg2 := g2.size
  subst hn12
  subst hn22
  replace O2 := O2.lt
  have OXw := O2
  have hAw := OXw.rc
  have hBw := OXw.r1
  refine S_val (Y_move rfl) ?_
  refine S_val (Y_extract rfl rfl) ?_
  refine S_val (Y_extract rfl rfl) ?_
  refine S_alloc (cs := [_, _]) zr25 rfl ?_
  intro b3 w3 fb3 g3 B3
  have lb3 := B3.lt
  replace hA := hA.grow g3
  replace hS1 := hS1.grow g3
  replace OXw := OXw.grow g3
  replace hAw := hAw.grow g3
  replace hBw := hBw.grow g3
  replace G := G.grow g3
  replace B1 := B1.grow g3
  have zg3 := g3.size
  refine S_stM (pre := []) (old := [_, _]) (post := []) (vs := [_, _]) sz25 rfl rfl rfl (by first | rfl | assumption) B3 rfl rfl ?_
  intro w4 m4 X4
  replace B3 := Blk.eq (ys := [_, _]) X4 rfl
  clear X4
  replace G := G.abv m4
  replace hA := hA0.grow G
  replace hS1 := hS1.md m4
  replace OXw := OXw.md m4
  replace hAw := hAw.md m4
  replace hBw := hBw.md m4
  replace B1 := B1.md m4
  have zm4 := m4.size
  refine S_val (Y_assign rfl) ?_
  refine S_nl rfl rfl ?_
  refine th_n (hK5 _ _ ?_)
  clear hK5 K5
  refine wp_seq_k fun K6 hK6 => ?_
  refine Sb 93 rfl ?_  -- 4
  refine S_val (Y_move rfl) ?_
  refine S_call rfl en11 (laws_toIntS_c _ _ _ _ _ (by assumption) (by omega)) ?_  -- k3 laws.toIntS
  rintro v5 w5 ⟨b5, rfl, fb5, B5, g5⟩
  replace hA := hA.grow g5
  replace hS1 := hS1.grow g5
  replace OXw := OXw.grow g5
  replace hAw := hAw.grow g5
  replace hBw := hBw.grow g5
  replace G := G.grow g5
  replace B1 := B1.grow g5
  replace B3 := B3.grow g5
  have zg5 := g5.size
  have lb5 := B5.lt
  have OS : OI (fun i => i = b5) w5 3 (some ⟨b5, 0, none⟩) (ints xs) := OI.of_blk' B5 rfl
  have hSS := OS.r1
  refine S_val (Y_assign rfl) ?_
  refine S_nl rfl rfl ?_
  refine th_n (hK6 _ _ ?_)
  clear hK6 K6
  refine wp_seq_k fun K7 hK7 => ?_
  refine Sb 93 rfl ?_  -- 5
  refine S_val (Y_move rfl) ?_
  refine S_call rfl en12 (impl_HeapOf_c _ _ _ _ _ (by assumption) (by omega) (by omega)) ?_  -- k4 impl.HeapOf
  rintro v6 w6 ⟨A6, B6, n16, c16, n26, c26, rs6, rfl, hn16, hn26, O6, g6⟩
  replace hA := hA.grow g6
  replace hS1 := hS1.grow g6
  replace OXw := OXw.grow g6
  replace hAw := hAw.grow g6
  replace hBw := hBw.grow g6
  replace OS := OS.grow g6
  replace hSS := hSS.grow g6
  replace G := G.grow g6
  replace B1 := B1.grow g6
  replace B3 := B3.grow g6
  have zg6 := g6.size
  subst hn16
  subst hn26
  replace O6 := O6.lt
  have OXg := O6
  have hAg := OXg.rc
  have hBg := OXg.r1
  refine S_val (Y_move rfl) ?_
  refine S_val (Y_extract rfl rfl) ?_
  refine S_val (Y_extract rfl rfl) ?_
  refine S_alloc (cs := [_, _]) zr25 rfl ?_
  intro b7 w7 fb7 g7 B7
  have lb7 := B7.lt
  replace hA := hA.grow g7
  replace hS1 := hS1.grow g7
  replace OXw := OXw.grow g7
  replace hAw := hAw.grow g7
  replace hBw := hBw.grow g7
  replace OS := OS.grow g7
  replace hSS := hSS.grow g7
  replace OXg := OXg.grow g7
  replace hAg := hAg.grow g7
  replace hBg := hBg.grow g7
  replace G := G.grow g7
  replace B1 := B1.grow g7
  replace B3 := B3.grow g7
  have zg7 := g7.size
  refine S_stM (pre := []) (old := [_, _]) (post := []) (vs := [_, _]) sz25 rfl rfl rfl (by first | rfl | assumption) B7 rfl rfl ?_
  intro w8 m8 X8
  replace B7 := Blk.eq (ys := [_, _]) X8 rfl
  clear X8
  replace G := G.abv m8
  replace hA := hA0.grow G
  replace hS1 := hS1.md m8
  replace OXw := OXw.md m8
  replace hAw := hAw.md m8
  replace hBw := hBw.md m8
  replace OS := OS.md m8
  replace hSS := hSS.md m8
  replace OXg := OXg.md m8
  replace hAg := hAg.md m8
  replace hBg := hBg.md m8
  replace B1 := B1.md m8
  replace B3 := B3.md m8
  have zm8 := m8.size
  refine S_val (Y_assign rfl) ?_
  refine S_nl rfl rfl ?_
  refine th_n (hK7 _ _ ?_)
  clear hK7 K7
  refine wp_seq_k fun K8 hK8 => ?_
  refine wp_seq_k fun K9 hK9 => ?_
  refine Sb 93 rfl ?_  -- 6
  refine S_val (Y_loadS Try.underlying25 rfl sz25 rfl (B7.row (by rfl))) ?_  -- l1
  refine S_val (Y_loadS Try.underlying25 rfl sz25 rfl (B3.row (by rfl))) ?_  -- l2
  refine S_call rfl en13 (laws_eqHeap_c _ _ _ _ _ _ _ _ _ _ _ _ _ (by assumption) (by assumption) (by assumption) (by assumption) (by omega)) ?_  -- k5 laws.eqHeap
  rintro v9 w9 ⟨rfl, g9⟩
  replace hA := hA.grow g9
  replace hS1 := hS1.grow g9
  replace OXw := OXw.grow g9
  replace hAw := hAw.grow g9
  replace hBw := hBw.grow g9
  replace OS := OS.grow g9
  replace hSS := hSS.grow g9
  replace OXg := OXg.grow g9
  replace hAg := hAg.grow g9
  replace hBg := hBg.grow g9
  replace G := G.grow g9
  replace B1 := B1.grow g9
  replace B3 := B3.grow g9
  replace B7 := B7.grow g9
  have zg9 := g9.size
  refine S_val (Y_not rfl) ?_
  refine S_val (Y_move rfl) ?_
  refine S_g 33 rfl (fun hb2 => ?_) (fun hb2 => ?_)  -- g1
  · -- g1T
   first | with_reducible (replace hb2 := nb_nt hb2) | with_reducible (replace hb2 := nb_tt hb2) | with_reducible (replace hb2 := nb_bt hb2) | skip
   first | exact absurd rfl hb2 | omega | (simp at hb2)
  · -- g1F
   first | with_reducible (replace hb2 := nb_nf hb2) | with_reducible (replace hb2 := nb_tf hb2) | with_reducible (replace hb2 := nb_bf hb2) | skip
   refine S_on rfl rfl ?_
   refine S_val (Y_move rfl) ?_
   refine S_on rfl rfl ?_
   refine S_val (Y_move rfl) ?_
   refine S_on rfl rfl ?_
   refine S_val (Y_neb Try.underlying4 rfl rfl) ?_
   refine S_val (Y_pickF rfl rfl) ?_
   refine S_nl rfl rfl ?_
   refine th_n (hK9 _ _ ?_)
   clear hK9 K9
   refine S_if rfl (fun hb3 => ?_) (fun hb3 => ?_)  -- c2
   · -- c2T
    first | with_reducible (replace hb3 := nb_nt hb3) | with_reducible (replace hb3 := nb_tt hb3) | with_reducible (replace hb3 := nb_bt hb3) | skip
    first | exact absurd rfl hb3 | omega | (simp at hb3)
   · -- c2F
    first | with_reducible (replace hb3 := nb_nf hb3) | with_reducible (replace hb3 := nb_tf hb3) | with_reducible (replace hb3 := nb_bf hb3) | skip
    refine wp_skip ?_
    refine th_n (hK8 _ _ ?_)
    clear hK8 K8
    refine wp_seq_k fun K10 hK10 => ?_
    refine wp_seq_k fun K11 hK11 => ?_
    refine Sb 93 rfl ?_  -- 8
    refine S_val (Y_move rfl) ?_
    refine S_val (Y_move rfl) ?_
    refine S_call rfl en11 (laws_toIntS_c _ _ _ _ _ (by assumption) (by omega)) ?_  -- k6 laws.toIntS
    rintro v10 w10 ⟨b10, rfl, fb10, B10, g10⟩
    replace hA := hA.grow g10
    replace hS1 := hS1.grow g10
    replace OXw := OXw.grow g10
    replace hAw := hAw.grow g10
    replace hBw := hBw.grow g10
    replace OS := OS.grow g10
    replace hSS := hSS.grow g10
    replace OXg := OXg.grow g10
    replace hAg := hAg.grow g10
    replace hBg := hBg.grow g10
    replace G := G.grow g10
    replace B1 := B1.grow g10
    replace B3 := B3.grow g10
    replace B7 := B7.grow g10
    have zg10 := g10.size
    have lb10 := B10.lt
    have hS10 := R1.of_blkE B10
    refine S_call rfl en14 (laws_eqIntS_c _ _ _ _ _ _ _ _ _ (by assumption) (by assumption) (by omega)) ?_  -- k7 laws.eqIntS
    rintro v11 w11 ⟨rfl, g11⟩
    replace hA := hA.grow g11
    replace hS1 := hS1.grow g11
    replace OXw := OXw.grow g11
    replace hAw := hAw.grow g11
    replace hBw := hBw.grow g11
    replace OS := OS.grow g11
    replace hSS := hSS.grow g11
    replace OXg := OXg.grow g11
    replace hAg := hAg.grow g11
    replace hBg := hBg.grow g11
    replace hS10 := hS10.grow g11
    replace G := G.grow g11
    replace B1 := B1.grow g11
    replace B3 := B3.grow g11
    replace B7 := B7.grow g11
    replace B10 := B10.grow g11
    have zg11 := g11.size
    refine S_val (Y_not rfl) ?_
    refine S_nl rfl rfl ?_
    refine th_n (hK11 _ _ ?_)
    clear hK11 K11
    refine S_if rfl (fun hb4 => ?_) (fun hb4 => ?_)  -- c3
    · -- c3T
     first | with_reducible (replace hb4 := nb_nt hb4) | with_reducible (replace hb4 := nb_tt hb4) | with_reducible (replace hb4 := nb_bt hb4) | skip
     first | exact absurd rfl hb4 | omega | (simp at hb4)
    · -- c3F
     first | with_reducible (replace hb4 := nb_nf hb4) | with_reducible (replace hb4 := nb_tf hb4) | with_reducible (replace hb4 := nb_bf hb4) | skip
     refine wp_skip ?_
     refine th_n (hK10 _ _ ?_)
     clear hK10 K10
     refine wp_seq_k fun K12 hK12 => ?_
     refine Sb 93 rfl ?_  -- 10
     refine S_val (Y_assign rfl) ?_
     refine S_nl rfl rfl ?_
     refine th_n (hK12 _ _ ?_)
     clear hK12 K12
     refine wp_seq_k fun K13 hK13 => ?_
     refine Sb 93 rfl ?_  -- 11
     refine S_val (Y_move rfl) ?_
     refine S_val (Y_move rfl) ?_
     refine S_call rfl en15 (markIntS_p _ _ _ _ _ _ _ OS rfl (by omega) ⟨by omega, by omega⟩) ?_  -- k8 laws.markIntS
     rintro v12 w12 ⟨rfl, O12, m12⟩
     replace G := G.abv m12
     replace hA := hA0.grow G
     replace hS1 := hS1.md m12
     replace OXw := OXw.md m12
     replace hAw := hAw.md m12
     replace hBw := hBw.md m12
     replace OXg := OXg.md m12
     replace hAg := hAg.md m12
     replace hBg := hBg.md m12
     replace hS10 := hS10.md m12
     replace B1 := B1.md m12
     replace B3 := B3.md m12
     replace B7 := B7.md m12
     replace B10 := B10.md m12
     have zm12 := m12.size
     refine S_val (Y_assign rfl) ?_
     refine S_nl rfl rfl ?_
     refine th_n (hK13 _ _ ?_)
     clear hK13 K13
     refine wp_seq_k fun K14 hK14 => ?_
     refine wp_seq_k fun K15 hK15 => ?_
     refine Sb 93 rfl ?_  -- 12
     refine S_val (Y_move rfl) ?_
     refine S_val (Y_lss rfl rfl) ?_
     refine S_val (Y_move rfl) ?_
     refine S_g 48 rfl (fun hb5 => ?_) (fun hb5 => ?_)  -- g2
     · -- g2T
      replace hb5 := nb_tt hb5
      first | exact absurd rfl hb5 | omega | (simp at hb5)
     · -- g2F
      replace hb5 := nb_tf hb5
      refine S_on rfl rfl ?_
      refine S_val (Y_loadS Try.underlying25 rfl sz25 rfl (B7.row (by rfl))) ?_  -- l3
      refine S_on rfl rfl ?_
      refine S_val (Y_loadS Try.underlying25 rfl sz25 rfl (B3.row (by rfl))) ?_  -- l4
      refine S_on rfl rfl ?_
      refine S_call rfl en13 (laws_eqHeap_c _ _ _ _ _ _ _ _ _ _ _ _ _ (by assumption) (by assumption) (by assumption) (by assumption) (by omega)) ?_  -- k9 laws.eqHeap
      rintro v13 w13 ⟨rfl, g13⟩
      replace hA := hA.grow g13
      replace hS1 := hS1.grow g13
      replace OXw := OXw.grow g13
      replace hAw := hAw.grow g13
      replace hBw := hBw.grow g13
      replace OXg := OXg.grow g13
      replace hAg := hAg.grow g13
      replace hBg := hBg.grow g13
      replace hS10 := hS10.grow g13
      replace G := G.grow g13
      replace B1 := B1.grow g13
      replace B3 := B3.grow g13
      replace B7 := B7.grow g13
      replace B10 := B10.grow g13
      have zg13 := g13.size
      refine S_on rfl rfl ?_
      refine S_val (Y_not rfl) ?_
      refine S_val (Y_pickF rfl rfl) ?_
      refine S_val (Y_move rfl) ?_
      refine S_g 54 rfl (fun hb6 => ?_) (fun hb6 => ?_)  -- g3
      · -- g3T
       first | with_reducible (replace hb6 := nb_nt hb6) | with_reducible (replace hb6 := nb_tt hb6) | with_reducible (replace hb6 := nb_bt hb6) | skip
       first | exact absurd rfl hb6 | omega | (simp at hb6)
      · -- g3F
       first | with_reducible (replace hb6 := nb_nf hb6) | with_reducible (replace hb6 := nb_tf hb6) | with_reducible (replace hb6 := nb_bf hb6) | skip
       refine S_on rfl rfl ?_
       refine S_val (Y_move rfl) ?_
       refine S_on rfl rfl ?_
       refine S_val (Y_move rfl) ?_
       refine S_on rfl rfl ?_
       refine S_val (Y_neb Try.underlying4 rfl rfl) ?_
       refine S_val (Y_pickF rfl rfl) ?_
       refine S_nl rfl rfl ?_
       refine th_n (hK15 _ _ ?_)
       clear hK15 K15
       refine S_if rfl (fun hb7 => ?_) (fun hb7 => ?_)  -- c4
       · -- c4T
        first | with_reducible (replace hb7 := nb_nt hb7) | with_reducible (replace hb7 := nb_tt hb7) | with_reducible (replace hb7 := nb_bt hb7) | skip
        first | exact absurd rfl hb7 | omega | (simp at hb7)
       · -- c4F
        first | with_reducible (replace hb7 := nb_nf hb7) | with_reducible (replace hb7 := nb_tf hb7) | with_reducible (replace hb7 := nb_bf hb7) | skip
        refine wp_skip ?_
        refine th_n (hK14 _ _ ?_)
        clear hK14 K14
        refine wp_seq_k fun K16 hK16 => ?_
        refine Sb 93 rfl ?_  -- 14
        refine S_val (Y_assign rfl) ?_
        refine S_nl rfl rfl ?_
        refine th_n (hK16 _ _ ?_)
        clear hK16 K16
        refine wp_seq_k fun K17 hK17 => ?_
        refine Sb 93 rfl ?_  -- 15
        refine S_val (Y_loadS Try.underlying25 rfl sz25 rfl (B7.row (by rfl))) ?_  -- l5
        refine S_val (Y_move rfl) ?_
        refine S_call rfl en16 (laws_markHeap_c _ _ _ _ _ _ _ _ _ OXg (by omega) ⟨by omega, by omega⟩) ?_  -- k10 laws.markHeap
        rintro v14 w14 ⟨rfl, O14, m14⟩
        replace G := G.abv m14
        replace hA := hA0.grow G
        replace hS1 := hS1.md m14
        replace OXw := OXw.md m14
        replace hAw := hAw.md m14
        replace hBw := hBw.md m14
        replace hS10 := hS10.md m14
        replace B1 := B1.md m14
        replace B3 := B3.md m14
        replace B7 := B7.md m14
        replace B10 := B10.md m14
        have zm14 := m14.size
        have hMA := O14.rc
        have hMB := O14.r1
        refine S_val (Y_assign rfl) ?_
        refine S_nl rfl rfl ?_
        refine th_n (hK17 _ _ ?_)
        clear hK17 K17
        refine wp_seq_k fun K18 hK18 => ?_
        refine Sb 93 rfl ?_  -- 16
        refine S_val (Y_assign rfl) ?_
        refine S_nl rfl rfl ?_
        refine th_n (hK18 _ _ ?_)
        clear hK18 K18
        refine wp_seq_k fun K19 hK19 => ?_
        refine Sb 93 rfl ?_  -- 17
        refine S_val (Y_loadS Try.underlying25 rfl sz25 rfl (B7.row (by rfl))) ?_  -- l6
        refine S_val (Y_move rfl) ?_
        refine S_call rfl en17 (laws_heldHeap_c _ _ _ _ _ _ _ _ hMA hMB (by omega) ⟨by omega, by omega⟩) ?_  -- k11 laws.heldHeap
        rintro v15 w15 ⟨rfl, g15⟩
        replace hA := hA.grow g15
        replace hS1 := hS1.grow g15
        replace OXw := OXw.grow g15
        replace hAw := hAw.grow g15
        replace hBw := hBw.grow g15
        replace hS10 := hS10.grow g15
        replace hMA := hMA.grow g15
        replace hMB := hMB.grow g15
        replace G := G.grow g15
        replace B1 := B1.grow g15
        replace B3 := B3.grow g15
        replace B7 := B7.grow g15
        replace B10 := B10.grow g15
        have zg15 := g15.size
        refine S_val (Y_assign rfl) ?_
        refine S_nl rfl rfl ?_
        refine th_n (hK19 _ _ ?_)
        clear hK19 K19
        refine wp_seq_k fun K20 hK20 => ?_
        refine wp_seq_k fun K21 hK21 => ?_
        refine Sb 93 rfl ?_  -- 18
        refine S_val (Y_move rfl) ?_
        refine S_val (Y_lss rfl rfl) ?_
        refine S_nl rfl rfl ?_
        refine th_n (hK21 _ _ ?_)
        clear hK21 K21
        refine S_if rfl (fun hb8 => ?_) (fun hb8 => ?_)  -- c5
        · -- c5T
         replace hb8 := nb_tt hb8
         first | exact absurd rfl hb8 | omega | (simp at hb8)
        · -- c5F
         replace hb8 := nb_tf hb8
         refine wp_skip ?_
         refine th_n (hK20 _ _ ?_)
         clear hK20 K20
         refine wp_seq_k fun K22 hK22 => ?_
         refine wp_seq_k fun K23 hK23 => ?_
         refine Sb 93 rfl ?_  -- 20
         refine S_val (Y_move rfl) ?_
         refine S_val (Y_move rfl) ?_
         refine S_val (Y_neq rfl rfl) ?_
         refine S_nl rfl rfl ?_
         refine th_n (hK23 _ _ ?_)
         clear hK23 K23
         refine S_if rfl (fun hb9 => ?_) (fun hb9 => ?_)  -- c6
         · -- c6T
          replace hb9 := nb_nt hb9
          first | exact absurd rfl hb9 | omega | (simp at hb9)
         · -- c6F
          replace hb9 := nb_nf hb9
          refine wp_skip ?_
          refine th_n (hK22 _ _ ?_)
          clear hK22 K22
          refine wp_seq_k fun K24 hK24 => ?_
          refine Sb 93 rfl ?_  -- 22
          refine S_val (Y_move rfl) ?_
          refine S_call rfl en11 (laws_toIntS_c _ _ _ _ _ (by assumption) (by omega)) ?_  -- k12 laws.toIntS
          rintro v16 w16 ⟨b16, rfl, fb16, B16, g16⟩
          replace hA := hA.grow g16
          replace hS1 := hS1.grow g16
          replace OXw := OXw.grow g16
          replace hAw := hAw.grow g16
          replace hBw := hBw.grow g16
          replace hS10 := hS10.grow g16
          replace hMA := hMA.grow g16
          replace hMB := hMB.grow g16
          replace G := G.grow g16
          replace B1 := B1.grow g16
          replace B3 := B3.grow g16
          replace B7 := B7.grow g16
          replace B10 := B10.grow g16
          have zg16 := g16.size
          have lb16 := B16.lt
          have hS16 := R1.of_blkE B16
          refine S_call rfl en12 (impl_HeapOf_c _ _ _ _ _ (by assumption) (by omega) (by omega)) ?_  -- k13 impl.HeapOf
          rintro v17 w17 ⟨A17, B17, n117, c117, n217, c217, rs17, rfl, hn117, hn217, O17, g17⟩
          replace hA := hA.grow g17
          replace hS1 := hS1.grow g17
          replace OXw := OXw.grow g17
          replace hAw := hAw.grow g17
          replace hBw := hBw.grow g17
          replace hS10 := hS10.grow g17
          replace hMA := hMA.grow g17
          replace hMB := hMB.grow g17
          replace hS16 := hS16.grow g17
          replace G := G.grow g17
          replace B1 := B1.grow g17
          replace B3 := B3.grow g17
          replace B7 := B7.grow g17
          replace B10 := B10.grow g17
          replace B16 := B16.grow g17
          have zg17 := g17.size
          subst hn117
          subst hn217
          replace O17 := O17.lt
          have OXh := O17
          have hAh := OXh.rc
          have hBh := OXh.r1
          refine S_val (Y_move rfl) ?_
          refine S_val (Y_extract rfl rfl) ?_
          refine S_val (Y_extract rfl rfl) ?_
          refine S_alloc (cs := [_, _]) zr25 rfl ?_
          intro b18 w18 fb18 g18 B18
          have lb18 := B18.lt
          replace hA := hA.grow g18
          replace hS1 := hS1.grow g18
          replace OXw := OXw.grow g18
          replace hAw := hAw.grow g18
          replace hBw := hBw.grow g18
          replace hS10 := hS10.grow g18
          replace hMA := hMA.grow g18
          replace hMB := hMB.grow g18
          replace hS16 := hS16.grow g18
          replace OXh := OXh.grow g18
          replace hAh := hAh.grow g18
          replace hBh := hBh.grow g18
          replace G := G.grow g18
          replace B1 := B1.grow g18
          replace B3 := B3.grow g18
          replace B7 := B7.grow g18
          replace B10 := B10.grow g18
          replace B16 := B16.grow g18
          have zg18 := g18.size
          refine S_stM (pre := []) (old := [_, _]) (post := []) (vs := [_, _]) sz25 rfl rfl rfl (by first | rfl | assumption) B18 rfl rfl ?_
          intro w19 m19 X19
          replace B18 := Blk.eq (ys := [_, _]) X19 rfl
          clear X19
          replace G := G.abv m19
          replace hA := hA0.grow G
          replace hS1 := hS1.md m19
          replace OXw := OXw.md m19
          replace hAw := hAw.md m19
          replace hBw := hBw.md m19
          replace hS10 := hS10.md m19
          replace hMA := hMA.md m19
          replace hMB := hMB.md m19
          replace hS16 := hS16.md m19
          replace OXh := OXh.md m19
          replace hAh := hAh.md m19
          replace hBh := hBh.md m19
          replace B1 := B1.md m19
          replace B3 := B3.md m19
          replace B7 := B7.md m19
          replace B10 := B10.md m19
          replace B16 := B16.md m19
          have zm19 := m19.size
          refine S_val (Y_assign rfl) ?_
          refine S_nl rfl rfl ?_
          refine th_n (hK24 _ _ ?_)
          clear hK24 K24
          refine wp_seq_k fun K25 hK25 => ?_
          refine wp_seq_k fun K26 hK26 => ?_
          refine Sb 93 rfl ?_  -- 23
          refine S_val (Y_loadS Try.underlying25 rfl sz25 rfl (B18.row (by rfl))) ?_  -- l7
          refine S_val (Y_loadS Try.underlying25 rfl sz25 rfl (B3.row (by rfl))) ?_  -- l8
          refine S_call rfl en13 (laws_eqHeap_c _ _ _ _ _ _ _ _ _ _ _ _ _ (by assumption) (by assumption) (by assumption) (by assumption) (by omega)) ?_  -- k14 laws.eqHeap
          rintro v20 w20 ⟨rfl, g20⟩
          replace hA := hA.grow g20
          replace hS1 := hS1.grow g20
          replace OXw := OXw.grow g20
          replace hAw := hAw.grow g20
          replace hBw := hBw.grow g20
          replace hS10 := hS10.grow g20
          replace hMA := hMA.grow g20
          replace hMB := hMB.grow g20
          replace hS16 := hS16.grow g20
          replace OXh := OXh.grow g20
          replace hAh := hAh.grow g20
          replace hBh := hBh.grow g20
          replace G := G.grow g20
          replace B1 := B1.grow g20
          replace B3 := B3.grow g20
          replace B7 := B7.grow g20
          replace B10 := B10.grow g20
          replace B16 := B16.grow g20
          replace B18 := B18.grow g20
          have zg20 := g20.size
          refine S_val (Y_not rfl) ?_
          refine S_val (Y_move rfl) ?_
          refine S_g 80 rfl (fun hb10 => ?_) (fun hb10 => ?_)  -- g4
          · -- g4T
           first | with_reducible (replace hb10 := nb_nt hb10) | with_reducible (replace hb10 := nb_tt hb10) | with_reducible (replace hb10 := nb_bt hb10) | skip
           first | exact absurd rfl hb10 | omega | (simp at hb10)
          · -- g4F
           first | with_reducible (replace hb10 := nb_nf hb10) | with_reducible (replace hb10 := nb_tf hb10) | with_reducible (replace hb10 := nb_bf hb10) | skip
           refine S_on rfl rfl ?_
           refine S_val (Y_move rfl) ?_
           refine S_on rfl rfl ?_
           refine S_val (Y_move rfl) ?_
           refine S_on rfl rfl ?_
           refine S_val (Y_neb Try.underlying4 rfl rfl) ?_
           refine S_val (Y_pickF rfl rfl) ?_
           refine S_nl rfl rfl ?_
           refine th_n (hK26 _ _ ?_)
           clear hK26 K26
           refine S_if rfl (fun hb11 => ?_) (fun hb11 => ?_)  -- c7
           · -- c7T
            first | with_reducible (replace hb11 := nb_nt hb11) | with_reducible (replace hb11 := nb_tt hb11) | with_reducible (replace hb11 := nb_bt hb11) | skip
            first | exact absurd rfl hb11 | omega | (simp at hb11)
           · -- c7F
            first | with_reducible (replace hb11 := nb_nf hb11) | with_reducible (replace hb11 := nb_tf hb11) | with_reducible (replace hb11 := nb_bf hb11) | skip
            refine wp_skip ?_
            refine th_n (hK25 _ _ ?_)
            clear hK25 K25
            refine wp_seq_k fun K27 hK27 => ?_
            refine Sb 93 rfl ?_  -- 25
            refine S_val (Y_assign rfl) ?_
            refine S_nl rfl rfl ?_
            refine th_n (hK27 _ _ ?_)
            clear hK27 K27
            refine wp_seq_k fun K28 hK28 => ?_
            refine Sb 93 rfl ?_  -- 26
            refine S_val (Y_loadS Try.underlying25 rfl sz25 rfl (B7.row (by rfl))) ?_  -- l9
            refine S_val (Y_move rfl) ?_
            refine S_call rfl en17 (laws_heldHeap_c _ _ _ _ _ _ _ _ hMA hMB (by omega) ⟨by omega, by omega⟩) ?_  -- k15 laws.heldHeap
            rintro v21 w21 ⟨rfl, g21⟩
            replace hA := hA.grow g21
            replace hS1 := hS1.grow g21
            replace OXw := OXw.grow g21
            replace hAw := hAw.grow g21
            replace hBw := hBw.grow g21
            replace hS10 := hS10.grow g21
            replace hMA := hMA.grow g21
            replace hMB := hMB.grow g21
            replace hS16 := hS16.grow g21
            replace OXh := OXh.grow g21
            replace hAh := hAh.grow g21
            replace hBh := hBh.grow g21
            replace G := G.grow g21
            replace B1 := B1.grow g21
            replace B3 := B3.grow g21
            replace B7 := B7.grow g21
            replace B10 := B10.grow g21
            replace B16 := B16.grow g21
            replace B18 := B18.grow g21
            have zg21 := g21.size
            refine S_val (Y_assign rfl) ?_
            refine S_nl rfl rfl ?_
            refine th_n (hK28 _ _ ?_)
            clear hK28 K28
            refine wp_seq_k fun K29 hK29 => ?_
            refine wp_seq_k fun K30 hK30 => ?_
            refine Sb 93 rfl ?_  -- 27
            refine S_val (Y_move rfl) ?_
            refine S_val (Y_lss rfl rfl) ?_
            refine S_nl rfl rfl ?_
            refine th_n (hK30 _ _ ?_)
            clear hK30 K30
            refine S_if rfl (fun hb12 => ?_) (fun hb12 => ?_)  -- c8
            · -- c8T
             replace hb12 := nb_tt hb12
             first | exact absurd rfl hb12 | omega | (simp at hb12)
            · -- c8F
             replace hb12 := nb_tf hb12
             refine wp_skip ?_
             refine th_n (hK29 _ _ ?_)
             clear hK29 K29
             refine wp_seq_k fun K31 hK31 => ?_
             refine wp_seq_k fun K32 hK32 => ?_
             refine Sb 93 rfl ?_  -- 29
             refine S_val (Y_move rfl) ?_
             refine S_val (Y_move rfl) ?_
             refine S_val (Y_neq rfl rfl) ?_
             refine S_nl rfl rfl ?_
             refine th_n (hK32 _ _ ?_)
             clear hK32 K32
             refine S_if rfl (fun hb13 => ?_) (fun hb13 => ?_)  -- c9
             · -- c9T
              replace hb13 := nb_nt hb13
              first | exact absurd rfl hb13 | omega | (simp at hb13)
             · -- c9F
              replace hb13 := nb_nf hb13
              refine wp_skip ?_
              refine th_n (hK31 _ _ ?_)
              clear hK31 K31
              refine wp_seq_k fun K33 hK33 => ?_
              refine Sb 93 rfl ?_  -- 31
              refine S_val (Y_assign rfl) ?_
              refine S_nl rfl rfl ?_
              refine th_n (hK33 _ _ ?_)
              clear hK33 K33
              refine wp_ret ?_
              refine ret_r1 rfl rfl ?_  -- r2
              exact ⟨rfl, G⟩

end Go.Proofs.Ytjmfdmndchoplaa
