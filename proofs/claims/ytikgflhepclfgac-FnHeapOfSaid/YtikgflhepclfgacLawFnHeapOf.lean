/-
  The law FnHeapOf returns true.
  Conditions: those that each theorem states.
-/
import Derived.Test.YtikgflhepclfgacQc6
set_option linter.unusedVariables false
set_option linter.unusedSimpArgs false
namespace Go.Proofs.Ytikgflhepclfgac
open Go Go.RowKit
attribute [local irreducible] wpList wpAnyH Code.wp dOp

set_option maxHeartbeats 400000 in
set_option maxRecDepth 20000 in
theorem laws_FnHeapOf_c (Pr : Nat → Prop) (A : Option Addr) (xs : List Int) (c : Nat) (w : World) (hA : R1 Pr w A (u8s xs)) (hn : xs.length ≤ 9223372036854775807) (hcap : xs.length ≤ c) (hrg : ∀ y ∈ xs, 0 ≤ y ∧ y ≤ 255) :
    Calls Try.prog 5 #[.slice A xs.length c] w (Ret fun v w' => v = .bool true ∧ Grow w w') := by
 refine enter Try.func5 rfl Try.ntmps5 (L := [_,_,_,_,_,_,_,_,_,_,_,_,_,_,_,_,_,_,_,_,_,_,_,_,_,_,_,_,_,_,_,_,_,_,_,_,_,_,_,_,_,_,_,_,_,_,_,_,_,_,_,_,_,_,_,_,_,_,_,_,_,_,_,_]) rfl ?_
 have G := Mod.refl No w
 have hA0 := hA
 refine wp_seq_k fun K1 hK1 => ?_
 refine Sb 64 rfl ?_  -- 0
 refine S_val (Y_assign rfl) ?_
 refine S_nl rfl rfl ?_
 refine th_n (hK1 _ _ ?_)
 clear hK1 K1
 refine wp_seq_k fun K2 hK2 => ?_
 refine wp_seq_k fun K3 hK3 => ?_
 refine Sb 64 rfl ?_  -- 1
 refine S_val (Y_move rfl) ?_
 refine S_val (Y_len Try.underlying39 rfl) ?_
 refine S_val (Y_gtr rfl rfl) ?_
 refine S_nl rfl rfl ?_
 refine th_n (hK3 _ _ ?_)
 clear hK3 K3
 refine S_if rfl (fun hb1 => ?_) (fun hb1 => ?_)  -- c1
 · -- c1T
  replace hb1 := nb_tt hb1
  refine wp_seq_k fun K4 hK4 => ?_
  refine Sb 64 rfl ?_  -- 2
  refine S_val (Y_assign rfl) ?_
  refine S_nl rfl rfl ?_
  refine th_n (hK4 _ _ ?_)
  clear hK4 K4
  refine wp_ret ?_
  refine th_r ?_
  clear hK2 K2
  refine ret_r1 rfl rfl ?_  -- r1
  first | exact ⟨rfl, G⟩ | exact ⟨vT (by rw [huu]), G⟩
 · -- c1F
  replace hb1 := nb_tf hb1
  have hx : xs.length ≤ 1048576 := by omega
  refine wp_skip ?_
  refine th_n (hK2 _ _ ?_)
  clear hK2 K2
  refine wp_seq_k fun K5 hK5 => ?_
  refine Sb 64 rfl ?_  -- 3
  refine S_val (Y_move rfl) ?_
  refine S_call rfl en24 (spec_DrawHeapOf_c _ _ _ _ _ (by assumption) (by omega) (by omega) (by assumption)) ?_  -- k1 spec.DrawHeapOf
  rintro v1 w1 ⟨l1, A1, q1, cap1, rfl, hq1, hqc1, hl1, RR1, g1⟩
  replace hA := hA.grow g1
  replace G := G.grow g1
  have zg1 := g1.size
  subst hq1
  obtain ⟨ys, rfl⟩ : ∃ x, x = l1 := ⟨_, rfl⟩
  obtain ⟨AL, rfl⟩ : ∃ x, x = A1 := ⟨_, rfl⟩
  obtain ⟨cL, rfl⟩ : ∃ x, x = cap1 := ⟨_, rfl⟩
  have hqc := hqc1
  have hyl := hl1
  have hRy := RR1.below
  refine S_val (Y_assign rfl) ?_
  refine S_nl rfl rfl ?_
  refine th_n (hK5 _ _ ?_)
  clear hK5 K5
  refine wp_seq_k fun K6 hK6 => ?_
  refine Sb 64 rfl ?_  -- 4
  refine S_val (Y_move rfl) ?_
  refine S_call rfl en25 (impl_HeapOf_c _ _ ys _ _ hRy (by omega) (fun _ => hqc)) ?_  -- k2 impl.HeapOf
  rintro v2 w2 ⟨A2, B2, n12, c12, n22, c22, rs2, rfl, hn12, hn22, O2, g2⟩
  replace hA := hA.grow g2
  replace hRy := hRy.grow g2
  replace G := G.grow g2
  have zg2 := g2.size
  obtain ⟨hX, hXe⟩ : ∃ x, x = (heapOfV ys).1 := ⟨_, rfl⟩
  have hXz : hsize hX ≤ 200 := by rw [hXe]; exact heapOfV_small _
  rw [← hXe] at hn12 hn22 O2
  subst hn12
  subst hn22
  have hXA := O2.lt.rc
  have hXB := O2.lt.r1
  have hvl := viewV_len hX
  refine S_val (Y_move rfl) ?_
  refine S_val (Y_extract rfl rfl) ?_
  refine S_val (Y_extract rfl rfl) ?_
  refine S_alloc (cs := [_, _]) zr32 rfl ?_
  intro b3 w3 fb3 g3 B3
  have lb3 := B3.lt
  replace hA := hA.grow g3
  replace hRy := hRy.grow g3
  replace hXA := hXA.grow g3
  replace hXB := hXB.grow g3
  replace G := G.grow g3
  have zg3 := g3.size
  refine S_stM (pre := []) (old := [_, _]) (post := []) (vs := [_, _]) sz32 rfl rfl rfl (by first | rfl | assumption) B3 rfl rfl ?_
  intro w4 m4 X4
  replace B3 := Blk.eq (ys := [_, _]) X4 rfl
  clear X4
  replace G := G.abv m4
  replace hA := hA0.grow G
  replace hRy := hRy.md m4
  replace hXA := hXA.md m4
  replace hXB := hXB.md m4
  have zm4 := m4.size
  refine S_val (Y_assign rfl) ?_
  refine S_nl rfl rfl ?_
  refine th_n (hK6 _ _ ?_)
  clear hK6 K6
  refine wp_seq_k fun K7 hK7 => ?_
  refine Sb 64 rfl ?_  -- 5
  refine S_val (Y_move rfl) ?_
  refine S_call rfl en26 (spec_HeapOf_c _ _ ys _ _ hRy (by omega) (fun _ => hqc)) ?_  -- k3 spec.HeapOf
  rintro v5 w5 ⟨A5, B5, n15, c15, n25, c25, rs5, rfl, hn15, hn25, O5, g5⟩
  replace hA := hA.grow g5
  replace hRy := hRy.grow g5
  replace hXA := hXA.grow g5
  replace hXB := hXB.grow g5
  replace G := G.grow g5
  replace B3 := B3.grow g5
  have zg5 := g5.size
  rw [← hXe] at hn15 hn25 O5
  subst hn15
  subst hn25
  have hYA := O5.lt.rc
  have hYB := O5.lt.r1
  refine S_val (Y_move rfl) ?_
  refine S_val (Y_extract rfl rfl) ?_
  refine S_val (Y_extract rfl rfl) ?_
  refine S_alloc (cs := [_, _]) zr32 rfl ?_
  intro b6 w6 fb6 g6 B6
  have lb6 := B6.lt
  replace hA := hA.grow g6
  replace hRy := hRy.grow g6
  replace hXA := hXA.grow g6
  replace hXB := hXB.grow g6
  replace hYA := hYA.grow g6
  replace hYB := hYB.grow g6
  replace G := G.grow g6
  replace B3 := B3.grow g6
  have zg6 := g6.size
  refine S_stM (pre := []) (old := [_, _]) (post := []) (vs := [_, _]) sz32 rfl rfl rfl (by first | rfl | assumption) B6 rfl rfl ?_
  intro w7 m7 X7
  replace B6 := Blk.eq (ys := [_, _]) X7 rfl
  clear X7
  replace G := G.abv m7
  replace hA := hA0.grow G
  replace hRy := hRy.md m7
  replace hXA := hXA.md m7
  replace hXB := hXB.md m7
  replace hYA := hYA.md m7
  replace hYB := hYB.md m7
  replace B3 := B3.md m7
  have zm7 := m7.size
  refine S_val (Y_assign rfl) ?_
  refine S_nl rfl rfl ?_
  refine th_n (hK7 _ _ ?_)
  clear hK7 K7
  refine wp_seq_k fun K8 hK8 => ?_
  refine wp_seq_k fun K9 hK9 => ?_
  refine Sb 64 rfl ?_  -- 6
  refine S_val (Y_loadS Try.underlying32 rfl sz32 rfl (B3.row (by rfl))) ?_  -- l1
  refine S_val (Y_loadS Try.underlying32 rfl sz32 rfl (B6.row (by rfl))) ?_  -- l2
  refine S_call rfl en27 (laws_sameHeap_c _ _ _ _ _ _ hX hX _ _ _ _ _ hXA hXB hYA hYB (by omega)) ?_  -- k4 laws.sameHeap
  rintro v8 w8 ⟨rfl, g8⟩
  replace hA := hA.grow g8
  replace hRy := hRy.grow g8
  replace hXA := hXA.grow g8
  replace hXB := hXB.grow g8
  replace hYA := hYA.grow g8
  replace hYB := hYB.grow g8
  replace G := G.grow g8
  replace B3 := B3.grow g8
  replace B6 := B6.grow g8
  have zg8 := g8.size
  refine S_val (Y_not rfl) ?_
  refine S_val (Y_move rfl) ?_
  refine S_g 29 rfl (fun hb2 => ?_) (fun hb2 => ?_)  -- g1
  · -- g1T
   first | with_reducible (replace hb2 := nb_nt hb2) | with_reducible (replace hb2 := nb_tt hb2) | with_reducible (replace hb2 := nb_bt hb2) | skip
   exact absurd rfl hb2
  · -- g1F
   first | with_reducible (replace hb2 := nb_nf hb2) | with_reducible (replace hb2 := nb_tf hb2) | with_reducible (replace hb2 := nb_bf hb2) | skip
   refine S_on rfl rfl ?_
   refine S_val (Y_move rfl) ?_
   refine S_on rfl rfl ?_
   refine S_val (Y_move rfl) ?_
   refine S_on rfl rfl ?_
   refine S_val (Y_neb Try.underlying4 rfl rfl) ?_
   refine S_val (Y_pickF rfl rfl) ?_
   refine S_nl rfl rfl ?_
   refine th_n (hK9 _ _ ?_)
   clear hK9 K9
   refine S_if rfl (fun hb3 => ?_) (fun hb3 => ?_)  -- c2
   · -- c2T
    first | with_reducible (replace hb3 := nb_nt hb3) | with_reducible (replace hb3 := nb_tt hb3) | with_reducible (replace hb3 := nb_bt hb3) | skip
    first | exact absurd rfl hb3 | (simp at hb3)
   · -- c2F
    first | with_reducible (replace hb3 := nb_nf hb3) | with_reducible (replace hb3 := nb_tf hb3) | with_reducible (replace hb3 := nb_bf hb3) | skip
    refine wp_skip ?_
    refine th_n (hK8 _ _ ?_)
    clear hK8 K8
    refine wp_seq_k fun K10 hK10 => ?_
    refine wp_seq_k fun K11 hK11 => ?_
    refine Sb 64 rfl ?_  -- 8
    refine S_val (Y_move rfl) ?_
    refine S_val (Y_not rfl) ?_
    refine S_nl rfl rfl ?_
    refine th_n (hK11 _ _ ?_)
    clear hK11 K11
    refine S_if rfl (fun hb4 => ?_) (fun hb4 => ?_)  -- c3
    · -- c3T
     first | with_reducible (replace hb4 := nb_nt hb4) | with_reducible (replace hb4 := nb_tt hb4) | with_reducible (replace hb4 := nb_bt hb4) | skip
     have hno : (heapOfV ys).2 = false := by first | exact hb4 | simpa using hb4
     have hX0 : hX.roots.length = 0 := by rw [hXe, heapOf_no hno]; rfl
     refine wp_seq_k fun K12 hK12 => ?_
     refine Sb 64 rfl ?_  -- 9
     refine S_val (Y_field Try.underlying32 rfl fz32_1 (by decide) rfl) ?_
     refine S_val (Y_load Try.underlying23 rfl rfl (B3.at (by rfl))) ?_  -- l3
     refine S_val (Y_len Try.underlying23 rfl) ?_
     refine S_val (Y_eql rfl rfl) ?_
     refine S_val (Y_move rfl) ?_
     refine S_g 40 rfl (fun hb5 => ?_) (fun hb5 => ?_)  -- g2
     · -- g2T
      replace hb5 := nb_tt hb5
      refine S_on rfl rfl ?_
      refine S_call rfl en22 (laws_alive_c _) ?_  -- k5 laws.alive
      rintro v9 w9 ⟨rfl, g9⟩
      replace hA := hA.grow g9
      replace hRy := hRy.grow g9
      replace hXA := hXA.grow g9
      replace hXB := hXB.grow g9
      replace hYA := hYA.grow g9
      replace hYB := hYB.grow g9
      replace G := G.grow g9
      replace B3 := B3.grow g9
      replace B6 := B6.grow g9
      have zg9 := g9.size
      refine S_val (Y_pickT rfl rfl) ?_
      refine S_val (Y_assign rfl) ?_
      refine S_nl rfl rfl ?_
      refine th_n (hK12 _ _ ?_)
      clear hK12 K12
      refine wp_ret ?_
      refine th_r ?_
      clear hK10 K10
      refine ret_r1 rfl rfl ?_  -- r2
      first | exact ⟨rfl, G⟩ | exact ⟨vT (by rw [huu]), G⟩
     · -- g2F
      replace hb5 := nb_tf hb5
      omega
    · -- c3F
     first | with_reducible (replace hb4 := nb_nf hb4) | with_reducible (replace hb4 := nb_tf hb4) | with_reducible (replace hb4 := nb_bf hb4) | skip
     obtain ⟨vX, hvw, huu⟩ := heapOf_all (xs := ys) (by first | exact hb4 | simpa using hb4)
     rw [← hXe] at vX hvw huu
     refine wp_skip ?_
     refine th_n (hK10 _ _ ?_)
     clear hK10 K10
     refine wp_seq_k fun K13 hK13 => ?_
     refine Sb 64 rfl ?_  -- 10
     refine S_val (Y_loadS Try.underlying32 rfl sz32 rfl (B3.row (by rfl))) ?_  -- l4
     refine S_call rfl en28 (impl_UsedCells_c _ _ _ hX _ _ _ hXA hXB (by omega)) ?_  -- k6 impl.UsedCells
     rintro v10 w10 ⟨rfl, g10⟩
     replace hA := hA.grow g10
     replace hRy := hRy.grow g10
     replace hXA := hXA.grow g10
     replace hXB := hXB.grow g10
     replace hYA := hYA.grow g10
     replace hYB := hYB.grow g10
     replace G := G.grow g10
     replace B3 := B3.grow g10
     replace B6 := B6.grow g10
     have zg10 := g10.size
     refine S_val (Y_move rfl) ?_
     refine S_val (Y_extract rfl rfl) ?_
     refine S_val (Y_extract rfl rfl) ?_
     refine S_val (Y_assign rfl) ?_
     refine S_val (Y_assign rfl) ?_
     refine S_nl rfl rfl ?_
     refine th_n (hK13 _ _ ?_)
     clear hK13 K13
     refine wp_seq_k fun K14 hK14 => ?_
     refine Sb 64 rfl ?_  -- 11
     refine S_val (Y_loadS Try.underlying32 rfl sz32 rfl (B3.row (by rfl))) ?_  -- l5
     refine S_call rfl en30 (impl_ViewOf_c _ _ _ hX _ _ _ hXA hXB (by omega)) ?_  -- k7 impl.ViewOf
     rintro v11 w11 ⟨A11, q11, cap11, rfl, hq11, O11, g11⟩
     replace hA := hA.grow g11
     replace hRy := hRy.grow g11
     replace hXA := hXA.grow g11
     replace hXB := hXB.grow g11
     replace hYA := hYA.grow g11
     replace hYB := hYB.grow g11
     replace G := G.grow g11
     replace B3 := B3.grow g11
     replace B6 := B6.grow g11
     have zg11 := g11.size
     subst hq11
     have hRv := O11.lt.r1
     refine S_val (Y_move rfl) ?_
     refine S_call rfl en29 (sameInts_p _ _ _ _ (viewV hX) ys _ _ _ _ _ hRv hRy (by omega) rfl rfl) ?_  -- k8 laws.sameInts
     rintro v12 w12 ⟨rfl, g12⟩
     replace hA := hA.grow g12
     replace hRy := hRy.grow g12
     replace hXA := hXA.grow g12
     replace hXB := hXB.grow g12
     replace hYA := hYA.grow g12
     replace hYB := hYB.grow g12
     replace hRv := hRv.grow g12
     replace G := G.grow g12
     replace B3 := B3.grow g12
     replace B6 := B6.grow g12
     have zg12 := g12.size
     refine S_val (Y_move rfl) ?_
     refine S_g 52 rfl (fun hb5 => ?_) (fun hb5 => ?_)  -- g3
     · -- g3T
      first | with_reducible (replace hb5 := nb_nt hb5) | with_reducible (replace hb5 := nb_tt hb5) | with_reducible (replace hb5 := nb_bt hb5) | skip
      refine S_on rfl rfl ?_
      refine S_val (Y_move rfl) ?_
      refine S_on rfl rfl ?_
      refine S_val (Y_move rfl) ?_
      refine S_on rfl rfl ?_
      refine S_val (Y_eql rfl rfl) ?_
      refine S_val (Y_pickT rfl rfl) ?_
      refine S_val (Y_move rfl) ?_
      refine S_g 57 rfl (fun hb6 => ?_) (fun hb6 => ?_)  -- g4
      · -- g4T
       first | with_reducible (replace hb6 := nb_nt hb6) | with_reducible (replace hb6 := nb_tt hb6) | with_reducible (replace hb6 := nb_bt hb6) | skip
       refine S_on rfl rfl ?_
       refine S_val (Y_move rfl) ?_
       refine S_on rfl rfl ?_
       refine S_val (Y_field Try.underlying32 rfl fz32_0 (by decide) rfl) ?_
       refine S_on rfl rfl ?_
       refine S_val (Y_load Try.underlying30 rfl rfl (B3.at (by rfl))) ?_  -- l6
       refine S_on rfl rfl ?_
       refine S_val (Y_len Try.underlying30 rfl) ?_
       refine S_on rfl rfl ?_
       refine S_val (Y_eql rfl rfl) ?_
       refine S_val (Y_pickT rfl rfl) ?_
       refine S_val (Y_assign rfl) ?_
       refine S_nl rfl rfl ?_
       refine th_n (hK14 _ _ ?_)
       clear hK14 K14
       refine wp_ret ?_
       refine ret_r1 rfl rfl ?_  -- r3
       first | exact ⟨rfl, G⟩ | exact ⟨vT (by rw [huu]), G⟩
      · -- g4F
       first | with_reducible (replace hb6 := nb_nf hb6) | with_reducible (replace hb6 := nb_tf hb6) | with_reducible (replace hb6 := nb_bf hb6) | skip
       exact absurd (by rw [huu]) hb6
     · -- g3F
      first | with_reducible (replace hb5 := nb_nf hb5) | with_reducible (replace hb5 := nb_tf hb5) | with_reducible (replace hb5 := nb_bf hb5) | skip
      exact absurd hvw hb5

end Go.Proofs.Ytikgflhepclfgac
