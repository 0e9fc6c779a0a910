/-
  The law FnLazyStart returns true.
  Conditions: those that each theorem states.
-/
import Derived.Test.YtikgflhepclfgabQd4
set_option linter.unusedVariables false
set_option linter.unusedSimpArgs false
namespace Go.Proofs.Ytikgflhepclfgab
open Go Go.RowKit
attribute [local irreducible] wpList wpAnyH Code.wp dOp

set_option maxHeartbeats 400000 in
set_option maxRecDepth 20000 in
theorem laws_FnLazyStart_c (Pr : Nat → Prop) (A : Option Addr) (xs : List Int) (c : Nat) (w : World) (hA : R1 Pr w A (u8s xs)) (hn : xs.length ≤ 9223372036854775807) (hcap : xs.length ≤ c) (hrg : ∀ y ∈ xs, 0 ≤ y ∧ y ≤ 255) :
    Calls Try.prog 5 #[.slice A xs.length c] w (Ret fun v w' => v = .bool true ∧ Grow w w') := by
 refine enter Try.func5 rfl Try.ntmps5 (L := [_,_,_,_,_,_,_,_,_,_,_,_,_,_,_,_,_,_,_,_,_,_,_,_,_,_,_,_,_,_,_,_,_,_,_,_,_,_,_,_,_,_,_,_,_,_,_,_]) rfl ?_
 have G := Mod.refl No w
 have hA0 := hA
 refine wp_seq_k fun K1 hK1 => ?_
 refine Sb 48 rfl ?_  -- 0
 refine S_val (Y_assign rfl) ?_
 refine S_nl rfl rfl ?_
 refine th_n (hK1 _ _ ?_)
 clear hK1 K1
 refine wp_seq_k fun K2 hK2 => ?_
 refine wp_seq_k fun K3 hK3 => ?_
 refine Sb 48 rfl ?_  -- 1
 refine S_val (Y_move rfl) ?_
 refine S_val (Y_len Try.underlying22 rfl) ?_
 refine S_val (Y_gtr rfl rfl) ?_
 refine S_nl rfl rfl ?_
 refine th_n (hK3 _ _ ?_)
 clear hK3 K3
 refine S_if rfl (fun hb1 => ?_) (fun hb1 => ?_)  -- c1
 · -- c1T
  replace hb1 := nb_tt hb1
  refine wp_seq_k fun K4 hK4 => ?_
  refine Sb 48 rfl ?_  -- 2
  refine S_val (Y_assign rfl) ?_
  refine S_nl rfl rfl ?_
  refine th_n (hK4 _ _ ?_)
  clear hK4 K4
  refine wp_ret ?_
  refine th_r ?_
  clear hK2 K2
  refine ret_r1 rfl rfl ?_  -- r1
  first | exact ⟨rfl, G⟩ | exact ⟨vB hlv, G⟩
 · -- c1F
  replace hb1 := nb_tf hb1
  have hx : xs.length ≤ 1048576 := by omega
  refine wp_skip ?_
  refine th_n (hK2 _ _ ?_)
  clear hK2 K2
  refine wp_seq_k fun K5 hK5 => ?_
  refine Sb 48 rfl ?_  -- 3
  refine S_val (Y_move rfl) ?_
  refine S_call rfl en27 (spec_DrawLazyStart_c _ _ _ _ _ (by assumption) (by omega) (by omega) (by assumption)) ?_  -- k1 spec.DrawLazyStart
  rintro v1 w1 ⟨hD1, A1, B1, n11, c11, n21, c21, rfl, hn11, hn21, hz1, RC1, RR1, g1⟩
  replace hA := hA.grow g1
  replace G := G.grow g1
  have zg1 := g1.size
  subst hn11
  subst hn21
  obtain ⟨h, rfl⟩ : ∃ x, x = hD1 := ⟨_, rfl⟩
  obtain ⟨AD, rfl⟩ : ∃ x, x = A1 := ⟨_, rfl⟩
  obtain ⟨BD, rfl⟩ : ∃ x, x = B1 := ⟨_, rfl⟩
  obtain ⟨cD, rfl⟩ : ∃ x, x = c11 := ⟨_, rfl⟩
  obtain ⟨dD, rfl⟩ : ∃ x, x = c21 := ⟨_, rfl⟩
  have hzD := hz1
  have hzcD := hsize_cells h
  have hzrD := hsize_roots h
  have hDA := RC1.below
  have hDB := RR1.below
  have hrl := reachV_le h
  have hzl : hsize (lzH h) ≤ 1048576 := by unfold lzH; split; exact (by omega); decide
  refine S_alloc (cs := [_, _]) zr26 rfl ?_
  intro b2 w2 fb2 g2 B2
  have lb2 := B2.lt
  replace hA := hA.grow g2
  replace hDA := hDA.grow g2
  replace hDB := hDB.grow g2
  replace G := G.grow g2
  have zg2 := g2.size
  refine S_stM (pre := []) (old := [_, _]) (post := []) (vs := [_, _]) sz26 rfl rfl rfl (by first | rfl | assumption) B2 rfl rfl ?_
  intro w3 m3 X3
  replace B2 := Blk.eq (ys := [_, _]) X3 rfl
  clear X3
  replace G := G.abv m3
  replace hA := hA0.grow G
  replace hDA := hDA.md m3
  replace hDB := hDB.md m3
  have zm3 := m3.size
  refine S_nl rfl rfl ?_
  refine th_n (hK5 _ _ ?_)
  clear hK5 K5
  refine wp_seq_k fun K6 hK6 => ?_
  refine Sb 48 rfl ?_  -- 4
  refine S_val (Y_loadS Try.underlying26 rfl sz26 rfl (B2.row (by rfl))) ?_  -- l1
  refine S_call rfl en28 (impl_LazyStart_c _ _ _ _ _ _ _ (by assumption) (by assumption) (by omega)) ?_  -- k2 impl.LazyStart
  rintro v4 w4 ⟨A4, B4, C4, n14, c14, n24, c24, n34, c34, rs4, P4, Q4, rfl, hn14, hn24, hn34, hPQ4, hQ4, O4, OM4, g4⟩
  replace hA := hA.grow g4
  replace hDA := hDA.grow g4
  replace hDB := hDB.grow g4
  replace G := G.grow g4
  replace B2 := B2.grow g4
  have zg4 := g4.size
  subst hn14
  subst hn24
  subst hn34
  obtain ⟨lox, hlox⟩ : ∃ x, x = w3.heap.size := ⟨_, rfl⟩
  obtain ⟨hix, hhix⟩ : ∃ x, x = w4.heap.size := ⟨_, rfl⟩
  have OX4 := (O4.lt).weak (Pr' := fun k => lox ≤ k ∧ k < hix) (fun k hk => ⟨by have h8 := (hPQ4 k hk.1).1; omega, by have h8 := hk.2; omega⟩)
  have OMX4 := (OM4.lt).weak (Pr' := fun k => lox ≤ k ∧ k < hix) (fun k hk => ⟨by have h8 := hQ4 k hk.1; omega, by have h8 := hk.2; omega⟩)
  have hAx := OX4.rc
  have hBx := OX4.r1
  have hCx := OMX4.r1
  refine S_alloc (cs := [_, _, _, _]) zr39 rfl ?_
  intro b5 w5 fb5 g5 B5
  have lb5 := B5.lt
  replace hA := hA.grow g5
  replace hDA := hDA.grow g5
  replace hDB := hDB.grow g5
  replace hAx := hAx.grow g5
  replace hBx := hBx.grow g5
  replace hCx := hCx.grow g5
  replace G := G.grow g5
  replace B2 := B2.grow g5
  have zg5 := g5.size
  refine S_stM (pre := []) (old := [_, _, _, _]) (post := []) (vs := [_, _, _, _]) sz39 rfl rfl rfl (by first | rfl | assumption) B5 rfl rfl ?_
  intro w6 m6 X6
  replace B5 := Blk.eq (ys := [_, _, _, _]) X6 rfl
  clear X6
  replace G := G.abv m6
  replace hA := hA0.grow G
  replace hDA := hDA.md m6
  replace hDB := hDB.md m6
  replace hAx := hAx.md m6
  replace hBx := hBx.md m6
  replace hCx := hCx.md m6
  replace B2 := B2.md m6
  have zm6 := m6.size
  refine S_nl rfl rfl ?_
  refine th_n (hK6 _ _ ?_)
  clear hK6 K6
  refine wp_seq_k fun K7 hK7 => ?_
  refine wp_seq_k fun K8 hK8 => ?_
  refine D_start 5 48 (fun w => Mod (No) w) follows rfl rfl ?_  -- d1 r5
  intro w7 g7
  replace hA := hA.grow g7
  replace hDA := hDA.grow g7
  replace hDB := hDB.grow g7
  replace hAx := hAx.grow g7
  replace hBx := hBx.grow g7
  replace hCx := hCx.grow g7
  replace G := G.grow g7
  replace B2 := B2.grow g7
  replace B5 := B5.grow g7
  have zg7 := g7.size
  have GS7 := Mod.refl (No) w7
  have B2d7 := B2
  have B5d7 := B5
  refine Dq (i := 0) rfl GS7 (fun _ hs => Y_loadS Try.underlying39 rfl sz39 rfl (by first | exact hs.cells0 (B5.row (by rfl)))) ?_
  refine Dq (i := 1) rfl GS7 (fun _ hs => Y_loadS Try.underlying26 rfl sz26 rfl (by first | exact hs.cells0 (B2.row (by rfl)))) ?_
  refine D_1 (i := 2) (by kernel_rfl) ?_
  refine E_call rfl rfl en30 (spec_LazyStart_c _ _ _ _ _ _ _ (by assumption) (by assumption) (by omega)) ?_  -- k3 spec.LazyStart
  rintro v8 w8 ⟨A8, B8, C8, n18, c18, n28, c28, n38, c38, rs8, P8, Q8, rfl, hn18, hn28, hn38, hPQ8, hQ8, O8, OM8, g8⟩
  replace hA := hA.grow g8
  replace hDA := hDA.grow g8
  replace hDB := hDB.grow g8
  replace hAx := hAx.grow g8
  replace hBx := hBx.grow g8
  replace hCx := hCx.grow g8
  replace G := G.grow g8
  replace GS7 := GS7.grow g8
  replace B2 := B2.grow g8
  replace B5 := B5.grow g8
  have zg8 := g8.size
  subst hn18
  subst hn28
  subst hn38
  obtain ⟨loy, hloy⟩ : ∃ x, x = w7.heap.size := ⟨_, rfl⟩
  obtain ⟨hiy, hhiy⟩ : ∃ x, x = w8.heap.size := ⟨_, rfl⟩
  have OX8 := (O8.lt).weak (Pr' := fun k => loy ≤ k ∧ k < hiy) (fun k hk => ⟨by have h8 := (hPQ8 k hk.1).1; omega, by have h8 := hk.2; omega⟩)
  have OMX8 := (OM8.lt).weak (Pr' := fun k => loy ≤ k ∧ k < hiy) (fun k hk => ⟨by have h8 := hQ8 k hk.1; omega, by have h8 := hk.2; omega⟩)
  have hAy := OX8.rc
  have hBy := OX8.r1
  have hCy := OMX8.r1
  refine ⟨GS7, ?_⟩
  refine D_1 (i := 3) (by kernel_rfl) ?_
  refine E_call rfl rfl en29 (laws_sameLazy_c _ _ _ _ _ _ _ _ _ _ (lzH h) (lzH h) (reachV h) (reachV h) 0 0 _ _ _ _ _ _ _ hAx hBx hCx hAy hBy hCy (by omega) (by omega)) ?_  -- k4 laws.sameLazy
  rintro v9 w9 ⟨rfl, g9⟩
  replace hA := hA.grow g9
  replace hDA := hDA.grow g9
  replace hDB := hDB.grow g9
  replace hAx := hAx.grow g9
  replace hBx := hBx.grow g9
  replace hCx := hCx.grow g9
  replace hAy := hAy.grow g9
  replace hBy := hBy.grow g9
  replace hCy := hCy.grow g9
  replace G := G.grow g9
  replace GS7 := GS7.grow g9
  replace B2 := B2.grow g9
  replace B5 := B5.grow g9
  have zg9 := g9.size
  refine ⟨GS7, ?_⟩
  refine Dq (i := 4) rfl GS7 (fun _ _ => Y_not rfl) ?_
  refine D_en (by kernel_rfl) rfl rfl ?_
  refine th_n (hK8 _ _ ?_)
  clear hK8 K8
  refine S_if rfl (fun hb2 => ?_) (fun hb2 => ?_)  -- c2
  · -- c2T
   first | with_reducible (replace hb2 := nb_nt hb2) | with_reducible (replace hb2 := nb_tt hb2) | with_reducible (replace hb2 := nb_bt hb2) | skip
   simp at hb2
  · -- c2F
   first | with_reducible (replace hb2 := nb_nf hb2) | with_reducible (replace hb2 := nb_tf hb2) | with_reducible (replace hb2 := nb_bf hb2) | skip
   refine wp_skip ?_
   refine th_n (hK7 _ _ ?_)
   clear hK7 K7
   refine wp_seq_k fun K9 hK9 => ?_
   refine wp_seq_k fun K10 hK10 => ?_
   refine Sb 48 rfl ?_  -- 7
   refine S_val (Y_loadS Try.underlying26 rfl sz26 rfl (B2.row (by rfl))) ?_  -- l4
   refine S_call rfl en19 (spec_HeapValid_c _ _ _ _ _ _ _ (by assumption) (by assumption) (by omega)) ?_  -- k5 spec.HeapValid
   rintro v10 w10 ⟨rfl, g10⟩
   replace hA := hA.grow g10
   replace hDA := hDA.grow g10
   replace hDB := hDB.grow g10
   replace hAx := hAx.grow g10
   replace hBx := hBx.grow g10
   replace hCx := hCx.grow g10
   replace hAy := hAy.grow g10
   replace hBy := hBy.grow g10
   replace hCy := hCy.grow g10
   replace G := G.grow g10
   replace B2 := B2.grow g10
   replace B5 := B5.grow g10
   have zg10 := g10.size
   refine S_val (Y_not rfl) ?_
   refine S_nl rfl rfl ?_
   refine th_n (hK10 _ _ ?_)
   clear hK10 K10
   refine S_if rfl (fun hb3 => ?_) (fun hb3 => ?_)  -- c3
   · -- c3T
    first | with_reducible (replace hb3 := nb_nt hb3) | with_reducible (replace hb3 := nb_tt hb3) | with_reducible (replace hb3 := nb_bt hb3) | skip
    have hz0 : (lzH h).roots.length = 0 := by rw [lzH_f hb3]; rfl
    refine wp_seq_k fun K11 hK11 => ?_
    refine Sb 48 rfl ?_  -- 8
    refine S_val (Y_field Try.underlying39 rfl fz39_0 (by decide) rfl) ?_
    refine S_val (Y_field Try.underlying26 rfl fz26_1 (by decide) rfl) ?_
    refine S_val (Y_load Try.underlying24 rfl rfl (B5.at (by rfl))) ?_  -- l5
    refine S_val (Y_len Try.underlying24 rfl) ?_
    refine S_val (Y_eql rfl rfl) ?_
    refine S_val (Y_move rfl) ?_
    refine S_g 25 rfl (fun hb4 => ?_) (fun hb4 => ?_)  -- g1
    · -- g1T
     replace hb4 := nb_tt hb4
     refine S_on rfl rfl ?_
     refine S_call rfl en20 (laws_alive_c _) ?_  -- k6 laws.alive
     rintro v11 w11 ⟨rfl, g11⟩
     replace hA := hA.grow g11
     replace hDA := hDA.grow g11
     replace hDB := hDB.grow g11
     replace hAx := hAx.grow g11
     replace hBx := hBx.grow g11
     replace hCx := hCx.grow g11
     replace hAy := hAy.grow g11
     replace hBy := hBy.grow g11
     replace hCy := hCy.grow g11
     replace G := G.grow g11
     replace B2 := B2.grow g11
     replace B5 := B5.grow g11
     have zg11 := g11.size
     refine S_val (Y_pickT rfl rfl) ?_
     refine S_val (Y_assign rfl) ?_
     refine S_nl rfl rfl ?_
     refine th_n (hK11 _ _ ?_)
     clear hK11 K11
     refine wp_ret ?_
     refine th_r ?_
     clear hK9 K9
     refine ret_r1 rfl rfl ?_  -- r2
     first | exact ⟨rfl, G⟩ | exact ⟨vB hlv, G⟩
    · -- g1F
     replace hb4 := nb_tf hb4
     omega
   · -- c3F
    first | with_reducible (replace hb3 := nb_nf hb3) | with_reducible (replace hb3 := nb_tf hb3) | with_reducible (replace hb3 := nb_bf hb3) | skip
    have va := valid_iff.1 hb3
    have hv9 := hb3
    have h40 := va.le
    have hr4 := va.roots4
    have hlz := lzH_t hb3
    have hlv : lazB (lzH h) (reachV h) 0 = true := by rw [hlz]; exact lazy_start va
    refine wp_skip ?_
    refine th_n (hK9 _ _ ?_)
    clear hK9 K9
    refine wp_seq_k fun K12 hK12 => ?_
    refine D_start 21 48 (fun w => Mod (No) w) follows rfl rfl ?_  -- d2 r9
    intro w12 g12
    replace hA := hA.grow g12
    replace hDA := hDA.grow g12
    replace hDB := hDB.grow g12
    replace hAx := hAx.grow g12
    replace hBx := hBx.grow g12
    replace hCx := hCx.grow g12
    replace hAy := hAy.grow g12
    replace hBy := hBy.grow g12
    replace hCy := hCy.grow g12
    replace G := G.grow g12
    replace B2 := B2.grow g12
    replace B5 := B5.grow g12
    have zg12 := g12.size
    have GS12 := Mod.refl (No) w12
    have B2d12 := B2
    have B5d12 := B5
    refine Dq (i := 0) rfl GS12 (fun _ _ => Y_field Try.underlying39 rfl fz39_0 (by decide) rfl) ?_
    refine Dq (i := 1) rfl GS12 (fun _ hs => Y_loadS Try.underlying26 rfl sz26 rfl (by first | exact hs.cells0 ((CellsAt.of_blk (pre := []) (us := [_, _]) (post := [_, _]) B5 rfl)))) ?_
    refine Dq (i := 2) rfl GS12 (fun _ hs => Y_loadS Try.underlying26 rfl sz26 rfl (by first | exact hs.cells0 (B2.row (by rfl)))) ?_
    refine D_1 (i := 3) (by kernel_rfl) ?_
    refine E_call rfl rfl en31 (laws_sameHeap_c _ _ _ _ _ _ (lzH h) h _ _ _ _ _ hAx hBx hDA hDB (by omega)) ?_  -- k7 laws.sameHeap
    rintro v13 w13 ⟨rfl, g13⟩
    replace hA := hA.grow g13
    replace hDA := hDA.grow g13
    replace hDB := hDB.grow g13
    replace hAx := hAx.grow g13
    replace hBx := hBx.grow g13
    replace hCx := hCx.grow g13
    replace hAy := hAy.grow g13
    replace hBy := hBy.grow g13
    replace hCy := hCy.grow g13
    replace G := G.grow g13
    replace GS12 := GS12.grow g13
    replace B2 := B2.grow g13
    replace B5 := B5.grow g13
    have zg13 := g13.size
    refine ⟨GS12, ?_⟩
    refine Dq (i := 4) rfl GS12 (fun _ _ => Y_move rfl) ?_
    refine D_g 32 rfl (fun hb4 => ?_) (fun hb4 => ?_)  -- g2
    · -- g2T
     first | with_reducible (replace hb4 := nb_nt hb4) | with_reducible (replace hb4 := nb_tt hb4) | with_reducible (replace hb4 := nb_bt hb4) | skip
     refine Dqon (i := 5) rfl rfl rfl GS12 (fun _ _ => Y_field Try.underlying39 rfl fz39_1 (by decide) rfl) ?_
     refine Dqon (i := 6) rfl rfl rfl GS12 (fun _ hs => Y_load Try.underlying32 rfl rfl (by first | exact hs.cell0 (B5.at (by rfl)) | exact hs.cell0 (B5d12.at (by rfl)))) ?_
     refine Dqon (i := 7) rfl rfl rfl GS12 (fun _ hs => Y_loadS Try.underlying26 rfl sz26 rfl (by first | exact hs.cells0 (B2.row (by rfl)) | exact hs.cells0 (B2d12.row (by rfl)))) ?_
     refine D_1 (i := 8) (by kernel_rfl) ?_
     refine E_calln rfl rfl rfl rfl en21 (impl_Reachable_c _ _ _ _ _ _ _ (by assumption) (by assumption) (by omega)) ?_  -- k8 impl.Reachable
     rintro v14 w14 ⟨A14, q14, cap14, rfl, hq14, O14, g14⟩
     replace hA := hA.grow g14
     replace hDA := hDA.grow g14
     replace hDB := hDB.grow g14
     replace hAx := hAx.grow g14
     replace hBx := hBx.grow g14
     replace hCx := hCx.grow g14
     replace hAy := hAy.grow g14
     replace hBy := hBy.grow g14
     replace hCy := hCy.grow g14
     replace G := G.grow g14
     replace GS12 := GS12.grow g14
     replace B2 := B2.grow g14
     replace B5 := B5.grow g14
     have zg14 := g14.size
     subst hq14
     have hRr := O14.lt.r1
     refine ⟨GS12, ?_⟩
     refine D_1 (i := 9) (by kernel_rfl) ?_
     refine E_calln rfl rfl rfl rfl en32 (sameFlags_p _ _ _ _ (reachV h) (reachV h) _ _ _ _ _ hCx hRr (by omega) rfl rfl) ?_  -- k9 laws.sameFlags
     rintro v15 w15 ⟨rfl, g15⟩
     replace hA := hA.grow g15
     replace hDA := hDA.grow g15
     replace hDB := hDB.grow g15
     replace hAx := hAx.grow g15
     replace hBx := hBx.grow g15
     replace hCx := hCx.grow g15
     replace hAy := hAy.grow g15
     replace hBy := hBy.grow g15
     replace hCy := hCy.grow g15
     replace hRr := hRr.grow g15
     replace G := G.grow g15
     replace GS12 := GS12.grow g15
     replace B2 := B2.grow g15
     replace B5 := B5.grow g15
     have zg15 := g15.size
     refine ⟨GS12, ?_⟩
     refine Dq (i := 10) rfl GS12 (fun _ _ => Y_pickT rfl rfl) ?_
     refine Dq (i := 11) rfl GS12 (fun _ _ => Y_move rfl) ?_
     refine D_g 39 rfl (fun hb5 => ?_) (fun hb5 => ?_)  -- g3
     · -- g3T
      first | with_reducible (replace hb5 := nb_nt hb5) | with_reducible (replace hb5 := nb_tt hb5) | with_reducible (replace hb5 := nb_bt hb5) | skip
      refine Dqon (i := 12) rfl rfl rfl GS12 (fun _ _ => Y_field Try.underlying39 rfl fz39_2 (by decide) rfl) ?_
      refine Dqon (i := 13) rfl rfl rfl GS12 (fun _ hs => Y_load Try.underlying3 rfl rfl (by first | exact hs.cell0 (B5.at (by rfl)) | exact hs.cell0 (B5d12.at (by rfl)))) ?_
      refine Dqon (i := 14) rfl rfl rfl GS12 (fun _ _ => Y_eql rfl rfl) ?_
      refine Dq (i := 15) rfl GS12 (fun _ _ => Y_pickT rfl rfl) ?_
      refine Dq (i := 16) rfl GS12 (fun _ _ => Y_move rfl) ?_
      refine D_g 44 rfl (fun hb6 => ?_) (fun hb6 => ?_)  -- g4
      · -- g4T
       first | with_reducible (replace hb6 := nb_nt hb6) | with_reducible (replace hb6 := nb_tt hb6) | with_reducible (replace hb6 := nb_bt hb6) | skip
       refine Dqon (i := 17) rfl rfl rfl GS12 (fun _ hs => Y_loadS Try.underlying39 rfl sz39 rfl (by first | exact hs.cells0 (B5.row (by rfl)) | exact hs.cells0 (B5d12.row (by rfl)))) ?_
       refine D_1 (i := 18) (by kernel_rfl) ?_
       refine E_calln rfl rfl rfl rfl en33 (impl_LazyValid_c _ _ _ _ (lzH h) (reachV h) 0 _ _ _ _ hAx hBx hCx (by omega) (by omega) ⟨by decide, by decide⟩) ?_  -- k10 impl.LazyValid
       rintro v16 w16 ⟨rfl, g16⟩
       replace hA := hA.grow g16
       replace hDA := hDA.grow g16
       replace hDB := hDB.grow g16
       replace hAx := hAx.grow g16
       replace hBx := hBx.grow g16
       replace hCx := hCx.grow g16
       replace hAy := hAy.grow g16
       replace hBy := hBy.grow g16
       replace hCy := hCy.grow g16
       replace hRr := hRr.grow g16
       replace G := G.grow g16
       replace GS12 := GS12.grow g16
       replace B2 := B2.grow g16
       replace B5 := B5.grow g16
       have zg16 := g16.size
       refine ⟨GS12, ?_⟩
       refine Dq (i := 19) rfl GS12 (fun _ _ => Y_pickT rfl rfl) ?_
       refine Dq (i := 20) rfl GS12 (fun _ _ => Y_assign rfl) ?_
       refine D_en (by kernel_rfl) rfl rfl ?_
       refine th_n (hK12 _ _ ?_)
       clear hK12 K12
       refine wp_ret ?_
       refine ret_r1 rfl rfl ?_  -- r3
       first | exact ⟨rfl, G⟩ | exact ⟨vB hlv, G⟩
      · -- g4F
       first | with_reducible (replace hb6 := nb_nf hb6) | with_reducible (replace hb6 := nb_tf hb6) | with_reducible (replace hb6 := nb_bf hb6) | skip
       exact absurd rfl hb6
     · -- g3F
      first | with_reducible (replace hb5 := nb_nf hb5) | with_reducible (replace hb5 := nb_tf hb5) | with_reducible (replace hb5 := nb_bf hb5) | skip
      exact absurd rfl hb5
    · -- g2F
     first | with_reducible (replace hb4 := nb_nf hb4) | with_reducible (replace hb4 := nb_tf hb4) | with_reducible (replace hb4 := nb_bf hb4) | skip
     exact absurd hlz hb4

end Go.Proofs.Ytikgflhepclfgab
