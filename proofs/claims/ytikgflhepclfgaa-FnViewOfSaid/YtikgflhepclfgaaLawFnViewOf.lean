/-
  The law FnViewOf returns true.
  Conditions: those that each theorem states.
-/
import Derived.Test.YtikgflhepclfgaaQa5
set_option linter.unusedVariables false
set_option linter.unusedSimpArgs false
namespace Go.Proofs.Ytikgflhepclfgaa
open Go Go.RowKit
attribute [local irreducible] wpList wpAnyH Code.wp dOp

set_option maxHeartbeats 400000 in
set_option maxRecDepth 20000 in
theorem laws_FnViewOf_c (Pr : Nat → Prop) (A : Option Addr) (xs : List Int) (c : Nat) (w : World) (hA : R1 Pr w A (u8s xs)) (hn : xs.length ≤ 9223372036854775807) (hcap : xs.length ≤ c) (hrg : ∀ y ∈ xs, 0 ≤ y ∧ y ≤ 255) :
    Calls Try.prog 11 #[.slice A xs.length c] w (Ret fun v w' => v = .bool true ∧ Grow w w') := by
 refine enter Try.func11 rfl Try.ntmps11 (L := [_,_,_,_,_,_,_,_,_,_,_,_,_,_,_,_,_,_,_,_,_,_,_,_,_,_,_,_,_,_,_,_,_,_,_,_,_,_,_,_,_,_,_,_,_,_,_,_,_,_,_,_,_,_,_,_,_,_]) rfl ?_
 have G := Mod.refl No w
 have hA0 := hA
 refine wp_seq_k fun K1 hK1 => ?_
 refine Sb 58 rfl ?_  -- 0
 refine S_val (Y_assign rfl) ?_
 refine S_nl rfl rfl ?_
 refine th_n (hK1 _ _ ?_)
 clear hK1 K1
 refine wp_seq_k fun K2 hK2 => ?_
 refine wp_seq_k fun K3 hK3 => ?_
 refine Sb 58 rfl ?_  -- 1
 refine S_val (Y_move rfl) ?_
 refine S_val (Y_len Try.underlying22 rfl) ?_
 refine S_val (Y_gtr rfl rfl) ?_
 refine S_nl rfl rfl ?_
 refine th_n (hK3 _ _ ?_)
 clear hK3 K3
 refine S_if rfl (fun hb1 => ?_) (fun hb1 => ?_)  -- c1
 · -- c1T
  replace hb1 := nb_tt hb1
  refine wp_seq_k fun K4 hK4 => ?_
  refine Sb 58 rfl ?_  -- 2
  refine S_val (Y_assign rfl) ?_
  refine S_nl rfl rfl ?_
  refine th_n (hK4 _ _ ?_)
  clear hK4 K4
  refine wp_ret ?_
  refine th_r ?_
  clear hK2 K2
  refine ret_r1 rfl rfl ?_  -- r1
  first | exact ⟨rfl, G⟩ | exact ⟨vT (by rw [hSc]; exact swept_view va), G⟩
 · -- c1F
  replace hb1 := nb_tf hb1
  have hx : xs.length ≤ 1048576 := by omega
  refine wp_skip ?_
  refine th_n (hK2 _ _ ?_)
  clear hK2 K2
  refine wp_seq_k fun K5 hK5 => ?_
  refine Sb 58 rfl ?_  -- 3
  refine S_val (Y_move rfl) ?_
  refine S_call rfl en44 (spec_DrawViewOf_c _ _ _ _ _ (by assumption) (by omega) (by omega) (by assumption)) ?_  -- k1 spec.DrawViewOf
  rintro v1 w1 ⟨hD1, A1, B1, n11, c11, n21, c21, rfl, hn11, hn21, hz1, RC1, RR1, g1⟩
  replace hA := hA.grow g1
  replace G := G.grow g1
  have zg1 := g1.size
  subst hn11
  subst hn21
  obtain ⟨h, rfl⟩ : ∃ x, x = hD1 := ⟨_, rfl⟩
  obtain ⟨AD, rfl⟩ : ∃ x, x = A1 := ⟨_, rfl⟩
  obtain ⟨BD, rfl⟩ : ∃ x, x = B1 := ⟨_, rfl⟩
  obtain ⟨cD, rfl⟩ : ∃ x, x = c11 := ⟨_, rfl⟩
  obtain ⟨dD, rfl⟩ : ∃ x, x = c21 := ⟨_, rfl⟩
  have hzD := hz1
  have hzcD := hsize_cells h
  have hzrD := hsize_roots h
  have hDA := RC1.below
  have hDB := RR1.below
  have hvl := viewV_len h
  refine S_alloc (cs := [_, _]) zr35 rfl ?_
  intro b2 w2 fb2 g2 B2
  have lb2 := B2.lt
  replace hA := hA.grow g2
  replace hDA := hDA.grow g2
  replace hDB := hDB.grow g2
  replace G := G.grow g2
  have zg2 := g2.size
  refine S_stM (pre := []) (old := [_, _]) (post := []) (vs := [_, _]) sz35 rfl rfl rfl (by first | rfl | assumption) B2 rfl rfl ?_
  intro w3 m3 X3
  replace B2 := Blk.eq (ys := [_, _]) X3 rfl
  clear X3
  replace G := G.abv m3
  replace hA := hA0.grow G
  replace hDA := hDA.md m3
  replace hDB := hDB.md m3
  have zm3 := m3.size
  refine S_nl rfl rfl ?_
  refine th_n (hK5 _ _ ?_)
  clear hK5 K5
  refine wp_seq_k fun K6 hK6 => ?_
  refine Sb 58 rfl ?_  -- 4
  refine S_val (Y_loadS Try.underlying35 rfl sz35 rfl (B2.row (by rfl))) ?_  -- l1
  refine S_call rfl en45 (impl_ViewOf_c _ _ _ _ _ _ _ (by assumption) (by assumption) (by omega)) ?_  -- k2 impl.ViewOf
  rintro v4 w4 ⟨A4, q4, cap4, rfl, hq4, O4, g4⟩
  replace hA := hA.grow g4
  replace hDA := hDA.grow g4
  replace hDB := hDB.grow g4
  replace G := G.grow g4
  replace B2 := B2.grow g4
  have zg4 := g4.size
  subst hq4
  have hvc := O4.cap
  have hRx := O4.lt.r1
  refine S_val (Y_assign rfl) ?_
  refine S_nl rfl rfl ?_
  refine th_n (hK6 _ _ ?_)
  clear hK6 K6
  refine wp_seq_k fun K7 hK7 => ?_
  refine wp_seq_k fun K8 hK8 => ?_
  refine Sb 58 rfl ?_  -- 5
  refine S_val (Y_move rfl) ?_
  refine S_val (Y_loadS Try.underlying35 rfl sz35 rfl (B2.row (by rfl))) ?_  -- l2
  refine S_call rfl en46 (spec_ViewOf_c _ _ _ _ _ _ _ (by assumption) (by assumption) (by omega)) ?_  -- k3 spec.ViewOf
  rintro v5 w5 ⟨A5, q5, cap5, rfl, hq5, O5, g5⟩
  replace hA := hA.grow g5
  replace hDA := hDA.grow g5
  replace hDB := hDB.grow g5
  replace hRx := hRx.grow g5
  replace G := G.grow g5
  replace B2 := B2.grow g5
  have zg5 := g5.size
  subst hq5
  have hRs := O5.lt.r1
  refine S_call rfl en36 (laws_sameInts_c _ _ _ _ _ _ _ _ _ (by assumption) (by assumption) (by omega)) ?_  -- k4 laws.sameInts
  rintro v6 w6 ⟨rfl, g6⟩
  replace hA := hA.grow g6
  replace hDA := hDA.grow g6
  replace hDB := hDB.grow g6
  replace hRx := hRx.grow g6
  replace hRs := hRs.grow g6
  replace G := G.grow g6
  replace B2 := B2.grow g6
  have zg6 := g6.size
  refine S_val (Y_not rfl) ?_
  refine S_nl rfl rfl ?_
  refine th_n (hK8 _ _ ?_)
  clear hK8 K8
  refine S_if rfl (fun hb2 => ?_) (fun hb2 => ?_)  -- c2
  · -- c2T
   first | with_reducible (replace hb2 := nb_nt hb2) | with_reducible (replace hb2 := nb_tt hb2) | with_reducible (replace hb2 := nb_bt hb2) | skip
   exact absurd rfl hb2
  · -- c2F
   first | with_reducible (replace hb2 := nb_nf hb2) | with_reducible (replace hb2 := nb_tf hb2) | with_reducible (replace hb2 := nb_bf hb2) | skip
   refine wp_skip ?_
   refine th_n (hK7 _ _ ?_)
   clear hK7 K7
   refine wp_seq_k fun K9 hK9 => ?_
   refine wp_seq_k fun K10 hK10 => ?_
   refine Sb 58 rfl ?_  -- 7
   refine S_val (Y_loadS Try.underlying35 rfl sz35 rfl (B2.row (by rfl))) ?_  -- l3
   refine S_call rfl en34 (spec_HeapValid_c _ _ _ _ _ _ _ (by assumption) (by assumption) (by omega)) ?_  -- k5 spec.HeapValid
   rintro v7 w7 ⟨rfl, g7⟩
   replace hA := hA.grow g7
   replace hDA := hDA.grow g7
   replace hDB := hDB.grow g7
   replace hRx := hRx.grow g7
   replace hRs := hRs.grow g7
   replace G := G.grow g7
   replace B2 := B2.grow g7
   have zg7 := g7.size
   refine S_val (Y_not rfl) ?_
   refine S_nl rfl rfl ?_
   refine th_n (hK10 _ _ ?_)
   clear hK10 K10
   refine S_if rfl (fun hb3 => ?_) (fun hb3 => ?_)  -- c3
   · -- c3T
    first | with_reducible (replace hb3 := nb_nt hb3) | with_reducible (replace hb3 := nb_tt hb3) | with_reducible (replace hb3 := nb_bt hb3) | skip
    have hrf := viewV_f hb3
    have hr0 : (viewV h).length = 0 := by rw [hrf]; rfl
    refine wp_seq_k fun K11 hK11 => ?_
    refine Sb 58 rfl ?_  -- 8
    refine S_val (Y_move rfl) ?_
    refine S_val (Y_len Try.underlying33 rfl) ?_
    refine S_val (Y_eql rfl rfl) ?_
    refine S_val (Y_move rfl) ?_
    refine S_g 27 rfl (fun hb4 => ?_) (fun hb4 => ?_)  -- g1
    · -- g1T
     replace hb4 := nb_tt hb4
     refine S_on rfl rfl ?_
     refine S_call rfl en18 (laws_alive_c _) ?_  -- k6 laws.alive
     rintro v8 w8 ⟨rfl, g8⟩
     replace hA := hA.grow g8
     replace hDA := hDA.grow g8
     replace hDB := hDB.grow g8
     replace hRx := hRx.grow g8
     replace hRs := hRs.grow g8
     replace G := G.grow g8
     replace B2 := B2.grow g8
     have zg8 := g8.size
     refine S_val (Y_pickT rfl rfl) ?_
     refine S_val (Y_assign rfl) ?_
     refine S_nl rfl rfl ?_
     refine th_n (hK11 _ _ ?_)
     clear hK11 K11
     refine wp_ret ?_
     refine th_r ?_
     clear hK9 K9
     refine ret_r1 rfl rfl ?_  -- r2
     first | exact ⟨rfl, G⟩ | exact ⟨vT (by rw [hSc]; exact swept_view va), G⟩
    · -- g1F
     replace hb4 := nb_tf hb4
     omega
   · -- c3F
    first | with_reducible (replace hb3 := nb_nf hb3) | with_reducible (replace hb3 := nb_tf hb3) | with_reducible (replace hb3 := nb_bf hb3) | skip
    have va := valid_iff.1 hb3
    have hv9 := hb3
    have h40 := va.le
    have hr4 := va.roots4
    refine wp_skip ?_
    refine th_n (hK9 _ _ ?_)
    clear hK9 K9
    refine wp_seq_k fun K12 hK12 => ?_
    refine Sb 58 rfl ?_  -- 9
    refine S_val (Y_move rfl) ?_
    refine S_call rfl en47 (impl_HeapOf_c _ _ (viewV h) _ _ hRx (by omega) (fun _ => hvc)) ?_  -- k7 impl.HeapOf
    rintro v9 w9 ⟨A9, B9, n19, c19, n29, c29, rs9, rfl, hn19, hn29, O9, g9⟩
    replace hA := hA.grow g9
    replace hDA := hDA.grow g9
    replace hDB := hDB.grow g9
    replace hRx := hRx.grow g9
    replace hRs := hRs.grow g9
    replace G := G.grow g9
    replace B2 := B2.grow g9
    have zg9 := g9.size
    obtain ⟨hX, hXe⟩ : ∃ x, x = (heapOfV (viewV h)).1 := ⟨_, rfl⟩
    have hXc : hX = copyV h := by rw [hXe, heapOf_view va]
    have hXz : hsize hX ≤ 200 := by rw [hXe]; exact heapOfV_small _
    rw [← hXe] at hn19 hn29 O9
    subst hn19
    subst hn29
    have hXA := O9.lt.rc
    have hXB := O9.lt.r1
    have hvX := viewV_len hX
    have hX2 : (heapOfV (viewV h)).2 = true := by rw [heapOf_view va]
    rw [hX2]
    refine S_val (Y_move rfl) ?_
    refine S_val (Y_extract rfl rfl) ?_
    refine S_val (Y_extract rfl rfl) ?_
    refine S_alloc (cs := [_, _]) zr35 rfl ?_
    intro b10 w10 fb10 g10 B10
    have lb10 := B10.lt
    replace hA := hA.grow g10
    replace hDA := hDA.grow g10
    replace hDB := hDB.grow g10
    replace hRx := hRx.grow g10
    replace hRs := hRs.grow g10
    replace hXA := hXA.grow g10
    replace hXB := hXB.grow g10
    replace G := G.grow g10
    replace B2 := B2.grow g10
    have zg10 := g10.size
    refine S_stM (pre := []) (old := [_, _]) (post := []) (vs := [_, _]) sz35 rfl rfl rfl (by first | rfl | assumption) B10 rfl rfl ?_
    intro w11 m11 X11
    replace B10 := Blk.eq (ys := [_, _]) X11 rfl
    clear X11
    replace G := G.abv m11
    replace hA := hA0.grow G
    replace hDA := hDA.md m11
    replace hDB := hDB.md m11
    replace hRx := hRx.md m11
    replace hRs := hRs.md m11
    replace hXA := hXA.md m11
    replace hXB := hXB.md m11
    replace B2 := B2.md m11
    have zm11 := m11.size
    refine S_val (Y_assign rfl) ?_
    refine S_nl rfl rfl ?_
    refine th_n (hK12 _ _ ?_)
    clear hK12 K12
    refine wp_seq_k fun K13 hK13 => ?_
    refine Sb 58 rfl ?_  -- 10
    refine S_val (Y_loadS Try.underlying35 rfl sz35 rfl (B2.row (by rfl))) ?_  -- l4
    refine S_call rfl en48 (impl_CollectSweep_c _ _ _ _ _ _ _ (by assumption) (by assumption) (by omega)) ?_  -- k8 impl.CollectSweep
    rintro v12 w12 ⟨A12, B12, n112, c112, n212, c212, rs12, rfl, hn112, hn212, O12, g12⟩
    replace hA := hA.grow g12
    replace hDA := hDA.grow g12
    replace hDB := hDB.grow g12
    replace hRx := hRx.grow g12
    replace hRs := hRs.grow g12
    replace hXA := hXA.grow g12
    replace hXB := hXB.grow g12
    replace G := G.grow g12
    replace B2 := B2.grow g12
    replace B10 := B10.grow g12
    have zg12 := g12.size
    obtain ⟨hS, hSe⟩ : ∃ x, x = (sweepV h (reachV h)).1 := ⟨_, rfl⟩
    have hSc : hS = sweptH h := by rw [hSe, swept_eq va]
    have hSz : hsize hS ≤ 200 := by rw [hSe]; exact sweep_small _ _
    rw [← hSe] at hn112 hn212 O12
    subst hn112
    subst hn212
    have hSA := O12.lt.rc
    have hSB := O12.lt.r1
    have hvS := viewV_len hS
    refine S_val (Y_move rfl) ?_
    refine S_val (Y_extract rfl rfl) ?_
    refine S_val (Y_extract rfl rfl) ?_
    refine S_alloc (cs := [_, _]) zr35 rfl ?_
    intro b13 w13 fb13 g13 B13
    have lb13 := B13.lt
    replace hA := hA.grow g13
    replace hDA := hDA.grow g13
    replace hDB := hDB.grow g13
    replace hRx := hRx.grow g13
    replace hRs := hRs.grow g13
    replace hXA := hXA.grow g13
    replace hXB := hXB.grow g13
    replace hSA := hSA.grow g13
    replace hSB := hSB.grow g13
    replace G := G.grow g13
    replace B2 := B2.grow g13
    replace B10 := B10.grow g13
    have zg13 := g13.size
    refine S_stM (pre := []) (old := [_, _]) (post := []) (vs := [_, _]) sz35 rfl rfl rfl (by first | rfl | assumption) B13 rfl rfl ?_
    intro w14 m14 X14
    replace B13 := Blk.eq (ys := [_, _]) X14 rfl
    clear X14
    replace G := G.abv m14
    replace hA := hA0.grow G
    replace hDA := hDA.md m14
    replace hDB := hDB.md m14
    replace hRx := hRx.md m14
    replace hRs := hRs.md m14
    replace hXA := hXA.md m14
    replace hXB := hXB.md m14
    replace hSA := hSA.md m14
    replace hSB := hSB.md m14
    replace B2 := B2.md m14
    replace B10 := B10.md m14
    have zm14 := m14.size
    refine S_val (Y_assign rfl) ?_
    refine S_nl rfl rfl ?_
    refine th_n (hK13 _ _ ?_)
    clear hK13 K13
    refine wp_seq_k fun K14 hK14 => ?_
    refine Sb 58 rfl ?_  -- 11
    refine S_val (Y_move rfl) ?_
    refine S_val (Y_move rfl) ?_
    refine S_g 41 rfl (fun hb4 => ?_) (fun hb4 => ?_)  -- g2
    · -- g2T
     first | with_reducible (replace hb4 := nb_nt hb4) | with_reducible (replace hb4 := nb_tt hb4) | with_reducible (replace hb4 := nb_bt hb4) | skip
     refine S_on rfl rfl ?_
     refine S_val (Y_loadS Try.underlying35 rfl sz35 rfl (B10.row (by rfl))) ?_  -- l5
     refine S_on rfl rfl ?_
     refine S_call rfl en45 (impl_ViewOf_c _ _ _ _ _ _ _ (by assumption) (by assumption) (by omega)) ?_  -- k9 impl.ViewOf
     rintro v15 w15 ⟨A15, q15, cap15, rfl, hq15, O15, g15⟩
     replace hA := hA.grow g15
     replace hDA := hDA.grow g15
     replace hDB := hDB.grow g15
     replace hRx := hRx.grow g15
     replace hRs := hRs.grow g15
     replace hXA := hXA.grow g15
     replace hXB := hXB.grow g15
     replace hSA := hSA.grow g15
     replace hSB := hSB.grow g15
     replace G := G.grow g15
     replace B2 := B2.grow g15
     replace B10 := B10.grow g15
     replace B13 := B13.grow g15
     have zg15 := g15.size
     subst hq15
     have hRv := O15.lt.r1
     refine S_on rfl rfl ?_
     refine S_val (Y_move rfl) ?_
     refine S_on rfl rfl ?_
     refine S_call rfl en36 (laws_sameInts_c _ _ _ _ _ _ _ _ _ (by assumption) (by assumption) (by omega)) ?_  -- k10 laws.sameInts
     rintro v16 w16 ⟨rfl, g16⟩
     replace hA := hA.grow g16
     replace hDA := hDA.grow g16
     replace hDB := hDB.grow g16
     replace hRx := hRx.grow g16
     replace hRs := hRs.grow g16
     replace hXA := hXA.grow g16
     replace hXB := hXB.grow g16
     replace hSA := hSA.grow g16
     replace hSB := hSB.grow g16
     replace hRv := hRv.grow g16
     replace G := G.grow g16
     replace B2 := B2.grow g16
     replace B10 := B10.grow g16
     replace B13 := B13.grow g16
     have zg16 := g16.size
     refine S_val (Y_pickT rfl rfl) ?_
     refine S_val (Y_move rfl) ?_
     refine S_g 47 rfl (fun hb5 => ?_) (fun hb5 => ?_)  -- g3
     · -- g3T
      first | with_reducible (replace hb5 := nb_nt hb5) | with_reducible (replace hb5 := nb_tt hb5) | with_reducible (replace hb5 := nb_bt hb5) | skip
      refine S_on rfl rfl ?_
      refine S_val (Y_move rfl) ?_
      refine S_on rfl rfl ?_
      refine S_val (Y_len Try.underlying33 rfl) ?_
      refine S_on rfl rfl ?_
      refine S_val (Y_geq rfl rfl) ?_
      refine S_val (Y_pickT rfl rfl) ?_
      refine S_val (Y_move rfl) ?_
      refine S_g 52 rfl (fun hb6 => ?_) (fun hb6 => ?_)  -- g4
      · -- g4T
       first | with_reducible (replace hb6 := nb_nt hb6) | with_reducible (replace hb6 := nb_tt hb6) | with_reducible (replace hb6 := nb_bt hb6) | skip
       refine S_on rfl rfl ?_
       refine S_val (Y_loadS Try.underlying35 rfl sz35 rfl (B13.row (by rfl))) ?_  -- l6
       refine S_on rfl rfl ?_
       refine S_call rfl en45 (impl_ViewOf_c _ _ _ _ _ _ _ (by assumption) (by assumption) (by omega)) ?_  -- k11 impl.ViewOf
       rintro v17 w17 ⟨A17, q17, cap17, rfl, hq17, O17, g17⟩
       replace hA := hA.grow g17
       replace hDA := hDA.grow g17
       replace hDB := hDB.grow g17
       replace hRx := hRx.grow g17
       replace hRs := hRs.grow g17
       replace hXA := hXA.grow g17
       replace hXB := hXB.grow g17
       replace hSA := hSA.grow g17
       replace hSB := hSB.grow g17
       replace hRv := hRv.grow g17
       replace G := G.grow g17
       replace B2 := B2.grow g17
       replace B10 := B10.grow g17
       replace B13 := B13.grow g17
       have zg17 := g17.size
       subst hq17
       have hRu := O17.lt.r1
       refine S_on rfl rfl ?_
       refine S_val (Y_move rfl) ?_
       refine S_on rfl rfl ?_
       refine S_call rfl en36 (laws_sameInts_c _ _ _ _ _ _ _ _ _ (by assumption) (by assumption) (by omega)) ?_  -- k12 laws.sameInts
       rintro v18 w18 ⟨rfl, g18⟩
       replace hA := hA.grow g18
       replace hDA := hDA.grow g18
       replace hDB := hDB.grow g18
       replace hRx := hRx.grow g18
       replace hRs := hRs.grow g18
       replace hXA := hXA.grow g18
       replace hXB := hXB.grow g18
       replace hSA := hSA.grow g18
       replace hSB := hSB.grow g18
       replace hRv := hRv.grow g18
       replace hRu := hRu.grow g18
       replace G := G.grow g18
       replace B2 := B2.grow g18
       replace B10 := B10.grow g18
       replace B13 := B13.grow g18
       have zg18 := g18.size
       refine S_val (Y_pickT rfl rfl) ?_
       refine S_val (Y_assign rfl) ?_
       refine S_nl rfl rfl ?_
       refine th_n (hK14 _ _ ?_)
       clear hK14 K14
       refine wp_ret ?_
       refine ret_r1 rfl rfl ?_  -- r3
       first | exact ⟨rfl, G⟩ | exact ⟨vT (by rw [hSc]; exact swept_view va), G⟩
      · -- g4F
       first | with_reducible (replace hb6 := nb_nf hb6) | with_reducible (replace hb6 := nb_tf hb6) | with_reducible (replace hb6 := nb_bf hb6) | skip
       have := viewV_ge hv9; omega
     · -- g3F
      first | with_reducible (replace hb5 := nb_nf hb5) | with_reducible (replace hb5 := nb_tf hb5) | with_reducible (replace hb5 := nb_bf hb5) | skip
      exact absurd (by rw [hXc]; exact copy_view va) hb5
    · -- g2F
     first | with_reducible (replace hb4 := nb_nf hb4) | with_reducible (replace hb4 := nb_tf hb4) | with_reducible (replace hb4 := nb_bf hb4) | skip
     cases hb4

end Go.Proofs.Ytikgflhepclfgaa
