/-
  The law FnCopyForward returns true.
  Conditions: those that each theorem states.
-/
import Derived.Test.YtikgflhepclfgabQa5
set_option linter.unusedVariables false
set_option linter.unusedSimpArgs false
namespace Go.Proofs.Ytikgflhepclfgab
open Go Go.RowKit
attribute [local irreducible] wpList wpAnyH Code.wp dOp

set_option maxHeartbeats 2000000 in
set_option maxRecDepth 20000 in
theorem laws_FnCopyForward_c (Pr : Nat → Prop) (A : Option Addr) (xs : List Int) (c : Nat) (w : World) (hA : R1 Pr w A (u8s xs)) (hn : xs.length ≤ 9223372036854775807) (hcap : xs.length ≤ c) (hrg : ∀ y ∈ xs, 0 ≤ y ∧ y ≤ 255) :
    Calls Try.prog 4 #[.slice A xs.length c] w (Ret fun v w' => v = .bool true ∧ Grow w w') := by
 refine enter Try.func4 rfl Try.ntmps4 (L := [_,_,_,_,_,_,_,_,_,_,_,_,_,_,_,_,_,_,_,_,_,_,_,_,_,_,_,_,_,_,_,_,_,_,_,_,_,_,_,_,_,_,_,_,_,_,_,_,_,_,_,_,_,_,_,_,_,_,_,_,_,_,_,_,_,_,_,_,_,_,_,_,_,_,_,_,_,_,_,_,_,_,_,_,_,_,_,_,_,_,_,_,_,_,_,_,_,_,_,_,_,_,_,_,_]) rfl ?_
 have G := Mod.refl No w
 have hA0 := hA
 refine wp_seq_k fun K1 hK1 => ?_
 refine Sb 105 rfl ?_  -- 0
 refine S_val (Y_assign rfl) ?_
 refine S_nl rfl rfl ?_
 refine th_n (hK1 _ _ ?_)
 clear hK1 K1
 refine wp_seq_k fun K2 hK2 => ?_
 refine wp_seq_k fun K3 hK3 => ?_
 refine Sb 105 rfl ?_  -- 1
 refine S_val (Y_move rfl) ?_
 refine S_val (Y_len Try.underlying22 rfl) ?_
 refine S_val (Y_gtr rfl rfl) ?_
 refine S_nl rfl rfl ?_
 refine th_n (hK3 _ _ ?_)
 clear hK3 K3
 refine S_if rfl (fun hb1 => ?_) (fun hb1 => ?_)  -- c1
 · -- c1T
  replace hb1 := nb_tt hb1
  refine wp_seq_k fun K4 hK4 => ?_
  refine Sb 105 rfl ?_  -- 2
  refine S_val (Y_assign rfl) ?_
  refine S_nl rfl rfl ?_
  refine th_n (hK4 _ _ ?_)
  clear hK4 K4
  refine wp_ret ?_
  refine th_r ?_
  clear hK2 K2
  refine ret_r1 rfl rfl ?_  -- r1
  first | exact ⟨rfl, G⟩ | exact ⟨vT (by omega), G⟩
 · -- c1F
  replace hb1 := nb_tf hb1
  have hx : xs.length ≤ 1048576 := by omega
  refine wp_skip ?_
  refine th_n (hK2 _ _ ?_)
  clear hK2 K2
  refine wp_seq_k fun K5 hK5 => ?_
  refine Sb 105 rfl ?_  -- 3
  refine S_val (Y_move rfl) ?_
  refine S_call rfl en22 (spec_DrawCopyForward_c _ _ _ _ _ (by assumption) (by omega) (by omega) (by assumption)) ?_  -- k1 spec.DrawCopyForward
  rintro v1 w1 ⟨hD1, A1, B1, n11, c11, n21, c21, rfl, hn11, hn21, hz1, RC1, RR1, g1⟩
  replace hA := hA.grow g1
  replace G := G.grow g1
  have zg1 := g1.size
  subst hn11
  subst hn21
  obtain ⟨h, rfl⟩ : ∃ x, x = hD1 := ⟨_, rfl⟩
  obtain ⟨AD, rfl⟩ : ∃ x, x = A1 := ⟨_, rfl⟩
  obtain ⟨BD, rfl⟩ : ∃ x, x = B1 := ⟨_, rfl⟩
  obtain ⟨cD, rfl⟩ : ∃ x, x = c11 := ⟨_, rfl⟩
  obtain ⟨dD, rfl⟩ : ∃ x, x = c21 := ⟨_, rfl⟩
  have hzD := hz1
  have hzcD := hsize_cells h
  have hzrD := hsize_roots h
  have hDA := RC1.below
  have hDB := RR1.below
  have hfl := fwdV_len h
  have hml := metV_len h
  refine S_alloc (cs := [_, _]) zr26 rfl ?_
  intro b2 w2 fb2 g2 B2
  have lb2 := B2.lt
  replace hA := hA.grow g2
  replace hDA := hDA.grow g2
  replace hDB := hDB.grow g2
  replace G := G.grow g2
  have zg2 := g2.size
  refine S_stM (pre := []) (old := [_, _]) (post := []) (vs := [_, _]) sz26 rfl rfl rfl (by first | rfl | assumption) B2 rfl rfl ?_
  intro w3 m3 X3
  replace B2 := Blk.eq (ys := [_, _]) X3 rfl
  clear X3
  replace G := G.abv m3
  replace hA := hA0.grow G
  replace hDA := hDA.md m3
  replace hDB := hDB.md m3
  have zm3 := m3.size
  refine S_nl rfl rfl ?_
  refine th_n (hK5 _ _ ?_)
  clear hK5 K5
  refine wp_seq_k fun K6 hK6 => ?_
  refine Sb 105 rfl ?_  -- 4
  refine S_val (Y_loadS Try.underlying26 rfl sz26 rfl (B2.row (by rfl))) ?_  -- l1
  refine S_call rfl en23 (impl_CopyForward_c _ _ _ _ _ _ _ (by assumption) (by assumption) (by omega)) ?_  -- k2 impl.CopyForward
  rintro v4 w4 ⟨A4, q4, cap4, rfl, hq4, O4, g4⟩
  replace hA := hA.grow g4
  replace hDA := hDA.grow g4
  replace hDB := hDB.grow g4
  replace G := G.grow g4
  replace B2 := B2.grow g4
  have zg4 := g4.size
  subst hq4
  have hRx := O4.lt.r1
  refine S_val (Y_assign rfl) ?_
  refine S_nl rfl rfl ?_
  refine th_n (hK6 _ _ ?_)
  clear hK6 K6
  refine wp_seq_k fun K7 hK7 => ?_
  refine wp_seq_k fun K8 hK8 => ?_
  refine Sb 105 rfl ?_  -- 5
  refine S_val (Y_move rfl) ?_
  refine S_val (Y_loadS Try.underlying26 rfl sz26 rfl (B2.row (by rfl))) ?_  -- l2
  refine S_call rfl en24 (spec_CopyForward_c _ _ _ _ _ _ _ (by assumption) (by assumption) (by omega)) ?_  -- k3 spec.CopyForward
  rintro v5 w5 ⟨A5, q5, cap5, rfl, hq5, O5, g5⟩
  replace hA := hA.grow g5
  replace hDA := hDA.grow g5
  replace hDB := hDB.grow g5
  replace hRx := hRx.grow g5
  replace G := G.grow g5
  replace B2 := B2.grow g5
  have zg5 := g5.size
  subst hq5
  have hRs := O5.lt.r1
  refine S_call rfl en17 (laws_sameInts_c _ _ _ _ _ _ _ _ _ (by assumption) (by assumption) (by omega)) ?_  -- k4 laws.sameInts
  rintro v6 w6 ⟨rfl, g6⟩
  replace hA := hA.grow g6
  replace hDA := hDA.grow g6
  replace hDB := hDB.grow g6
  replace hRx := hRx.grow g6
  replace hRs := hRs.grow g6
  replace G := G.grow g6
  replace B2 := B2.grow g6
  have zg6 := g6.size
  refine S_val (Y_not rfl) ?_
  refine S_nl rfl rfl ?_
  refine th_n (hK8 _ _ ?_)
  clear hK8 K8
  refine S_if rfl (fun hb2 => ?_) (fun hb2 => ?_)  -- c2
  · -- c2T
   first | with_reducible (replace hb2 := nb_nt hb2) | with_reducible (replace hb2 := nb_tt hb2) | with_reducible (replace hb2 := nb_bt hb2) | skip
   exact absurd rfl hb2
  · -- c2F
   first | with_reducible (replace hb2 := nb_nf hb2) | with_reducible (replace hb2 := nb_tf hb2) | with_reducible (replace hb2 := nb_bf hb2) | skip
   refine wp_skip ?_
   refine th_n (hK7 _ _ ?_)
   clear hK7 K7
   refine wp_seq_k fun K9 hK9 => ?_
   refine wp_seq_k fun K10 hK10 => ?_
   refine Sb 105 rfl ?_  -- 7
   refine S_val (Y_loadS Try.underlying26 rfl sz26 rfl (B2.row (by rfl))) ?_  -- l3
   refine S_call rfl en19 (spec_HeapValid_c _ _ _ _ _ _ _ (by assumption) (by assumption) (by omega)) ?_  -- k5 spec.HeapValid
   rintro v7 w7 ⟨rfl, g7⟩
   replace hA := hA.grow g7
   replace hDA := hDA.grow g7
   replace hDB := hDB.grow g7
   replace hRx := hRx.grow g7
   replace hRs := hRs.grow g7
   replace G := G.grow g7
   replace B2 := B2.grow g7
   have zg7 := g7.size
   refine S_val (Y_not rfl) ?_
   refine S_nl rfl rfl ?_
   refine th_n (hK10 _ _ ?_)
   clear hK10 K10
   refine S_if rfl (fun hb3 => ?_) (fun hb3 => ?_)  -- c3
   · -- c3T
    first | with_reducible (replace hb3 := nb_nt hb3) | with_reducible (replace hb3 := nb_tt hb3) | with_reducible (replace hb3 := nb_bt hb3) | skip
    have hrf := fwdV_f hb3
    have hr0 : (fwdV h).length = 0 := by rw [hrf]; rfl
    refine wp_seq_k fun K11 hK11 => ?_
    refine Sb 105 rfl ?_  -- 8
    refine S_val (Y_move rfl) ?_
    refine S_val (Y_len Try.underlying24 rfl) ?_
    refine S_val (Y_eql rfl rfl) ?_
    refine S_val (Y_move rfl) ?_
    refine S_g 27 rfl (fun hb4 => ?_) (fun hb4 => ?_)  -- g1
    · -- g1T
     replace hb4 := nb_tt hb4
     refine S_on rfl rfl ?_
     refine S_call rfl en20 (laws_alive_c _) ?_  -- k6 laws.alive
     rintro v8 w8 ⟨rfl, g8⟩
     replace hA := hA.grow g8
     replace hDA := hDA.grow g8
     replace hDB := hDB.grow g8
     replace hRx := hRx.grow g8
     replace hRs := hRs.grow g8
     replace G := G.grow g8
     replace B2 := B2.grow g8
     have zg8 := g8.size
     refine S_val (Y_pickT rfl rfl) ?_
     refine S_val (Y_assign rfl) ?_
     refine S_nl rfl rfl ?_
     refine th_n (hK11 _ _ ?_)
     clear hK11 K11
     refine wp_ret ?_
     refine th_r ?_
     clear hK9 K9
     refine ret_r1 rfl rfl ?_  -- r2
     first | exact ⟨rfl, G⟩ | exact ⟨vT (by omega), G⟩
    · -- g1F
     replace hb4 := nb_tf hb4
     omega
   · -- c3F
    first | with_reducible (replace hb3 := nb_nf hb3) | with_reducible (replace hb3 := nb_tf hb3) | with_reducible (replace hb3 := nb_bf hb3) | skip
    have va := valid_iff.1 hb3
    have hv9 := hb3
    have h40 := va.le
    have hr4 := va.roots4
    have hfl2 := fwd_len hv9
    have hcl2 := copy_len hv9
    refine wp_skip ?_
    refine th_n (hK9 _ _ ?_)
    clear hK9 K9
    refine wp_seq_k fun K12 hK12 => ?_
    refine Sb 105 rfl ?_  -- 9
    refine S_val (Y_loadS Try.underlying26 rfl sz26 rfl (B2.row (by rfl))) ?_  -- l4
    refine S_call rfl en25 (impl_CopyHeap_c _ _ _ _ _ _ _ (by assumption) (by assumption) (by omega)) ?_  -- k7 impl.CopyHeap
    rintro v9 w9 ⟨A9, B9, n19, c19, n29, c29, rs9, rfl, hn19, hn29, O9, g9⟩
    replace hA := hA.grow g9
    replace hDA := hDA.grow g9
    replace hDB := hDB.grow g9
    replace hRx := hRx.grow g9
    replace hRs := hRs.grow g9
    replace G := G.grow g9
    replace B2 := B2.grow g9
    have zg9 := g9.size
    subst hn19
    subst hn29
    have hAC := O9.lt.rc
    have hBC := O9.lt.r1
    refine S_alloc (cs := [_, _]) zr26 rfl ?_
    intro b10 w10 fb10 g10 B10
    have lb10 := B10.lt
    replace hA := hA.grow g10
    replace hDA := hDA.grow g10
    replace hDB := hDB.grow g10
    replace hRx := hRx.grow g10
    replace hRs := hRs.grow g10
    replace hAC := hAC.grow g10
    replace hBC := hBC.grow g10
    replace G := G.grow g10
    replace B2 := B2.grow g10
    have zg10 := g10.size
    refine S_stM (pre := []) (old := [_, _]) (post := []) (vs := [_, _]) sz26 rfl rfl rfl (by first | rfl | assumption) B10 rfl rfl ?_
    intro w11 m11 X11
    replace B10 := Blk.eq (ys := [_, _]) X11 rfl
    clear X11
    replace G := G.abv m11
    replace hA := hA0.grow G
    replace hDA := hDA.md m11
    replace hDB := hDB.md m11
    replace hRx := hRx.md m11
    replace hRs := hRs.md m11
    replace hAC := hAC.md m11
    replace hBC := hBC.md m11
    replace B2 := B2.md m11
    have zm11 := m11.size
    refine S_nl rfl rfl ?_
    refine th_n (hK12 _ _ ?_)
    clear hK12 K12
    refine wp_seq_k fun K13 hK13 => ?_
    refine Sb 105 rfl ?_  -- 10
    refine S_val (Y_loadS Try.underlying26 rfl sz26 rfl (B2.row (by rfl))) ?_  -- l5
    refine S_call rfl en26 (impl_MetOrder_c _ _ _ _ _ _ _ (by assumption) (by assumption) (by omega)) ?_  -- k8 impl.MetOrder
    rintro v12 w12 ⟨A12, q12, cap12, rfl, hq12, O12, g12⟩
    replace hA := hA.grow g12
    replace hDA := hDA.grow g12
    replace hDB := hDB.grow g12
    replace hRx := hRx.grow g12
    replace hRs := hRs.grow g12
    replace hAC := hAC.grow g12
    replace hBC := hBC.grow g12
    replace G := G.grow g12
    replace B2 := B2.grow g12
    replace B10 := B10.grow g12
    have zg12 := g12.size
    subst hq12
    have hRo := O12.lt.r1
    refine S_val (Y_assign rfl) ?_
    refine S_nl rfl rfl ?_
    refine th_n (hK13 _ _ ?_)
    clear hK13 K13
    refine wp_seq_k fun K14 hK14 => ?_
    refine Sb 105 rfl ?_  -- 11
    refine S_val (Y_assign rfl) ?_
    refine S_nl rfl rfl ?_
    refine th_n (hK14 _ _ ?_)
    clear hK14 K14
    refine wp_seq_k fun K15 hK15 => ?_
    refine wp_seq_k fun K16 hK16 => ?_
    refine Sb 105 rfl ?_  -- 12
    refine S_val (Y_assign rfl) ?_
    refine S_nl rfl rfl ?_
    refine th_n (hK16 _ _ ?_)
    clear hK16 K16
    refine wp_block ?_
    go_loopw [7, 8] (fun u7 u8 wr => (∃ k : Nat, u8 = .int .i64 k ∧ u7 = .int .i64 ((cntP (inL (metV h)) k : Nat) : Int) ∧ k ≤ (fwdV h).length) ∧ Mod No w12 wr) (fun u7 u8 wr => (fwdV h).length - (intOf u8).toNat)  -- L1
    case atStart =>
     refine ⟨?_, Mod.refl _ _⟩
     exact ⟨0, rfl, rfl, by omega⟩
    case round =>
     obtain ⟨w13, rfl⟩ : ∃ x : World, x = wr := ⟨_, rfl⟩
     obtain ⟨hrel, g13⟩ := hrel
     replace hA := hA.grow g13
     replace hDA := hDA.grow g13
     replace hDB := hDB.grow g13
     replace hRx := hRx.grow g13
     replace hRs := hRs.grow g13
     replace hAC := hAC.grow g13
     replace hBC := hBC.grow g13
     replace hRo := hRo.grow g13
     replace G := G.grow g13
     replace B2 := B2.grow g13
     replace B10 := B10.grow g13
     have zg13 := g13.size
     obtain ⟨k, rfl, rfl, hk⟩ := hrel
     have hcp := cntP_le (inL (metV h)) k
     have GL13 := g13
     refine wp_seq_k fun K17 hK17 => ?_
     refine wp_seq_k fun K18 hK18 => ?_
     refine Sb 105 rfl ?_  -- 13
     refine S_val (Y_move rfl) ?_
     refine S_val (Y_move rfl) ?_
     refine S_val (Y_len Try.underlying24 rfl) ?_
     refine S_val (Y_lss rfl rfl) ?_
     refine S_nl rfl rfl ?_
     refine th_n (hK18 _ _ ?_)
     clear hK18 K18
     refine S_if rfl (fun hb4 => ?_) (fun hb4 => ?_)  -- c4
     · -- c4T
      replace hb4 := nb_tt hb4
      have hk1 : k < (fwdV h).length := by omega
      have hkN : k < h.cells.length := by omega
      obtain ⟨g5, o5, e5, hp5, hc5⟩ := hRx.int (k := k) hk1
      cases e5
      rw [fwd_at hv9 hk1] at hc5
      obtain ⟨g2, o2, E2, d2, e2, hp2, cc2, hE2⟩ := hDA.cell (k := k) hkN
      cases e2
      refine wp_skip ?_
      refine th_n (hK17 _ _ ?_)
      clear hK17 K17
      refine wp_seq_k fun K19 hK19 => ?_
      refine wp_block ?_
      refine wp_seq_k fun K20 hK20 => ?_
      refine wp_seq_k fun K21 hK21 => ?_
      refine Sb 105 rfl ?_  -- 15
      refine S_val (Y_move rfl) ?_
      refine S_val (Y_move rfl) ?_
      refine S_val (Y_index Try.underlying24 sz3 rfl rfl (by first | assumption | omega)) ?_
      refine S_val (Y_load Try.underlying3 rfl rfl (by first | assumption | exact cc2.at (by rfl) | exact B2.at (by rfl) | exact B10.at (by rfl))) ?_  -- l6
      refine S_val (Y_lss rfl rfl) ?_
      refine S_nl rfl rfl ?_
      refine th_n (hK21 _ _ ?_)
      clear hK21 K21
      refine S_if rfl (fun hb5 => ?_) (fun hb5 => ?_)  -- c5
      · -- c5T
       replace hb5 := nb_tt hb5
       have hin : inL (metV h) k = false := decide_eq_false (fun h9 => fwd_in.2 h9 hb5)
       refine wp_exit ?_
       refine th_x ?_
       refine ib_e ?_
       refine th_n (hK19 _ _ ?_)
       clear hK20 K20 hK19 K19
       refine Sb 105 rfl ?_  -- 14
       refine S_val (Y_move rfl) ?_
       refine S_val (Y_inc rfl rfl (by omega)) ?_
       refine S_val (Y_assign rfl) ?_
       refine S_nl rfl rfl ?_
       refine th_n ?_
       go_roundw  -- e1 of L1
       case rel =>
        refine ⟨?_, GL13⟩
        first | exact ⟨k + 1, rfl, by rw [cntP_yes hin], by omega⟩ | exact ⟨k + 1, rfl, by rw [cntP_no hin], by omega⟩
       case measure =>
        exact dec_nat (by omega)
      · -- c5F
       replace hb5 := nb_tf hb5
       have hin : inL (metV h) k = true := decide_eq_true (fwd_in.1 hb5)
       obtain ⟨j, hj0, hj1, hj2, hj3, hj4⟩ := fwd_yes hv9 hkN hb5
       rw [hj0] at hc5
       obtain ⟨g6, o6, e6, hp6, hc6⟩ := hRo.int (k := j) hj1
       cases e6
       rw [hj3] at hc6
       obtain ⟨g7, o7, E7, d7, e7, hp7, cc7, _⟩ := hAC.cell hj2
       cases e7
       refine wp_skip ?_
       refine th_n (hK20 _ _ ?_)
       clear hK20 K20
       refine wp_seq_k fun K22 hK22 => ?_
       refine Sb 105 rfl ?_  -- 16
       refine S_val (Y_move rfl) ?_
       refine S_val (Y_inc rfl rfl (by omega)) ?_
       refine S_val (Y_assign rfl) ?_
       refine S_nl rfl rfl ?_
       refine th_n (hK22 _ _ ?_)
       clear hK22 K22
       refine wp_seq_k fun K23 hK23 => ?_
       refine D_start 46 105 (fun w => Mod (No) w) follows rfl rfl ?_  -- d1 r17
       intro w14 g14
       replace hA := hA.grow g14
       replace hDA := hDA.grow g14
       replace hDB := hDB.grow g14
       replace hRx := hRx.grow g14
       replace hRs := hRs.grow g14
       replace hAC := hAC.grow g14
       replace hBC := hBC.grow g14
       replace hRo := hRo.grow g14
       replace G := G.grow g14
       replace GL13 := GL13.grow g14
       replace B2 := B2.grow g14
       replace B10 := B10.grow g14
       replace cc2 := cc2.grow g14
       replace cc7 := cc7.grow g14
       have zg14 := g14.size
       have GS14 := Mod.refl (No) w14
       obtain ⟨g5, o5, e5, hp5, hc5⟩ := hRx.int (k := k) hk1
       cases e5
       rw [fwd_at hv9 hk1, hj0] at hc5
       obtain ⟨g6, o6, e6, hp6, hc6⟩ := hRo.int (k := j) hj1
       cases e6
       rw [hj3] at hc6
       have B2d14 := B2
       have B10d14 := B10
       refine Dq (i := 0) rfl GS14 (fun _ _ => Y_move rfl) ?_
       refine Dq (i := 1) rfl GS14 (fun _ _ => Y_move rfl) ?_
       refine Dq (i := 2) rfl GS14 (fun _ _ => Y_index Try.underlying24 sz3 rfl rfl (by first | assumption | omega)) ?_
       refine Dq (i := 3) rfl GS14 (fun _ hs => Y_load Try.underlying3 rfl rfl (by first | exact hs.cell0 (by assumption) | exact hs.cell0 (cc2.at (by rfl)) | exact hs.cell0 (cc7.at (by rfl)) | exact hs.cell0 (B2.at (by rfl)) | exact hs.cell0 (B10.at (by rfl)))) ?_
       refine Dq (i := 4) rfl GS14 (fun _ _ => Y_move rfl) ?_
       refine Dq (i := 5) rfl GS14 (fun _ _ => Y_len Try.underlying24 rfl) ?_
       refine Dq (i := 6) rfl GS14 (fun _ _ => Y_geq rfl rfl) ?_
       refine Dq (i := 7) rfl GS14 (fun _ _ => Y_move rfl) ?_
       refine D_g 54 rfl (fun hb6 => ?_) (fun hb6 => ?_)  -- g2
       · -- g2T
        replace hb6 := nb_tt hb6
        omega
       · -- g2F
        replace hb6 := nb_tf hb6
        refine Dqon (i := 8) rfl rfl rfl GS14 (fun _ _ => Y_move rfl) ?_
        refine Dqon (i := 9) rfl rfl rfl GS14 (fun _ _ => Y_move rfl) ?_
        refine Dqon (i := 10) rfl rfl rfl GS14 (fun _ _ => Y_index Try.underlying24 sz3 rfl rfl (by first | assumption | omega)) ?_
        refine Dqon (i := 11) rfl rfl rfl GS14 (fun _ hs => Y_load Try.underlying3 rfl rfl (by first | exact hs.cell0 (by assumption) | exact hs.cell0 (cc2.at (by rfl)) | exact hs.cell0 (cc7.at (by rfl)) | exact hs.cell0 (B2.at (by rfl)) | exact hs.cell0 (B10.at (by rfl)))) ?_
        refine Dqon (i := 12) rfl rfl rfl GS14 (fun _ _ => Y_field Try.underlying26 rfl fz26_0 (by decide) rfl) ?_
        refine Dqon (i := 13) rfl rfl rfl GS14 (fun _ hs => Y_load Try.underlying23 rfl rfl (hs.cell0 (B10.at (by rfl)))) ?_
        refine Dqon (i := 14) rfl rfl rfl GS14 (fun _ _ => Y_len Try.underlying23 rfl) ?_
        refine Dqon (i := 15) rfl rfl rfl GS14 (fun _ _ => Y_geq rfl rfl) ?_
        refine Dq (i := 16) rfl GS14 (fun _ _ => Y_pickF rfl rfl) ?_
        refine Dq (i := 17) rfl GS14 (fun _ _ => Y_move rfl) ?_
        refine D_g 64 rfl (fun hb7 => ?_) (fun hb7 => ?_)  -- g3
        · -- g3T
         first | with_reducible (replace hb7 := nb_nt hb7) | with_reducible (replace hb7 := nb_tt hb7) | with_reducible (replace hb7 := nb_bt hb7) | skip
         omega
        · -- g3F
         first | with_reducible (replace hb7 := nb_nf hb7) | with_reducible (replace hb7 := nb_tf hb7) | with_reducible (replace hb7 := nb_bf hb7) | skip
         refine Dqon (i := 18) rfl rfl rfl GS14 (fun _ _ => Y_move rfl) ?_
         refine Dqon (i := 19) rfl rfl rfl GS14 (fun _ _ => Y_move rfl) ?_
         refine Dqon (i := 20) rfl rfl rfl GS14 (fun _ _ => Y_move rfl) ?_
         refine Dqon (i := 21) rfl rfl rfl GS14 (fun _ _ => Y_index Try.underlying24 sz3 rfl rfl (by first | assumption | omega)) ?_
         refine Dqon (i := 22) rfl rfl rfl GS14 (fun _ hs => Y_load Try.underlying3 rfl rfl (by first | exact hs.cell0 (by assumption) | exact hs.cell0 (cc2.at (by rfl)) | exact hs.cell0 (cc7.at (by rfl)) | exact hs.cell0 (B2.at (by rfl)) | exact hs.cell0 (B10.at (by rfl)))) ?_
         refine Dqon (i := 23) rfl rfl rfl GS14 (fun _ _ => Y_index Try.underlying24 sz3 rfl rfl (by first | assumption | omega)) ?_
         refine Dqon (i := 24) rfl rfl rfl GS14 (fun _ hs => Y_load Try.underlying3 rfl rfl (by first | exact hs.cell0 (by assumption) | exact hs.cell0 (cc2.at (by rfl)) | exact hs.cell0 (cc7.at (by rfl)) | exact hs.cell0 (B2.at (by rfl)) | exact hs.cell0 (B10.at (by rfl)))) ?_
         refine Dqon (i := 25) rfl rfl rfl GS14 (fun _ _ => Y_move rfl) ?_
         refine Dqon (i := 26) rfl rfl rfl GS14 (fun _ _ => Y_neq rfl rfl) ?_
         refine Dq (i := 27) rfl GS14 (fun _ _ => Y_pickF rfl rfl) ?_
         refine Dq (i := 28) rfl GS14 (fun _ _ => Y_move rfl) ?_
         refine D_g 75 rfl (fun hb8 => ?_) (fun hb8 => ?_)  -- g4
         · -- g4T
          first | with_reducible (replace hb8 := nb_nt hb8) | with_reducible (replace hb8 := nb_tt hb8) | with_reducible (replace hb8 := nb_bt hb8) | skip
          exact absurd rfl hb8
         · -- g4F
          first | with_reducible (replace hb8 := nb_nf hb8) | with_reducible (replace hb8 := nb_tf hb8) | with_reducible (replace hb8 := nb_bf hb8) | skip
          refine Dqon (i := 29) rfl rfl rfl GS14 (fun _ _ => Y_field Try.underlying26 rfl fz26_0 (by decide) rfl) ?_
          refine Dqon (i := 30) rfl rfl rfl GS14 (fun _ hs => Y_load Try.underlying23 rfl rfl (hs.cell0 (B10.at (by rfl)))) ?_
          refine Dqon (i := 31) rfl rfl rfl GS14 (fun _ _ => Y_move rfl) ?_
          refine Dqon (i := 32) rfl rfl rfl GS14 (fun _ _ => Y_move rfl) ?_
          refine Dqon (i := 33) rfl rfl rfl GS14 (fun _ _ => Y_index Try.underlying24 sz3 rfl rfl (by first | assumption | omega)) ?_
          refine Dqon (i := 34) rfl rfl rfl GS14 (fun _ hs => Y_load Try.underlying3 rfl rfl (by first | exact hs.cell0 (by assumption) | exact hs.cell0 (cc2.at (by rfl)) | exact hs.cell0 (cc7.at (by rfl)) | exact hs.cell0 (B2.at (by rfl)) | exact hs.cell0 (B10.at (by rfl)))) ?_
          refine Dqon (i := 35) rfl rfl rfl GS14 (fun _ _ => Y_index Try.underlying23 sz37 rfl rfl (by first | assumption | omega)) ?_
          refine Dqon (i := 36) rfl rfl rfl GS14 (fun _ _ => Y_field Try.underlying37 rfl fz37_1 (by decide) rfl) ?_
          refine Dqon (i := 37) rfl rfl rfl GS14 (fun _ hs => Y_load Try.underlying3 rfl rfl (by first | exact hs.cell0 (by assumption) | exact hs.cell0 (cc2.at (by rfl)) | exact hs.cell0 (cc7.at (by rfl)) | exact hs.cell0 (B2.at (by rfl)) | exact hs.cell0 (B10.at (by rfl)))) ?_
          refine Dqon (i := 38) rfl rfl rfl GS14 (fun _ _ => Y_field Try.underlying26 rfl fz26_0 (by decide) rfl) ?_
          refine Dqon (i := 39) rfl rfl rfl GS14 (fun _ hs => Y_load Try.underlying23 rfl rfl (hs.cell0 (B2.at (by rfl)))) ?_
          refine Dqon (i := 40) rfl rfl rfl GS14 (fun _ _ => Y_move rfl) ?_
          refine Dqon (i := 41) rfl rfl rfl GS14 (fun _ _ => Y_index Try.underlying23 sz37 rfl rfl (by first | assumption | omega)) ?_
          refine Dqon (i := 42) rfl rfl rfl GS14 (fun _ _ => Y_field Try.underlying37 rfl fz37_1 (by decide) rfl) ?_
          refine Dqon (i := 43) rfl rfl rfl GS14 (fun _ hs => Y_load Try.underlying3 rfl rfl (by first | exact hs.cell0 (by assumption) | exact hs.cell0 (cc2.at (by rfl)) | exact hs.cell0 (cc7.at (by rfl)) | exact hs.cell0 (B2.at (by rfl)) | exact hs.cell0 (B10.at (by rfl)))) ?_
          refine Dqon (i := 44) rfl rfl rfl GS14 (fun _ _ => Y_neq rfl rfl) ?_
          refine Dq (i := 45) rfl GS14 (fun _ _ => Y_pickF rfl rfl) ?_
          refine D_en (by kernel_rfl) rfl rfl ?_
          refine th_n (hK23 _ _ ?_)
          clear hK23 K23
          refine S_if rfl (fun hb9 => ?_) (fun hb9 => ?_)  -- c6
          · -- c6T
           first | with_reducible (replace hb9 := nb_nt hb9) | with_reducible (replace hb9 := nb_tt hb9) | with_reducible (replace hb9 := nb_bt hb9) | skip
           exact absurd hj4 hb9
          · -- c6F
           first | with_reducible (replace hb9 := nb_nf hb9) | with_reducible (replace hb9 := nb_tf hb9) | with_reducible (replace hb9 := nb_bf hb9) | skip
           refine wp_skip ?_
           refine ib_n ?_
           refine th_n (hK19 _ _ ?_)
           clear hK19 K19
           refine Sb 105 rfl ?_  -- 14
           refine S_val (Y_move rfl) ?_
           refine S_val (Y_inc rfl rfl (by omega)) ?_
           refine S_val (Y_assign rfl) ?_
           refine S_nl rfl rfl ?_
           refine th_n ?_
           go_roundw  -- e2 of L1
           case rel =>
            refine ⟨?_, GL13⟩
            first | exact ⟨k + 1, rfl, by rw [cntP_yes hin], by omega⟩ | exact ⟨k + 1, rfl, by rw [cntP_no hin], by omega⟩
           case measure =>
            exact dec_nat (by omega)
     · -- c4F
      replace hb4 := nb_tf hb4
      have hkE : k = h.cells.length := by omega
      have hil := inL_len (met_bndX h)
      rw [← hkE] at hil
      refine wp_exit ?_
      refine th_x ?_
      try clear GL13
      refine th_x ?_
      refine ib_e ?_
      refine th_n (hK15 _ _ ?_)
      clear hK17 K17 hK15 K15
      refine wp_seq_k fun K24 hK24 => ?_
      refine Sb 105 rfl ?_  -- 19
      refine S_val (Y_move rfl) ?_
      refine S_val (Y_len Try.underlying24 rfl) ?_
      refine S_val (Y_field Try.underlying26 rfl fz26_0 (by decide) rfl) ?_
      refine S_val (Y_load Try.underlying23 rfl rfl (B2.at (by rfl))) ?_  -- l17
      refine S_val (Y_len Try.underlying23 rfl) ?_
      refine S_val (Y_eql rfl rfl) ?_
      refine S_val (Y_move rfl) ?_
      refine S_g 99 rfl (fun hb5 => ?_) (fun hb5 => ?_)  -- g5
      · -- g5T
       replace hb5 := nb_tt hb5
       refine S_on rfl rfl ?_
       refine S_val (Y_move rfl) ?_
       refine S_on rfl rfl ?_
       refine S_val (Y_move rfl) ?_
       refine S_on rfl rfl ?_
       refine S_val (Y_len Try.underlying24 rfl) ?_
       refine S_on rfl rfl ?_
       refine S_val (Y_eql rfl rfl) ?_
       refine S_val (Y_pickT rfl rfl) ?_
       refine S_val (Y_assign rfl) ?_
       refine S_nl rfl rfl ?_
       refine th_n (hK24 _ _ ?_)
       clear hK24 K24
       refine wp_ret ?_
       refine ret_r1 rfl rfl ?_  -- r3
       first | exact ⟨rfl, G⟩ | exact ⟨vT (by omega), G⟩
      · -- g5F
       replace hb5 := nb_tf hb5
       omega

end Go.Proofs.Ytikgflhepclfgab
