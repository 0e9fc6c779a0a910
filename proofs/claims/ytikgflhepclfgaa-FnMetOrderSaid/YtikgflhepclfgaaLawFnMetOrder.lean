/-
  The law FnMetOrder returns true.
  Conditions: those that each theorem states.
-/
import Derived.Test.YtikgflhepclfgaaQb5
set_option linter.unusedVariables false
set_option linter.unusedSimpArgs false
namespace Go.Proofs.Ytikgflhepclfgaa
open Go Go.RowKit
attribute [local irreducible] wpList wpAnyH Code.wp dOp

set_option maxHeartbeats 400000 in
set_option maxRecDepth 20000 in
theorem laws_FnMetOrder_c (Pr : Nat → Prop) (A : Option Addr) (xs : List Int) (c : Nat) (w : World) (hA : R1 Pr w A (u8s xs)) (hn : xs.length ≤ 9223372036854775807) (hcap : xs.length ≤ c) (hrg : ∀ y ∈ xs, 0 ≤ y ∧ y ≤ 255) :
    Calls Try.prog 8 #[.slice A xs.length c] w (Ret fun v w' => v = .bool true ∧ Grow w w') := by
 refine enter Try.func8 rfl Try.ntmps8 (L := [_,_,_,_,_,_,_,_,_,_,_,_,_,_,_,_,_,_,_,_,_,_,_,_,_,_,_,_,_,_,_,_,_,_,_,_,_,_,_,_,_,_,_,_,_,_,_,_,_,_,_,_,_,_,_,_,_,_,_,_,_,_,_,_,_,_,_,_,_,_,_,_,_,_,_,_,_,_,_,_,_,_,_,_,_,_,_,_]) rfl ?_
 have G := Mod.refl No w
 have hA0 := hA
 refine wp_seq_k fun K1 hK1 => ?_
 refine Sb 88 rfl ?_  -- 0
 refine S_val (Y_assign rfl) ?_
 refine S_nl rfl rfl ?_
 refine th_n (hK1 _ _ ?_)
 clear hK1 K1
 refine wp_seq_k fun K2 hK2 => ?_
 refine wp_seq_k fun K3 hK3 => ?_
 refine Sb 88 rfl ?_  -- 1
 refine S_val (Y_move rfl) ?_
 refine S_val (Y_len Try.underlying22 rfl) ?_
 refine S_val (Y_gtr rfl rfl) ?_
 refine S_nl rfl rfl ?_
 refine th_n (hK3 _ _ ?_)
 clear hK3 K3
 refine S_if rfl (fun hb1 => ?_) (fun hb1 => ?_)  -- c1
 · -- c1T
  replace hb1 := nb_tt hb1
  refine wp_seq_k fun K4 hK4 => ?_
  refine Sb 88 rfl ?_  -- 2
  refine S_val (Y_assign rfl) ?_
  refine S_nl rfl rfl ?_
  refine th_n (hK4 _ _ ?_)
  clear hK4 K4
  refine wp_ret ?_
  refine th_r ?_
  clear hK2 K2
  refine ret_r1 rfl rfl ?_  -- r1
  first | exact ⟨rfl, G⟩ | exact ⟨vT rfl, G⟩
 · -- c1F
  replace hb1 := nb_tf hb1
  have hx : xs.length ≤ 1048576 := by omega
  refine wp_skip ?_
  refine th_n (hK2 _ _ ?_)
  clear hK2 K2
  refine wp_seq_k fun K5 hK5 => ?_
  refine Sb 88 rfl ?_  -- 3
  refine S_val (Y_move rfl) ?_
  refine S_call rfl en35 (spec_DrawMetOrder_c _ _ _ _ _ (by assumption) (by omega) (by omega) (by assumption)) ?_  -- k1 spec.DrawMetOrder
  rintro v1 w1 ⟨hD1, A1, B1, n11, c11, n21, c21, rfl, hn11, hn21, hz1, RC1, RR1, g1⟩
  replace hA := hA.grow g1
  replace G := G.grow g1
  have zg1 := g1.size
  subst hn11
  subst hn21
  obtain ⟨h, rfl⟩ : ∃ x, x = hD1 := ⟨_, rfl⟩
  obtain ⟨AD, rfl⟩ : ∃ x, x = A1 := ⟨_, rfl⟩
  obtain ⟨BD, rfl⟩ : ∃ x, x = B1 := ⟨_, rfl⟩
  obtain ⟨cD, rfl⟩ : ∃ x, x = c11 := ⟨_, rfl⟩
  obtain ⟨dD, rfl⟩ : ∃ x, x = c21 := ⟨_, rfl⟩
  have hzD := hz1
  have hzcD := hsize_cells h
  have hzrD := hsize_roots h
  have hDA := RC1.below
  have hDB := RR1.below
  have hml := metV_len h
  refine S_alloc (cs := [_, _]) zr35 rfl ?_
  intro b2 w2 fb2 g2 B2
  have lb2 := B2.lt
  replace hA := hA.grow g2
  replace hDA := hDA.grow g2
  replace hDB := hDB.grow g2
  replace G := G.grow g2
  have zg2 := g2.size
  refine S_stM (pre := []) (old := [_, _]) (post := []) (vs := [_, _]) sz35 rfl rfl rfl (by first | rfl | assumption) B2 rfl rfl ?_
  intro w3 m3 X3
  replace B2 := Blk.eq (ys := [_, _]) X3 rfl
  clear X3
  replace G := G.abv m3
  replace hA := hA0.grow G
  replace hDA := hDA.md m3
  replace hDB := hDB.md m3
  have zm3 := m3.size
  refine S_nl rfl rfl ?_
  refine th_n (hK5 _ _ ?_)
  clear hK5 K5
  refine wp_seq_k fun K6 hK6 => ?_
  refine Sb 88 rfl ?_  -- 4
  refine S_val (Y_loadS Try.underlying35 rfl sz35 rfl (B2.row (by rfl))) ?_  -- l1
  refine S_call rfl en28 (impl_MetOrder_c _ _ _ _ _ _ _ (by assumption) (by assumption) (by omega)) ?_  -- k2 impl.MetOrder
  rintro v4 w4 ⟨A4, q4, cap4, rfl, hq4, O4, g4⟩
  replace hA := hA.grow g4
  replace hDA := hDA.grow g4
  replace hDB := hDB.grow g4
  replace G := G.grow g4
  replace B2 := B2.grow g4
  have zg4 := g4.size
  subst hq4
  have hRx := O4.lt.r1
  refine S_val (Y_assign rfl) ?_
  refine S_nl rfl rfl ?_
  refine th_n (hK6 _ _ ?_)
  clear hK6 K6
  refine wp_seq_k fun K7 hK7 => ?_
  refine wp_seq_k fun K8 hK8 => ?_
  refine Sb 88 rfl ?_  -- 5
  refine S_val (Y_move rfl) ?_
  refine S_val (Y_loadS Try.underlying35 rfl sz35 rfl (B2.row (by rfl))) ?_  -- l2
  refine S_call rfl en37 (spec_MetOrder_c _ _ _ _ _ _ _ (by assumption) (by assumption) (by omega)) ?_  -- k3 spec.MetOrder
  rintro v5 w5 ⟨A5, q5, cap5, rfl, hq5, O5, g5⟩
  replace hA := hA.grow g5
  replace hDA := hDA.grow g5
  replace hDB := hDB.grow g5
  replace hRx := hRx.grow g5
  replace G := G.grow g5
  replace B2 := B2.grow g5
  have zg5 := g5.size
  subst hq5
  have hRs := O5.lt.r1
  refine S_call rfl en36 (laws_sameInts_c _ _ _ _ _ _ _ _ _ (by assumption) (by assumption) (by omega)) ?_  -- k4 laws.sameInts
  rintro v6 w6 ⟨rfl, g6⟩
  replace hA := hA.grow g6
  replace hDA := hDA.grow g6
  replace hDB := hDB.grow g6
  replace hRx := hRx.grow g6
  replace hRs := hRs.grow g6
  replace G := G.grow g6
  replace B2 := B2.grow g6
  have zg6 := g6.size
  refine S_val (Y_not rfl) ?_
  refine S_nl rfl rfl ?_
  refine th_n (hK8 _ _ ?_)
  clear hK8 K8
  refine S_if rfl (fun hb2 => ?_) (fun hb2 => ?_)  -- c2
  · -- c2T
   first | with_reducible (replace hb2 := nb_nt hb2) | with_reducible (replace hb2 := nb_tt hb2) | with_reducible (replace hb2 := nb_bt hb2) | skip
   exact absurd rfl hb2
  · -- c2F
   first | with_reducible (replace hb2 := nb_nf hb2) | with_reducible (replace hb2 := nb_tf hb2) | with_reducible (replace hb2 := nb_bf hb2) | skip
   refine wp_skip ?_
   refine th_n (hK7 _ _ ?_)
   clear hK7 K7
   refine wp_seq_k fun K9 hK9 => ?_
   refine wp_seq_k fun K10 hK10 => ?_
   refine Sb 88 rfl ?_  -- 7
   refine S_val (Y_loadS Try.underlying35 rfl sz35 rfl (B2.row (by rfl))) ?_  -- l3
   refine S_call rfl en34 (spec_HeapValid_c _ _ _ _ _ _ _ (by assumption) (by assumption) (by omega)) ?_  -- k5 spec.HeapValid
   rintro v7 w7 ⟨rfl, g7⟩
   replace hA := hA.grow g7
   replace hDA := hDA.grow g7
   replace hDB := hDB.grow g7
   replace hRx := hRx.grow g7
   replace hRs := hRs.grow g7
   replace G := G.grow g7
   replace B2 := B2.grow g7
   have zg7 := g7.size
   refine S_val (Y_not rfl) ?_
   refine S_nl rfl rfl ?_
   refine th_n (hK10 _ _ ?_)
   clear hK10 K10
   refine S_if rfl (fun hb3 => ?_) (fun hb3 => ?_)  -- c3
   · -- c3T
    first | with_reducible (replace hb3 := nb_nt hb3) | with_reducible (replace hb3 := nb_tt hb3) | with_reducible (replace hb3 := nb_bt hb3) | skip
    have hrf := metV_f hb3
    have hr0 : (metV h).length = 0 := by rw [hrf]; rfl
    refine wp_seq_k fun K11 hK11 => ?_
    refine Sb 88 rfl ?_  -- 8
    refine S_val (Y_move rfl) ?_
    refine S_val (Y_len Try.underlying33 rfl) ?_
    refine S_val (Y_eql rfl rfl) ?_
    refine S_val (Y_move rfl) ?_
    refine S_g 25 rfl (fun hb4 => ?_) (fun hb4 => ?_)  -- g1
    · -- g1T
     replace hb4 := nb_tt hb4
     refine S_on rfl rfl ?_
     refine S_call rfl en18 (laws_alive_c _) ?_  -- k6 laws.alive
     rintro v8 w8 ⟨rfl, g8⟩
     replace hA := hA.grow g8
     replace hDA := hDA.grow g8
     replace hDB := hDB.grow g8
     replace hRx := hRx.grow g8
     replace hRs := hRs.grow g8
     replace G := G.grow g8
     replace B2 := B2.grow g8
     have zg8 := g8.size
     refine S_val (Y_pickT rfl rfl) ?_
     refine S_val (Y_assign rfl) ?_
     refine S_nl rfl rfl ?_
     refine th_n (hK11 _ _ ?_)
     clear hK11 K11
     refine wp_ret ?_
     refine th_r ?_
     clear hK9 K9
     refine ret_r1 rfl rfl ?_  -- r2
     first | exact ⟨rfl, G⟩ | exact ⟨vT rfl, G⟩
    · -- g1F
     replace hb4 := nb_tf hb4
     omega
   · -- c3F
    first | with_reducible (replace hb3 := nb_nf hb3) | with_reducible (replace hb3 := nb_tf hb3) | with_reducible (replace hb3 := nb_bf hb3) | skip
    have va := valid_iff.1 hb3
    have hv9 := hb3
    have h40 := va.le
    have hr4 := va.roots4
    have hbm := met_bndV hb3
    have hrl := reachV_len hb3
    have hmr := met_reach hb3
    refine wp_skip ?_
    refine th_n (hK9 _ _ ?_)
    clear hK9 K9
    refine wp_seq_k fun K12 hK12 => ?_
    refine Sb 88 rfl ?_  -- 9
    refine S_val (Y_field Try.underlying35 rfl fz35_0 (by decide) rfl) ?_
    refine S_val (Y_load Try.underlying32 rfl rfl (B2.at (by rfl))) ?_  -- l4
    refine S_val (Y_len Try.underlying32 rfl) ?_
    refine S_make (n := h.cells.length) (l := h.cells.length) (z := [.bool false]) Try.underlying43 zr4 sz4 by4 rfl rfl (by omega) (by omega) (by omega) ?_
    intro b9 w9 fb9 g9 B9
    have lb9 := B9.lt
    replace hA := hA.grow g9
    replace hDA := hDA.grow g9
    replace hDB := hDB.grow g9
    replace hRx := hRx.grow g9
    replace hRs := hRs.grow g9
    replace G := G.grow g9
    replace B2 := B2.grow g9
    have zg9 := g9.size
    obtain ⟨bM, rfl⟩ : ∃ x, x = b9 := ⟨_, rfl⟩
    have BM := Blk.eq B9 (mB_zero _)
    refine S_val (Y_assign rfl) ?_
    refine S_nl rfl rfl ?_
    refine th_n (hK12 _ _ ?_)
    clear hK12 K12
    refine wp_seq_k fun K13 hK13 => ?_
    refine wp_seq_k fun K14 hK14 => ?_
    refine Sb 88 rfl ?_  -- 10
    refine S_val (Y_assign rfl) ?_
    refine S_nl rfl rfl ?_
    refine th_n (hK14 _ _ ?_)
    clear hK14 K14
    refine wp_block ?_
    go_loopw [6] (fun u6 wr => (∃ k : Nat, u6 = .int .i64 k ∧ k ≤ (metV h).length ∧ Blk wr bM 4 (bools (mB h.cells.length ((metV h).take k))).toArray) ∧ Mod (fun i => i = bM) w9 wr) (fun u6 wr => (metV h).length - (intOf u6).toNat)  -- L1
    case atStart =>
     refine ⟨?_, Mod.refl _ _⟩
     exact ⟨0, rfl, by omega, BM⟩
    case round =>
     obtain ⟨w10, rfl⟩ : ∃ x : World, x = wr := ⟨_, rfl⟩
     obtain ⟨hrel, g10⟩ := hrel
     clear BM
     replace G := G.abv g10
     replace hA := hA0.grow G
     replace hDA := hDA.md g10
     replace hDB := hDB.md g10
     replace hRx := hRx.md g10
     replace hRs := hRs.md g10
     replace B2 := B2.md g10
     have zg10 := g10.size
     obtain ⟨k, rfl, hk, BM⟩ := hrel
     have GL10 := g10
     refine wp_seq_k fun K15 hK15 => ?_
     refine wp_seq_k fun K16 hK16 => ?_
     refine Sb 88 rfl ?_  -- 11
     refine S_val (Y_move rfl) ?_
     refine S_val (Y_move rfl) ?_
     refine S_val (Y_len Try.underlying33 rfl) ?_
     refine S_val (Y_lss rfl rfl) ?_
     refine S_nl rfl rfl ?_
     refine th_n (hK16 _ _ ?_)
     clear hK16 K16
     refine S_if rfl (fun hb4 => ?_) (fun hb4 => ?_)  -- c4
     · -- c4T
      replace hb4 := nb_tt hb4
      have hk1 : k < (metV h).length := by omega
      obtain ⟨n, hn, hnN, hng⟩ := bnd_at hbm hk1
      obtain ⟨g4, o4, e4, hp4, hc4⟩ := hRx.int (k := k) hk1
      cases e4
      rw [hn] at hc4
      have hcm : w10.cell? ⟨bM, 0 + n * 1, none⟩ = some (.bool (decide ((n : Int) ∈ (metV h).take k))) := by simpa using BM.at (mB_at hnN)
      refine wp_skip ?_
      refine th_n (hK15 _ _ ?_)
      clear hK15 K15
      refine wp_seq_k fun K17 hK17 => ?_
      refine wp_block ?_
      refine wp_seq_k fun K18 hK18 => ?_
      refine wp_seq_k fun K19 hK19 => ?_
      refine Sb 88 rfl ?_  -- 13
      refine S_val (Y_move rfl) ?_
      refine S_val (Y_move rfl) ?_
      refine S_val (Y_index Try.underlying33 sz3 rfl rfl (by first | assumption | omega)) ?_
      refine S_val (Y_load Try.underlying3 rfl rfl (by first | assumption | exact B2.at (by rfl) | exact BM.at (by rfl))) ?_  -- l5
      refine S_val (Y_lss rfl rfl) ?_
      refine S_val (Y_move rfl) ?_
      refine S_g 43 rfl (fun hb5 => ?_) (fun hb5 => ?_)  -- g2
      · -- g2T
       replace hb5 := nb_tt hb5
       omega
      · -- g2F
       replace hb5 := nb_tf hb5
       refine S_on rfl rfl ?_
       refine S_val (Y_move rfl) ?_
       refine S_on rfl rfl ?_
       refine S_val (Y_move rfl) ?_
       refine S_on rfl rfl ?_
       refine S_val (Y_index Try.underlying33 sz3 rfl rfl (by first | assumption | omega)) ?_
       refine S_on rfl rfl ?_
       refine S_val (Y_load Try.underlying3 rfl rfl (by first | assumption | exact B2.at (by rfl) | exact BM.at (by rfl))) ?_  -- l6
       refine S_on rfl rfl ?_
       refine S_val (Y_move rfl) ?_
       refine S_on rfl rfl ?_
       refine S_val (Y_len Try.underlying43 rfl) ?_
       refine S_on rfl rfl ?_
       refine S_val (Y_geq rfl rfl) ?_
       refine S_val (Y_pickF rfl rfl) ?_
       refine S_val (Y_move rfl) ?_
       refine S_g 52 rfl (fun hb6 => ?_) (fun hb6 => ?_)  -- g3
       · -- g3T
        first | with_reducible (replace hb6 := nb_nt hb6) | with_reducible (replace hb6 := nb_tt hb6) | with_reducible (replace hb6 := nb_bt hb6) | skip
        omega
       · -- g3F
        first | with_reducible (replace hb6 := nb_nf hb6) | with_reducible (replace hb6 := nb_tf hb6) | with_reducible (replace hb6 := nb_bf hb6) | skip
        refine S_on rfl rfl ?_
        refine S_val (Y_move rfl) ?_
        refine S_on rfl rfl ?_
        refine S_val (Y_move rfl) ?_
        refine S_on rfl rfl ?_
        refine S_val (Y_move rfl) ?_
        refine S_on rfl rfl ?_
        refine S_val (Y_index Try.underlying33 sz3 rfl rfl (by first | assumption | omega)) ?_
        refine S_on rfl rfl ?_
        refine S_val (Y_load Try.underlying3 rfl rfl (by first | assumption | exact B2.at (by rfl) | exact BM.at (by rfl))) ?_  -- l7
        refine S_on rfl rfl ?_
        refine S_val (Y_index Try.underlying43 sz4 rfl rfl (by first | assumption | omega)) ?_
        refine S_on rfl rfl ?_
        refine S_val (Y_load Try.underlying4 rfl rfl (by first | assumption | exact B2.at (by rfl) | exact BM.at (by rfl))) ?_  -- l8
        refine S_val (Y_pickF rfl rfl) ?_
        refine S_nl rfl rfl ?_
        refine th_n (hK19 _ _ ?_)
        clear hK19 K19
        refine S_if rfl (fun hb7 => ?_) (fun hb7 => ?_)  -- c5
        · -- c5T
         first | with_reducible (replace hb7 := nb_nt hb7) | with_reducible (replace hb7 := nb_tt hb7) | with_reducible (replace hb7 := nb_bt hb7) | skip
         exact absurd hb7 (take_notMem hbm hk1 hn)
        · -- c5F
         first | with_reducible (replace hb7 := nb_nf hb7) | with_reducible (replace hb7 := nb_tf hb7) | with_reducible (replace hb7 := nb_bf hb7) | skip
         refine wp_skip ?_
         refine th_n (hK18 _ _ ?_)
         clear hK18 K18
         refine Sb 88 rfl ?_  -- 15
         refine S_val (Y_move rfl) ?_
         refine S_val (Y_move rfl) ?_
         refine S_val (Y_move rfl) ?_
         refine S_val (Y_index Try.underlying33 sz3 rfl rfl (by first | assumption | omega)) ?_
         refine S_val (Y_load Try.underlying3 rfl rfl (by first | assumption | exact B2.at (by rfl) | exact BM.at (by rfl))) ?_  -- l9
         refine S_val (Y_index Try.underlying43 sz4 rfl rfl (by first | assumption | omega)) ?_
         refine S_stM (pre := (bools (mB h.cells.length ((metV h).take k))).take n) (old := [.bool (decide ((n : Int) ∈ ((metV h).take k)))]) (post := (bools (mB h.cells.length ((metV h).take k))).drop (n + 1)) (vs := [_]) sz4 rfl rfl rfl rfl (by rw [← mB_split (N := h.cells.length) (n := n) (s := ((metV h).take k)) hnN]; exact BM) (by rw [List.length_take, bools_len, mB_len]; omega) rfl ?_
         intro w11 m11 X11
         replace BM := Blk.eq X11 (mB_set hnN)
         clear X11
         replace G := G.abv m11
         replace GL10 := GL10.trn m11
         replace hA := hA0.grow G
         replace hDA := hDA.md m11
         replace hDB := hDB.md m11
         replace hRx := hRx.md m11
         replace hRs := hRs.md m11
         replace B2 := B2.md m11
         have zm11 := m11.size
         refine S_nl rfl rfl ?_
         refine ib_n ?_
         refine th_n (hK17 _ _ ?_)
         clear hK17 K17
         refine Sb 88 rfl ?_  -- 12
         refine S_val (Y_move rfl) ?_
         refine S_val (Y_inc rfl rfl (by omega)) ?_
         refine S_val (Y_assign rfl) ?_
         refine S_nl rfl rfl ?_
         refine th_n ?_
         go_roundw  -- e1 of L1
         case rel =>
          refine ⟨?_, GL10⟩
          exact ⟨k + 1, rfl, by omega, by rw [List.take_succ_eq_append_getElem hk1, hn]; exact BM⟩
         case measure =>
          exact dec_nat (by omega)
     · -- c4F
      replace hb4 := nb_tf hb4
      rw [List.take_of_length_le (by omega)] at BM
      have hRm := R1.of_blkE BM
      refine wp_exit ?_
      refine th_x ?_
      try clear GL10
      refine th_x ?_
      refine ib_e ?_
      refine th_n (hK13 _ _ ?_)
      clear hK15 K15 hK13 K13
      refine wp_seq_k fun K20 hK20 => ?_
      refine D_start 22 88 (fun w => Mod (No) w) follows rfl rfl ?_  -- d1 r16
      intro w12 g12
      replace hA := hA.grow g12
      replace hDA := hDA.grow g12
      replace hDB := hDB.grow g12
      replace hRx := hRx.grow g12
      replace hRs := hRs.grow g12
      replace hRm := hRm.grow g12
      replace G := G.grow g12
      replace B2 := B2.grow g12
      have zg12 := g12.size
      have GS12 := Mod.refl (No) w12
      obtain ⟨g6, o6, e6, hp6, hc6⟩ := hDB.int (k := 0) (by omega)
      cases e6
      have hRxb := hRx
      have B2d12 := B2
      refine Dq (i := 0) rfl GS12 (fun _ _ => Y_move rfl) ?_
      refine Dq (i := 1) rfl GS12 (fun _ hs => Y_loadS Try.underlying35 rfl sz35 rfl (by first | exact hs.cells0 (B2.row (by rfl)))) ?_
      refine D_1 (i := 2) (by kernel_rfl) ?_
      refine E_call rfl rfl en31 (impl_Reachable_c _ _ _ _ _ _ _ (by assumption) (by assumption) (by omega)) ?_  -- k7 impl.Reachable
      rintro v13 w13 ⟨A13, q13, cap13, rfl, hq13, O13, g13⟩
      replace hA := hA.grow g13
      replace hDA := hDA.grow g13
      replace hDB := hDB.grow g13
      replace hRx := hRx.grow g13
      replace hRs := hRs.grow g13
      replace hRm := hRm.grow g13
      replace G := G.grow g13
      replace GS12 := GS12.grow g13
      replace B2 := B2.grow g13
      have zg13 := g13.size
      subst hq13
      have hRr := O13.lt.r1
      refine ⟨GS12, ?_⟩
      refine D_1 (i := 3) (by kernel_rfl) ?_
      refine E_call rfl rfl en32 (sameFlags_p _ _ _ _ (mB h.cells.length (metV h)) (reachV h) _ _ _ _ _ hRm hRr (by rw [mB_len]; omega) (mB_len _ _).symm rfl) ?_  -- k8 laws.sameFlags
      rintro v14 w14 ⟨rfl, g14⟩
      replace hA := hA.grow g14
      replace hDA := hDA.grow g14
      replace hDB := hDB.grow g14
      replace hRx := hRx.grow g14
      replace hRs := hRs.grow g14
      replace hRm := hRm.grow g14
      replace hRr := hRr.grow g14
      replace G := G.grow g14
      replace GS12 := GS12.grow g14
      replace B2 := B2.grow g14
      have zg14 := g14.size
      refine ⟨GS12, ?_⟩
      refine Dq (i := 4) rfl GS12 (fun _ _ => Y_move rfl) ?_
      refine D_g 71 rfl (fun hb5 => ?_) (fun hb5 => ?_)  -- g4
      · -- g4T
       first | with_reducible (replace hb5 := nb_nt hb5) | with_reducible (replace hb5 := nb_tt hb5) | with_reducible (replace hb5 := nb_bt hb5) | skip
       refine Dqon (i := 5) rfl rfl rfl GS12 (fun _ _ => Y_field Try.underlying35 rfl fz35_1 (by decide) rfl) ?_
       refine Dqon (i := 6) rfl rfl rfl GS12 (fun _ hs => Y_load Try.underlying33 rfl rfl (by first | exact hs.cell0 (B2.at (by rfl)) | exact hs.cell0 (B2d12.at (by rfl)))) ?_
       refine Dqon (i := 7) rfl rfl rfl GS12 (fun _ _ => Y_index (i := 0) Try.underlying33 sz3 rfl rfl (by first | assumption | omega)) ?_
       refine Dqon (i := 8) rfl rfl rfl GS12 (fun _ hs => Y_load Try.underlying3 rfl rfl (by first | exact hs.cell0 (by assumption) | exact hs.cell0 (B2.at (by rfl)) | exact hs.cell0 (B2d12.at (by rfl)))) ?_
       refine Dqon (i := 9) rfl rfl rfl GS12 (fun _ _ => Y_lss rfl rfl) ?_
       refine Dqon (i := 10) rfl rfl rfl GS12 (fun _ _ => Y_move rfl) ?_
       refine D_g 77 rfl (fun hb6 => ?_) (fun hb6 => ?_)  -- g5
       · -- g5T
        replace hb6 := nb_tt hb6
        refine Dqoff (i := 11) rfl rfl rfl GS12 ?_
        refine Dqoff (i := 12) rfl rfl rfl GS12 ?_
        refine Dqoff (i := 13) rfl rfl rfl GS12 ?_
        refine Dqoff (i := 14) rfl rfl rfl GS12 ?_
        refine Dqoff (i := 15) rfl rfl rfl GS12 ?_
        refine Dqoff (i := 16) rfl rfl rfl GS12 ?_
        refine Dqoff (i := 17) rfl rfl rfl GS12 ?_
        refine Dqoff (i := 18) rfl rfl rfl GS12 ?_
        refine Dqon (i := 19) rfl rfl rfl GS12 (fun _ _ => Y_pickT rfl rfl) ?_
        refine Dq (i := 20) rfl GS12 (fun _ _ => Y_pickT rfl rfl) ?_
        refine Dq (i := 21) rfl GS12 (fun _ _ => Y_assign rfl) ?_
        refine D_en (by kernel_rfl) rfl rfl ?_
        refine th_n (hK20 _ _ ?_)
        clear hK20 K20
        refine wp_ret ?_
        refine ret_r1 rfl rfl ?_  -- r3
        first | exact ⟨rfl, G⟩ | exact ⟨vT rfl, G⟩
       · -- g5F
        replace hb6 := nb_tf hb6
        obtain ⟨hl0, he0⟩ := met_first hv9 (by omega) (by omega)
        obtain ⟨g7, o7, e7, hp7, hc7⟩ := hRxb.int (k := 0) hl0
        cases e7
        rw [he0] at hc7
        refine Dqon (i := 11) rfl rfl rfl GS12 (fun _ _ => Y_move rfl) ?_
        refine Dqon (i := 12) rfl rfl rfl GS12 (fun _ _ => Y_index (i := 0) Try.underlying33 sz3 rfl rfl (by first | assumption | omega)) ?_
        refine Dqon (i := 13) rfl rfl rfl GS12 (fun _ hs => Y_load Try.underlying3 rfl rfl (by first | exact hs.cell0 (by assumption) | exact hs.cell0 (B2.at (by rfl)) | exact hs.cell0 (B2d12.at (by rfl)))) ?_
        refine Dqon (i := 14) rfl rfl rfl GS12 (fun _ _ => Y_field Try.underlying35 rfl fz35_1 (by decide) rfl) ?_
        refine Dqon (i := 15) rfl rfl rfl GS12 (fun _ hs => Y_load Try.underlying33 rfl rfl (by first | exact hs.cell0 (B2.at (by rfl)) | exact hs.cell0 (B2d12.at (by rfl)))) ?_
        refine Dqon (i := 16) rfl rfl rfl GS12 (fun _ _ => Y_index (i := 0) Try.underlying33 sz3 rfl rfl (by first | assumption | omega)) ?_
        refine Dqon (i := 17) rfl rfl rfl GS12 (fun _ hs => Y_load Try.underlying3 rfl rfl (by first | exact hs.cell0 (by assumption) | exact hs.cell0 (B2.at (by rfl)) | exact hs.cell0 (B2d12.at (by rfl)))) ?_
        refine Dqon (i := 18) rfl rfl rfl GS12 (fun _ _ => Y_eql rfl rfl) ?_
        refine Dqon (i := 19) rfl rfl rfl GS12 (fun _ _ => Y_pickF rfl rfl) ?_
        refine Dq (i := 20) rfl GS12 (fun _ _ => Y_pickT rfl rfl) ?_
        refine Dq (i := 21) rfl GS12 (fun _ _ => Y_assign rfl) ?_
        refine D_en (by kernel_rfl) rfl rfl ?_
        refine th_n (hK20 _ _ ?_)
        clear hK20 K20
        refine wp_ret ?_
        refine ret_r1 rfl rfl ?_  -- r4
        first | exact ⟨rfl, G⟩ | exact ⟨vT rfl, G⟩
      · -- g4F
       first | with_reducible (replace hb5 := nb_nf hb5) | with_reducible (replace hb5 := nb_tf hb5) | with_reducible (replace hb5 := nb_bf hb5) | skip
       exact absurd hmr hb5

end Go.Proofs.Ytikgflhepclfgaa
