/-
  Walks: references from outside of a set of cells.
  Conditions: those that each theorem states.
-/
import Derived.Test.YtjmfdmndchoplaaTy
import Derived.Test.YtjmfdmndchoplaaWalkU
import Derived.Test.YtjmfdmndchoplaaTrial
namespace Go.Proofs.Ytjmfdmndchoplaa
open Go Go.RowKit
attribute [local irreducible] wpList wpAnyH Code.wp dOp

set_option maxHeartbeats 4000000 in
set_option maxRecDepth 20000 in
theorem spec_TrialCounts_c (Pr P2 : Nat → Prop) (A B C : Option Addr) (h : LH) (bs : List Bool) (c d e : Nat) (w : World) (hA : RC Pr w A h.cells) (hB : R1 Pr w B (ints h.roots)) (hC : R1 P2 w C (bools bs)) (hz : hsize h ≤ 1048576) (_hbz : bs.length ≤ 1048576) :
    Calls Try.prog 73 #[.agg #[.slice A h.cells.length c, .slice B h.roots.length d], .slice C bs.length e] w (Ret fun v w' => ∃ A1 q cap, v = .slice A1 q cap ∧ q = (triV h bs).length ∧ OI (fun i => w.heap.size ≤ i) w' 3 A1 (ints (triV h bs)) ∧ Grow w w') := by
 have hz1 := hsize_cells h
 have hz2 := hsize_roots h
 have hz3 : ∀ k (hk : k < h.cells.length), h.cells[k].refs.length ≤ hsize h := fun k hk => hsize_refs h hk
 have hz4 : h.roots.length + rsum h.cells h.cells.length ≤ hsize h := by unfold hsize; omega
 refine enter Try.func73 rfl Try.ntmps73 (L := [_,_,_,_,_,_,_,_,_,_,_,_,_,_,_,_,_,_,_,_,_,_,_,_,_,_,_,_,_,_,_,_,_,_,_,_,_,_,_,_,_,_,_,_,_,_,_,_,_,_,_,_,_,_,_,_,_,_,_,_,_,_,_,_,_,_,_,_,_,_,_,_,_,_,_,_,_,_,_,_,_,_,_,_,_,_,_,_,_,_,_,_,_,_,_,_,_,_,_,_,_,_,_,_,_,_,_]) rfl ?_
 have G := Mod.refl No w
 have hA0 := hA
 have hB0 := hB
 have hC0 := hC
 refine wp_seq_k fun K1 hK1 => ?_
 refine Sb 107 rfl ?_  -- 0
 refine S_box (cs := [_, _]) rfl rfl ?_
 intro b1 w1 fb1 g1 B1
 have lb1 := B1.lt
 replace hA := hA.grow g1
 replace hB := hB.grow g1
 replace hC := hC.grow g1
 replace G := G.grow g1
 have zg1 := g1.size
 refine S_val (Y_assign rfl) ?_
 refine S_nl rfl rfl ?_
 refine th_n (hK1 _ _ ?_)
 clear hK1 K1
 refine wp_seq_k fun K2 hK2 => ?_
 refine Sb 107 rfl ?_  -- 1
 refine S_bs0 Try.underlying22 sz3 ?_
 intro b2 w2 fb2 g2 B2
 have lb2 := B2.lt
 replace hA := hA.grow g2
 replace hB := hB.grow g2
 replace hC := hC.grow g2
 replace G := G.grow g2
 replace B1 := B1.grow g2
 have zg2 := g2.size
 refine S_val (Y_assign rfl) ?_
 refine S_nl rfl rfl ?_
 refine th_n (hK2 _ _ ?_)
 clear hK2 K2
 refine wp_seq_k fun K3 hK3 => ?_
 refine wp_seq_k fun K4 hK4 => ?_
 refine Sb 107 rfl ?_  -- 2
 refine S_val (Y_loadS Try.underlying25 rfl sz25 rfl (B1.row (by rfl))) ?_  -- l1
 refine S_call rfl en56 (spec_HeapValid_c _ _ _ _ _ _ _ (by assumption) (by assumption) (by omega)) ?_  -- k1 spec.HeapValid
 rintro v3 w3 ⟨rfl, g3⟩
 replace hA := hA.grow g3
 replace hB := hB.grow g3
 replace hC := hC.grow g3
 replace G := G.grow g3
 replace B1 := B1.grow g3
 replace B2 := B2.grow g3
 have zg3 := g3.size
 refine S_val (Y_not rfl) ?_
 refine S_val (Y_move rfl) ?_
 refine S_g 15 rfl (fun hb1 => ?_) (fun hb1 => ?_)  -- g1
 · -- g1T
  first | with_reducible (replace hb1 := nb_nt hb1) | with_reducible (replace hb1 := nb_tt hb1) | with_reducible (replace hb1 := nb_bt hb1) | skip
  refine S_off rfl rfl ?_
  refine S_off rfl rfl ?_
  refine S_off rfl rfl ?_
  refine S_off rfl rfl ?_
  refine S_off rfl rfl ?_
  refine S_off rfl rfl ?_
  refine S_val (Y_pickT rfl rfl) ?_
  refine S_nl rfl rfl ?_
  refine th_n (hK4 _ _ ?_)
  clear hK4 K4
  refine S_ifT rfl ?_
  refine wp_seq_k fun K5 hK5 => ?_
  refine Sb 107 rfl ?_  -- 3
  refine S_val (Y_move rfl) ?_
  refine S_val (Y_assign rfl) ?_
  refine S_nl rfl rfl ?_
  refine th_n (hK5 _ _ ?_)
  clear hK5 K5
  refine wp_ret ?_
  refine th_r ?_
  clear hK3 K3
  refine ret_r1 rfl rfl ?_  -- r1
  exact ⟨_, _, _, rfl, by rw [triV_f (triOk_f1 hb1)]; rfl, by rw [triV_f (triOk_f1 hb1)]; exact OI.nil _ _ _ _, G⟩
 · -- g1F
  first | with_reducible (replace hb1 := nb_nf hb1) | with_reducible (replace hb1 := nb_tf hb1) | with_reducible (replace hb1 := nb_bf hb1) | skip
  have va := valid_iff.1 hb1
  have hl := va.leads
  have h40 := va.le
  have hr4 := va.roots4
  refine S_on rfl rfl ?_
  refine S_val (Y_move rfl) ?_
  refine S_on rfl rfl ?_
  refine S_val (Y_len Try.underlying38 rfl) ?_
  refine S_on rfl rfl ?_
  refine S_val (Y_field Try.underlying25 rfl fz25_0 (by decide) rfl) ?_
  refine S_on rfl rfl ?_
  refine S_val (Y_load Try.underlying23 rfl rfl (B1.at (by rfl))) ?_  -- l2
  refine S_on rfl rfl ?_
  refine S_val (Y_len Try.underlying23 rfl) ?_
  refine S_on rfl rfl ?_
  refine S_val (Y_neq rfl rfl) ?_
  refine S_val (Y_pickF rfl rfl) ?_
  refine S_nl rfl rfl ?_
  refine th_n (hK4 _ _ ?_)
  clear hK4 K4
  refine S_if rfl (fun hb2 => ?_) (fun hb2 => ?_)  -- c1
  · -- c1T
   first | with_reducible (replace hb2 := nb_nt hb2) | with_reducible (replace hb2 := nb_tt hb2) | with_reducible (replace hb2 := nb_bt hb2) | skip
   refine wp_seq_k fun K6 hK6 => ?_
   refine Sb 107 rfl ?_  -- 3
   refine S_val (Y_move rfl) ?_
   refine S_val (Y_assign rfl) ?_
   refine S_nl rfl rfl ?_
   refine th_n (hK6 _ _ ?_)
   clear hK6 K6
   refine wp_ret ?_
   refine th_r ?_
   clear hK3 K3
   refine ret_r1 rfl rfl ?_  -- r2
   exact ⟨_, _, _, rfl, by rw [triV_f (triOk_f2 (by omega))]; rfl, by rw [triV_f (triOk_f2 (by omega))]; exact OI.nil _ _ _ _, G⟩
  · -- c1F
   first | with_reducible (replace hb2 := nb_nf hb2) | with_reducible (replace hb2 := nb_tf hb2) | with_reducible (replace hb2 := nb_bf hb2) | skip
   have hlen : bs.length = h.cells.length := by omega
   refine wp_skip ?_
   refine th_n (hK3 _ _ ?_)
   clear hK3 K3
   refine wp_seq_k fun K7 hK7 => ?_
   refine wp_seq_k fun K8 hK8 => ?_
   refine Sb 107 rfl ?_  -- 4
   refine S_val (Y_assign rfl) ?_
   refine S_nl rfl rfl ?_
   refine th_n (hK8 _ _ ?_)
   clear hK8 K8
   refine wp_block ?_
   obtain ⟨wz, hwz⟩ : ∃ x, x = w3.heap.size := ⟨_, rfl⟩
   have O1 : OW (fun i => i = b2 ∨ wz ≤ i) w3 3 1 (some ⟨b2, 0, none⟩) 0 0 (ints []) := OW.of_blk B2 rfl (by decide) (.inl rfl)
   go_loopw [5, 6] (fun u5 u6 wr => (∃ (k q cap : Nat) (A1 : Option Addr), u6 = .int .i64 k ∧ u5 = .slice A1 q cap ∧ k ≤ bs.length ∧ q = (triL h bs k).length ∧ OW (fun i => i = b2 ∨ wz ≤ i) wr 3 1 A1 q cap (ints (triL h bs k)) ∧ insU h.cells bs k = true) ∧ Mod (fun i => i = b2 ∨ wz ≤ i) w3 wr) (fun u5 u6 wr => bs.length - (intOf u6).toNat)  -- L1
   case atStart =>
    refine ⟨?_, Mod.refl _ _⟩
    exact ⟨0, 0, 0, _, rfl, rfl, by omega, rfl, O1, rfl⟩
   case round =>
    obtain ⟨w4, rfl⟩ : ∃ x : World, x = wr := ⟨_, rfl⟩
    obtain ⟨hrel, g4⟩ := hrel
    clear O1
    replace G := G.abv g4
    replace hA := hA0.grow G
    replace hB := hB0.grow G
    replace hC := hC0.grow G
    replace B1 := B1.md g4
    have zg4 := g4.size
    obtain ⟨k, q1, cap1, A1, rfl, rfl, hk, hq1, O1, hiu⟩ := hrel
    have htl := triL_len h bs k
    have GL4 := g4
    refine wp_seq_k fun K9 hK9 => ?_
    refine wp_seq_k fun K10 hK10 => ?_
    refine Sb 107 rfl ?_  -- 5
    refine S_val (Y_move rfl) ?_
    refine S_val (Y_move rfl) ?_
    refine S_val (Y_len Try.underlying38 rfl) ?_
    refine S_val (Y_lss rfl rfl) ?_
    refine S_nl rfl rfl ?_
    refine th_n (hK10 _ _ ?_)
    clear hK10 K10
    refine S_if rfl (fun hb3 => ?_) (fun hb3 => ?_)  -- c2
    · -- c2T
     replace hb3 := nb_tt hb3
     have hk1 : k < bs.length := by omega
     have hkN : k < h.cells.length := by omega
     obtain ⟨g2, o2, E2, d2, rfl, hp2, cc20, _⟩ := hA0.cell hkN
     have cc2 := cc20.grow G
     obtain ⟨g3, o3, rfl, hp3, hc3⟩ := hC.bool hk1
     have hib := inB_at hk1
     have hue := usedAt_at hkN
     refine wp_skip ?_
     refine th_n (hK9 _ _ ?_)
     clear hK9 K9
     refine wp_seq_k fun K11 hK11 => ?_
     refine wp_block ?_
     refine wp_seq_k fun K12 hK12 => ?_
     refine wp_seq_k fun K13 hK13 => ?_
     refine Sb 107 rfl ?_  -- 7
     refine S_val (Y_move rfl) ?_
     refine S_val (Y_move rfl) ?_
     refine S_val (Y_index Try.underlying38 sz4 rfl rfl (by first | assumption | omega)) ?_
     refine S_val (Y_load Try.underlying4 rfl rfl (by first | assumption | exact cc2.at (by rfl) | exact B1.at (by rfl))) ?_  -- l3
     refine S_val (Y_move rfl) ?_
     refine S_g 34 rfl (fun hb4 => ?_) (fun hb4 => ?_)  -- g2
     · -- g2T
      first | with_reducible (replace hb4 := nb_nt hb4) | with_reducible (replace hb4 := nb_tt hb4) | with_reducible (replace hb4 := nb_bt hb4) | skip
      rw [hb4] at hib
      refine S_on rfl rfl ?_
      refine S_val (Y_field Try.underlying25 rfl fz25_0 (by decide) rfl) ?_
      refine S_on rfl rfl ?_
      refine S_val (Y_load Try.underlying23 rfl rfl (B1.at (by rfl))) ?_  -- l4
      refine S_on rfl rfl ?_
      refine S_val (Y_move rfl) ?_
      refine S_on rfl rfl ?_
      refine S_val (Y_index Try.underlying23 sz70 rfl rfl (by first | assumption | omega)) ?_
      refine S_on rfl rfl ?_
      refine S_val (Y_field Try.underlying70 rfl fz70_0 (by decide) rfl) ?_
      refine S_on rfl rfl ?_
      refine S_val (Y_load Try.underlying4 rfl rfl (by first | assumption | exact cc2.at (by rfl) | exact B1.at (by rfl))) ?_  -- l5
      refine S_on rfl rfl ?_
      refine S_val (Y_not rfl) ?_
      refine S_val (Y_pickT rfl rfl) ?_
      refine S_nl rfl rfl ?_
      refine th_n (hK13 _ _ ?_)
      clear hK13 K13
      refine S_if rfl (fun hb5 => ?_) (fun hb5 => ?_)  -- c3
      · -- c3T
       first | with_reducible (replace hb5 := nb_nt hb5) | with_reducible (replace hb5 := nb_tt hb5) | with_reducible (replace hb5 := nb_bt hb5) | skip
       refine wp_seq_k fun K14 hK14 => ?_
       refine Sb 107 rfl ?_  -- 8
       refine S_bs0 Try.underlying22 sz3 ?_
       intro b5 w5 fb5 g5 B5
       have lb5 := B5.lt
       replace hA := hA.grow g5
       replace hB := hB.grow g5
       replace hC := hC.grow g5
       replace cc2 := cc2.grow g5
       replace O1 := O1.grow g5
       replace G := G.grow g5
       replace GL4 := GL4.grow g5
       replace B1 := B1.grow g5
       have zg5 := g5.size
       refine S_val (Y_assign rfl) ?_
       refine S_nl rfl rfl ?_
       refine th_n (hK14 _ _ ?_)
       clear hK14 K14
       refine wp_ret ?_
       refine th_r ?_
       refine ib_r ?_
       refine th_r ?_
       try clear GL4
       refine th_r ?_
       refine ib_r ?_
       refine th_r ?_
       clear hK12 K12 hK11 K11 hK7 K7
       refine ret_r1 rfl rfl ?_  -- r3
       rw [hb5] at hue
       exact ⟨_, _, _, rfl, by rw [triV_f (triOk_f3 (insU_bad hkN hib hue))]; rfl, by rw [triV_f (triOk_f3 (insU_bad hkN hib hue))]; exact OI.nil _ _ _ _, G⟩
      · -- c3F
       first | with_reducible (replace hb5 := nb_nf hb5) | with_reducible (replace hb5 := nb_tf hb5) | with_reducible (replace hb5 := nb_bf hb5) | skip
       refine wp_skip ?_
       refine th_n (hK12 _ _ ?_)
       clear hK12 K12
       refine wp_seq_k fun K15 hK15 => ?_
       refine Sb 107 rfl ?_  -- 9
       refine S_val (Y_assign rfl) ?_
       refine S_nl rfl rfl ?_
       refine th_n (hK15 _ _ ?_)
       clear hK15 K15
       refine wp_seq_k fun K16 hK16 => ?_
       refine wp_seq_k fun K17 hK17 => ?_
       refine Sb 107 rfl ?_  -- 10
       refine S_val (Y_move rfl) ?_
       refine S_val (Y_move rfl) ?_
       refine S_val (Y_index Try.underlying38 sz4 rfl rfl (by first | assumption | omega)) ?_
       refine S_val (Y_load Try.underlying4 rfl rfl (by first | assumption | exact cc2.at (by rfl) | exact B1.at (by rfl))) ?_  -- l6
       refine S_nl rfl rfl ?_
       refine th_n (hK17 _ _ ?_)
       clear hK17 K17
       refine S_if rfl (fun hb6 => ?_) (fun hb6 => ?_)  -- c4
       · -- c4T
        first | with_reducible (replace hb6 := nb_nt hb6) | with_reducible (replace hb6 := nb_tt hb6) | with_reducible (replace hb6 := nb_bt hb6) | skip
        refine wp_seq_k fun K18 hK18 => ?_
        refine Sb 107 rfl ?_  -- 11
        refine S_val (Y_assign rfl) ?_
        refine S_nl rfl rfl ?_
        refine th_n (hK18 _ _ ?_)
        clear hK18 K18
        refine wp_seq_k fun K19 hK19 => ?_
        refine wp_seq_k fun K20 hK20 => ?_
        refine Sb 107 rfl ?_  -- 12
        refine S_val (Y_assign rfl) ?_
        refine S_nl rfl rfl ?_
        refine th_n (hK20 _ _ ?_)
        clear hK20 K20
        refine wp_block ?_
        go_loopw [7, 8] (fun u7 u8 wr => (∃ j : Nat, u8 = .int .i64 j ∧ u7 = .int .i64 (((h.roots.take j).count (k : Int) : Nat) : Int) ∧ j ≤ h.roots.length) ∧ Mod No w4 wr) (fun u7 u8 wr => h.roots.length - (intOf u8).toNat)  -- L2
        case atStart =>
         refine ⟨?_, Mod.refl _ _⟩
         exact ⟨0, rfl, rfl, by omega⟩
        case round =>
         obtain ⟨w6, rfl⟩ : ∃ x : World, x = wr := ⟨_, rfl⟩
         obtain ⟨hrel, g6⟩ := hrel
         replace hA := hA.grow g6
         replace hB := hB.grow g6
         replace hC := hC.grow g6
         replace cc2 := cc2.grow g6
         replace O1 := O1.grow g6
         replace G := G.grow g6
         replace GL4 := GL4.grow g6
         replace B1 := B1.grow g6
         have zg6 := g6.size
         obtain ⟨j, rfl, rfl, hj⟩ := hrel
         have hcl := count_le (k : Int) (h.roots.take j)
         rw [List.length_take] at hcl
         have GL6 := g6
         refine wp_seq_k fun K21 hK21 => ?_
         refine wp_seq_k fun K22 hK22 => ?_
         refine Sb 107 rfl ?_  -- 13
         refine S_val (Y_move rfl) ?_
         refine S_val (Y_field Try.underlying25 rfl fz25_1 (by decide) rfl) ?_
         refine S_val (Y_load Try.underlying22 rfl rfl (B1.at (by rfl))) ?_  -- l7
         refine S_val (Y_len Try.underlying22 rfl) ?_
         refine S_val (Y_lss rfl rfl) ?_
         refine S_nl rfl rfl ?_
         refine th_n (hK22 _ _ ?_)
         clear hK22 K22
         refine S_if rfl (fun hb7 => ?_) (fun hb7 => ?_)  -- c5
         · -- c5T
          replace hb7 := nb_tt hb7
          have hj1 : j < h.roots.length := by omega
          obtain ⟨g4, o4, rfl, hp4, hc4⟩ := hB.int hj1
          have hcs := count_snoc k (h.roots.take j) h.roots[j]
          rw [← List.take_succ_eq_append_getElem hj1] at hcs
          refine wp_skip ?_
          refine th_n (hK21 _ _ ?_)
          clear hK21 K21
          refine wp_seq_k fun K23 hK23 => ?_
          refine wp_block ?_
          refine wp_seq_k fun K24 hK24 => ?_
          refine Sb 107 rfl ?_  -- 15
          refine S_val (Y_field Try.underlying25 rfl fz25_1 (by decide) rfl) ?_
          refine S_val (Y_load Try.underlying22 rfl rfl (B1.at (by rfl))) ?_  -- l8
          refine S_val (Y_move rfl) ?_
          refine S_val (Y_index Try.underlying22 sz3 rfl rfl (by first | assumption | omega)) ?_
          refine S_val (Y_load Try.underlying3 rfl rfl (by first | assumption | exact cc2.at (by rfl) | exact B1.at (by rfl))) ?_  -- l9
          refine S_val (Y_move rfl) ?_
          refine S_val (Y_eql rfl rfl) ?_
          refine S_nl rfl rfl ?_
          refine th_n (hK24 _ _ ?_)
          clear hK24 K24
          refine S_if rfl (fun hb8 => ?_) (fun hb8 => ?_)  -- c6
          · -- c6T
           replace hb8 := nb_tt hb8
           refine Sb 107 rfl ?_  -- 16
           refine S_val (Y_move rfl) ?_
           refine S_val (Y_inc rfl rfl (by omega)) ?_
           refine S_val (Y_assign rfl) ?_
           refine S_nl rfl rfl ?_
           refine ib_n ?_
           refine th_n (hK23 _ _ ?_)
           clear hK23 K23
           refine Sb 107 rfl ?_  -- 14
           refine S_val (Y_move rfl) ?_
           refine S_val (Y_inc rfl rfl (by omega)) ?_
           refine S_val (Y_assign rfl) ?_
           refine S_nl rfl rfl ?_
           refine th_n ?_
           go_roundw  -- e1 of L2
           case rel =>
            refine ⟨?_, GL6⟩
            rw [if_pos hb8] at hcs
            exact ⟨j + 1, rfl, by rw [hcs], by omega⟩
           case measure =>
            exact dec_nat (by omega)
          · -- c6F
           replace hb8 := nb_tf hb8
           refine wp_skip ?_
           refine ib_n ?_
           refine th_n (hK23 _ _ ?_)
           clear hK23 K23
           refine Sb 107 rfl ?_  -- 14
           refine S_val (Y_move rfl) ?_
           refine S_val (Y_inc rfl rfl (by omega)) ?_
           refine S_val (Y_assign rfl) ?_
           refine S_nl rfl rfl ?_
           refine th_n ?_
           go_roundw  -- e2 of L2
           case rel =>
            refine ⟨?_, GL6⟩
            rw [if_neg hb8] at hcs
            exact ⟨j + 1, rfl, by rw [hcs]; rfl, by omega⟩
           case measure =>
            exact dec_nat (by omega)
         · -- c5F
          replace hb7 := nb_tf hb7
          refine wp_exit ?_
          refine th_x ?_
          try clear GL6
          refine th_x ?_
          refine ib_e ?_
          refine th_n (hK19 _ _ ?_)
          clear hK21 K21 hK19 K19
          refine wp_seq_k fun K25 hK25 => ?_
          refine Sb 107 rfl ?_  -- 17
          refine S_val (Y_assign rfl) ?_
          refine S_nl rfl rfl ?_
          refine th_n (hK25 _ _ ?_)
          clear hK25 K25
          refine wp_block ?_
          rw [List.take_of_length_le (by omega)]
          go_loopw [7, 9] (fun u7 u9 wr => (∃ i : Nat, u9 = .int .i64 i ∧ u7 = .int .i64 (((h.roots ++ refsUp h.cells (inB bs) i).count (k : Int) : Nat) : Int) ∧ i ≤ h.cells.length) ∧ Mod No w6 wr) (fun u7 u9 wr => h.cells.length - (intOf u9).toNat)  -- L3
          case atStart =>
           refine ⟨?_, Mod.refl _ _⟩
           exact ⟨0, rfl, by simp [refsUp], by omega⟩
          case round =>
           obtain ⟨w7, rfl⟩ : ∃ x : World, x = wr := ⟨_, rfl⟩
           obtain ⟨hrel, g7⟩ := hrel
           replace hA := hA.grow g7
           replace hB := hB.grow g7
           replace hC := hC.grow g7
           replace cc2 := cc2.grow g7
           replace O1 := O1.grow g7
           replace G := G.grow g7
           replace GL4 := GL4.grow g7
           replace B1 := B1.grow g7
           have zg7 := g7.size
           obtain ⟨i, rfl, rfl, hi⟩ := hrel
           have GL7 := g7
           refine wp_seq_k fun K26 hK26 => ?_
           refine wp_seq_k fun K27 hK27 => ?_
           refine Sb 107 rfl ?_  -- 18
           refine S_val (Y_move rfl) ?_
           refine S_val (Y_field Try.underlying25 rfl fz25_0 (by decide) rfl) ?_
           refine S_val (Y_load Try.underlying23 rfl rfl (B1.at (by rfl))) ?_  -- l10
           refine S_val (Y_len Try.underlying23 rfl) ?_
           refine S_val (Y_lss rfl rfl) ?_
           refine S_nl rfl rfl ?_
           refine th_n (hK27 _ _ ?_)
           clear hK27 K27
           refine S_if rfl (fun hb8 => ?_) (fun hb8 => ?_)  -- c7
           · -- c7T
            replace hb8 := nb_tt hb8
            have hi1 : i < h.cells.length := by omega
            obtain ⟨g5, o5, E5, d5, e5, hp5, cc50, hE50⟩ := hA0.cell hi1
            cases e5
            have cc5 := cc50.grow G
            have hE5 := hE50.grow G
            have hq1 := refsUp_le (cs := h.cells) (sk := inB bs) (Nat.le_of_lt hi1)
            have hq2 := rsum_succ hi1
            have hq3 := rsum_mono (cs := h.cells) (k := i + 1) (n := h.cells.length) (by omega) (Nat.le_refl _)
            have hi2 : i < bs.length := by omega
            obtain ⟨g6, o6, e6, hp6, hc60⟩ := hC.bool hi2
            cases e6
            have hii := inB_at hi2
            refine wp_skip ?_
            refine th_n (hK26 _ _ ?_)
            clear hK26 K26
            refine wp_seq_k fun K28 hK28 => ?_
            refine wp_block ?_
            refine wp_seq_k fun K29 hK29 => ?_
            refine Sb 107 rfl ?_  -- 20
            refine S_val (Y_assign rfl) ?_
            refine S_nl rfl rfl ?_
            refine th_n (hK29 _ _ ?_)
            clear hK29 K29
            refine wp_block ?_
            go_loopw [7, 10] (fun u7 u10 wr => (∃ j : Nat, u10 = .int .i64 j ∧ u7 = .int .i64 (((h.roots ++ refsUp h.cells (inB bs) i ++ h.cells[i].refs.take j).count (k : Int) : Nat) : Int) ∧ j ≤ h.cells[i].refs.length ∧ (inB bs i = true → j = 0)) ∧ Mod No w7 wr) (fun u7 u10 wr => h.cells[i].refs.length - (intOf u10).toNat)  -- L4
            case atStart =>
             refine ⟨?_, Mod.refl _ _⟩
             exact ⟨0, rfl, by simp, by omega, fun _ => rfl⟩
            case round =>
             obtain ⟨w8, rfl⟩ : ∃ x : World, x = wr := ⟨_, rfl⟩
             obtain ⟨hrel, g8⟩ := hrel
             replace hA := hA.grow g8
             replace hB := hB.grow g8
             replace hC := hC.grow g8
             replace cc2 := cc2.grow g8
             replace cc5 := cc5.grow g8
             replace hE5 := hE5.grow g8
             replace O1 := O1.grow g8
             replace G := G.grow g8
             replace GL4 := GL4.grow g8
             replace GL7 := GL7.grow g8
             replace B1 := B1.grow g8
             have zg8 := g8.size
             obtain ⟨j, rfl, rfl, hj, hj0⟩ := hrel
             have hcl := count_le (k : Int) (h.roots ++ refsUp h.cells (inB bs) i ++ h.cells[i].refs.take j)
             rw [List.length_append, List.length_append, List.length_take] at hcl
             obtain ⟨g6, o6, e6, hp6, hc6⟩ := hC.bool hi2
             cases e6
             have GL8 := g8
             refine wp_seq_k fun K30 hK30 => ?_
             refine wp_seq_k fun K31 hK31 => ?_
             refine Sb 107 rfl ?_  -- 21
             refine S_val (Y_move rfl) ?_
             refine S_val (Y_field Try.underlying25 rfl fz25_0 (by decide) rfl) ?_
             refine S_val (Y_load Try.underlying23 rfl rfl (B1.at (by rfl))) ?_  -- l11
             refine S_val (Y_move rfl) ?_
             refine S_val (Y_index Try.underlying23 sz70 rfl rfl (by first | assumption | omega)) ?_
             refine S_val (Y_field Try.underlying70 rfl fz70_2 (by decide) rfl) ?_
             refine S_val (Y_load Try.underlying22 rfl rfl (by first | assumption | exact cc2.at (by rfl) | exact cc5.at (by rfl) | exact B1.at (by rfl))) ?_  -- l12
             refine S_val (Y_len Try.underlying22 rfl) ?_
             refine S_val (Y_lss rfl rfl) ?_
             refine S_val (Y_move rfl) ?_
             refine S_g 80 rfl (fun hb9 => ?_) (fun hb9 => ?_)  -- g3
             · -- g3T
              replace hb9 := nb_tt hb9
              refine S_on rfl rfl ?_
              refine S_val (Y_move rfl) ?_
              refine S_on rfl rfl ?_
              refine S_val (Y_move rfl) ?_
              refine S_on rfl rfl ?_
              refine S_val (Y_index Try.underlying38 sz4 rfl rfl (by first | assumption | omega)) ?_
              refine S_on rfl rfl ?_
              refine S_val (Y_load Try.underlying4 rfl rfl (by first | assumption | exact cc2.at (by rfl) | exact cc5.at (by rfl) | exact B1.at (by rfl))) ?_  -- l13
              refine S_on rfl rfl ?_
              refine S_val (Y_not rfl) ?_
              refine S_val (Y_pickT rfl rfl) ?_
              refine S_nl rfl rfl ?_
              refine th_n (hK31 _ _ ?_)
              clear hK31 K31
              refine S_if rfl (fun hb10 => ?_) (fun hb10 => ?_)  -- c8
              · -- c8T
               first | with_reducible (replace hb10 := nb_nt hb10) | with_reducible (replace hb10 := nb_tt hb10) | with_reducible (replace hb10 := nb_bt hb10) | skip
               have hj1 : j < h.cells[i].refs.length := by omega
               obtain ⟨g7, o7, e7, hp7, hc7⟩ := hE5.int hj1
               cases e7
               have hcs := count_snoc k (h.roots ++ refsUp h.cells (inB bs) i ++ h.cells[i].refs.take j) h.cells[i].refs[j]
               rw [List.append_assoc, ← List.take_succ_eq_append_getElem hj1] at hcs
               refine wp_skip ?_
               refine th_n (hK30 _ _ ?_)
               clear hK30 K30
               refine wp_seq_k fun K32 hK32 => ?_
               refine wp_block ?_
               refine wp_seq_k fun K33 hK33 => ?_
               refine Sb 107 rfl ?_  -- 23
               refine S_val (Y_field Try.underlying25 rfl fz25_0 (by decide) rfl) ?_
               refine S_val (Y_load Try.underlying23 rfl rfl (B1.at (by rfl))) ?_  -- l14
               refine S_val (Y_move rfl) ?_
               refine S_val (Y_index Try.underlying23 sz70 rfl rfl (by first | assumption | omega)) ?_
               refine S_val (Y_field Try.underlying70 rfl fz70_2 (by decide) rfl) ?_
               refine S_val (Y_load Try.underlying22 rfl rfl (by first | assumption | exact cc2.at (by rfl) | exact cc5.at (by rfl) | exact B1.at (by rfl))) ?_  -- l15
               refine S_val (Y_move rfl) ?_
               refine S_val (Y_index Try.underlying22 sz3 rfl rfl (by first | assumption | omega)) ?_
               refine S_val (Y_load Try.underlying3 rfl rfl (by first | assumption | exact cc2.at (by rfl) | exact cc5.at (by rfl) | exact B1.at (by rfl))) ?_  -- l16
               refine S_val (Y_move rfl) ?_
               refine S_val (Y_eql rfl rfl) ?_
               refine S_nl rfl rfl ?_
               refine th_n (hK33 _ _ ?_)
               clear hK33 K33
               refine S_if rfl (fun hb11 => ?_) (fun hb11 => ?_)  -- c9
               · -- c9T
                replace hb11 := nb_tt hb11
                refine Sb 107 rfl ?_  -- 24
                refine S_val (Y_move rfl) ?_
                refine S_val (Y_inc rfl rfl (by omega)) ?_
                refine S_val (Y_assign rfl) ?_
                refine S_nl rfl rfl ?_
                refine ib_n ?_
                refine th_n (hK32 _ _ ?_)
                clear hK32 K32
                refine Sb 107 rfl ?_  -- 22
                refine S_val (Y_move rfl) ?_
                refine S_val (Y_inc rfl rfl (by omega)) ?_
                refine S_val (Y_assign rfl) ?_
                refine S_nl rfl rfl ?_
                refine th_n ?_
                go_roundw  -- e3 of L4
                case rel =>
                 refine ⟨?_, GL8⟩
                 rw [if_pos hb11] at hcs
                 exact ⟨j + 1, rfl, by rw [hcs], by omega, fun hh => by rw [hii, hb10] at hh; cases hh⟩
                case measure =>
                 exact dec_nat (by omega)
               · -- c9F
                replace hb11 := nb_tf hb11
                refine wp_skip ?_
                refine ib_n ?_
                refine th_n (hK32 _ _ ?_)
                clear hK32 K32
                refine Sb 107 rfl ?_  -- 22
                refine S_val (Y_move rfl) ?_
                refine S_val (Y_inc rfl rfl (by omega)) ?_
                refine S_val (Y_assign rfl) ?_
                refine S_nl rfl rfl ?_
                refine th_n ?_
                go_roundw  -- e4 of L4
                case rel =>
                 refine ⟨?_, GL8⟩
                 rw [if_neg hb11] at hcs
                 exact ⟨j + 1, rfl, by rw [hcs]; rfl, by omega, fun hh => by rw [hii, hb10] at hh; cases hh⟩
                case measure =>
                 exact dec_nat (by omega)
              · -- c8F
               first | with_reducible (replace hb10 := nb_nf hb10) | with_reducible (replace hb10 := nb_tf hb10) | with_reducible (replace hb10 := nb_bf hb10) | skip
               refine wp_exit ?_
               refine th_x ?_
               try clear GL8
               refine th_x ?_
               refine ib_e ?_
               refine ib_n ?_
               refine th_n (hK28 _ _ ?_)
               clear hK30 K30 hK28 K28
               refine Sb 107 rfl ?_  -- 19
               refine S_val (Y_move rfl) ?_
               refine S_val (Y_inc rfl rfl (by omega)) ?_
               refine S_val (Y_assign rfl) ?_
               refine S_nl rfl rfl ?_
               refine th_n ?_
               go_roundw  -- e5 of L3
               case rel =>
                refine ⟨?_, GL7⟩
                have hin : inB bs i = true := by rw [hii]; exact hb10
                have hj00 := hj0 hin
                subst hj00
                exact ⟨i + 1, rfl, by rw [refsUp_skip hin]; simp, by omega⟩
               case measure =>
                exact dec_nat (by omega)
             · -- g3F
              replace hb9 := nb_tf hb9
              refine S_off rfl rfl ?_
              refine S_off rfl rfl ?_
              refine S_off rfl rfl ?_
              refine S_off rfl rfl ?_
              refine S_off rfl rfl ?_
              refine S_val (Y_pickF rfl rfl) ?_
              refine S_nl rfl rfl ?_
              refine th_n (hK31 _ _ ?_)
              clear hK31 K31
              refine S_ifF rfl ?_
              refine wp_exit ?_
              refine th_x ?_
              try clear GL8
              refine th_x ?_
              refine ib_e ?_
              refine ib_n ?_
              refine th_n (hK28 _ _ ?_)
              clear hK30 K30 hK28 K28
              refine Sb 107 rfl ?_  -- 19
              refine S_val (Y_move rfl) ?_
              refine S_val (Y_inc rfl rfl (by omega)) ?_
              refine S_val (Y_assign rfl) ?_
              refine S_nl rfl rfl ?_
              refine th_n ?_
              go_roundw  -- e6 of L3
              case rel =>
               refine ⟨?_, GL7⟩
               cases hh : inB bs i with
               | true =>
                 have hj00 := hj0 hh
                 subst hj00
                 exact ⟨i + 1, rfl, by rw [refsUp_skip hh]; simp, by omega⟩
               | false => exact ⟨i + 1, rfl, by rw [refsUp_succ hi1 hh, List.take_of_length_le (by omega), ← List.append_assoc], by omega⟩
              case measure =>
               exact dec_nat (by omega)
           · -- c7F
            replace hb8 := nb_tf hb8
            refine wp_exit ?_
            refine th_x ?_
            try clear GL7
            refine th_x ?_
            refine ib_e ?_
            refine th_n (hK16 _ _ ?_)
            clear hK26 K26 hK16 K16
            refine Sb 107 rfl ?_  -- 25
            refine S_val (Y_move rfl) ?_
            refine S_val (Y_move rfl) ?_
            refine S_bs1 (cs := [_]) Try.underlying22 zr3 sz3 rfl rfl rfl ?_
            intro b9 w9 fb9 g9 B9
            have lb9 := B9.lt
            replace hA := hA.grow g9
            replace hB := hB.grow g9
            replace hC := hC.grow g9
            replace cc2 := cc2.grow g9
            replace O1 := O1.grow g9
            replace G := G.grow g9
            replace GL4 := GL4.grow g9
            replace B1 := B1.grow g9
            have zg9 := g9.size
            refine S_app Try.underlying22 zr3 sz3 by3 rfl rfl O1 rfl (Src.blk B9) (by simp [Value.oneCell']) (by omega) (Pr' := fun i => i = b2 ∨ wz ≤ i) (fun i hi => hi) (by omega) ?_
            intro A10 cap10 w10 X10 m10
            replace O1 := X10
            rw [ints_app] at O1
            clear X10
            replace G := G.abv m10
            replace GL4 := GL4.trn m10
            replace hA := hA0.grow G
            replace hB := hB0.grow G
            replace hC := hC0.grow G
            replace cc2 := cc20.grow G
            replace B1 := B1.md m10
            have zm10 := m10.size
            refine S_val (Y_assign rfl) ?_
            refine S_nl rfl rfl ?_
            refine ib_n ?_
            refine th_n (hK11 _ _ ?_)
            clear hK11 K11
            refine Sb 107 rfl ?_  -- 6
            refine S_val (Y_move rfl) ?_
            refine S_val (Y_inc rfl rfl (by omega)) ?_
            refine S_val (Y_assign rfl) ?_
            refine S_nl rfl rfl ?_
            refine th_n ?_
            go_roundw  -- e7 of L1
            case rel =>
             refine ⟨?_, GL4⟩
             have hiN : i = h.cells.length := by omega
             rw [hiN] at O1
             have hti : tri1 h bs k = (((h.roots ++ refsUp h.cells (inB bs) h.cells.length).count (k : Int) : Nat) : Int) := by unfold tri1; rw [if_pos hib]; rfl
             exact ⟨k + 1, _, _, _, rfl, rfl, by omega, by rw [triL_len]; omega, by rw [triL_succ, hti]; exact O1, by rw [insU_succ, hiu, hue, hb5]; simp⟩
            case measure =>
             exact dec_nat (by omega)
       · -- c4F
        first | with_reducible (replace hb6 := nb_nf hb6) | with_reducible (replace hb6 := nb_tf hb6) | with_reducible (replace hb6 := nb_bf hb6) | skip
        rw [hb4] at hb6; cases hb6
     · -- g2F
      first | with_reducible (replace hb4 := nb_nf hb4) | with_reducible (replace hb4 := nb_tf hb4) | with_reducible (replace hb4 := nb_bf hb4) | skip
      refine S_off rfl rfl ?_
      refine S_off rfl rfl ?_
      refine S_off rfl rfl ?_
      refine S_off rfl rfl ?_
      refine S_off rfl rfl ?_
      refine S_off rfl rfl ?_
      refine S_off rfl rfl ?_
      refine S_val (Y_pickF rfl rfl) ?_
      refine S_nl rfl rfl ?_
      refine th_n (hK13 _ _ ?_)
      clear hK13 K13
      refine S_ifF rfl ?_
      refine wp_skip ?_
      refine th_n (hK12 _ _ ?_)
      clear hK12 K12
      refine wp_seq_k fun K34 hK34 => ?_
      refine Sb 107 rfl ?_  -- 9
      refine S_val (Y_assign rfl) ?_
      refine S_nl rfl rfl ?_
      refine th_n (hK34 _ _ ?_)
      clear hK34 K34
      refine wp_seq_k fun K35 hK35 => ?_
      refine wp_seq_k fun K36 hK36 => ?_
      refine Sb 107 rfl ?_  -- 10
      refine S_val (Y_move rfl) ?_
      refine S_val (Y_move rfl) ?_
      refine S_val (Y_index Try.underlying38 sz4 rfl rfl (by first | assumption | omega)) ?_
      refine S_val (Y_load Try.underlying4 rfl rfl (by first | assumption | exact cc2.at (by rfl) | exact B1.at (by rfl))) ?_  -- l17
      refine S_nl rfl rfl ?_
      refine th_n (hK36 _ _ ?_)
      clear hK36 K36
      refine S_if rfl (fun hb5 => ?_) (fun hb5 => ?_)  -- c10
      · -- c10T
       first | with_reducible (replace hb5 := nb_nt hb5) | with_reducible (replace hb5 := nb_tt hb5) | with_reducible (replace hb5 := nb_bt hb5) | skip
       rw [hb4] at hb5; cases hb5
      · -- c10F
       first | with_reducible (replace hb5 := nb_nf hb5) | with_reducible (replace hb5 := nb_tf hb5) | with_reducible (replace hb5 := nb_bf hb5) | skip
       refine wp_skip ?_
       refine th_n (hK35 _ _ ?_)
       clear hK35 K35
       refine Sb 107 rfl ?_  -- 25
       refine S_val (Y_move rfl) ?_
       refine S_val (Y_move rfl) ?_
       refine S_bs1 (cs := [_]) Try.underlying22 zr3 sz3 rfl rfl rfl ?_
       intro b11 w11 fb11 g11 B11
       have lb11 := B11.lt
       replace hA := hA.grow g11
       replace hB := hB.grow g11
       replace hC := hC.grow g11
       replace cc2 := cc2.grow g11
       replace O1 := O1.grow g11
       replace G := G.grow g11
       replace GL4 := GL4.grow g11
       replace B1 := B1.grow g11
       have zg11 := g11.size
       refine S_app Try.underlying22 zr3 sz3 by3 rfl rfl O1 rfl (Src.blk B11) (by simp [Value.oneCell']) (by omega) (Pr' := fun i => i = b2 ∨ wz ≤ i) (fun i hi => hi) (by omega) ?_
       intro A12 cap12 w12 X12 m12
       replace O1 := X12
       rw [ints_app] at O1
       clear X12
       replace G := G.abv m12
       replace GL4 := GL4.trn m12
       replace hA := hA0.grow G
       replace hB := hB0.grow G
       replace hC := hC0.grow G
       replace cc2 := cc20.grow G
       replace B1 := B1.md m12
       have zm12 := m12.size
       refine S_val (Y_assign rfl) ?_
       refine S_nl rfl rfl ?_
       refine ib_n ?_
       refine th_n (hK11 _ _ ?_)
       clear hK11 K11
       refine Sb 107 rfl ?_  -- 6
       refine S_val (Y_move rfl) ?_
       refine S_val (Y_inc rfl rfl (by omega)) ?_
       refine S_val (Y_assign rfl) ?_
       refine S_nl rfl rfl ?_
       refine th_n ?_
       go_roundw  -- e8 of L1
       case rel =>
        refine ⟨?_, GL4⟩
        have hti : tri1 h bs k = -1 := by unfold tri1; rw [hib, hb4]; rfl
        exact ⟨k + 1, _, _, _, rfl, rfl, by omega, by rw [triL_len]; omega, by rw [triL_succ, hti]; exact O1, by rw [insU_succ, hiu, hib, hb4]; rfl⟩
       case measure =>
        exact dec_nat (by omega)
    · -- c2F
     replace hb3 := nb_tf hb3
     refine wp_exit ?_
     refine th_x ?_
     try clear GL4
     refine th_x ?_
     refine ib_e ?_
     refine th_n (hK7 _ _ ?_)
     clear hK9 K9 hK7 K7
     refine wp_seq_k fun K37 hK37 => ?_
     refine Sb 107 rfl ?_  -- 26
     refine S_val (Y_move rfl) ?_
     refine S_val (Y_assign rfl) ?_
     refine S_nl rfl rfl ?_
     refine th_n (hK37 _ _ ?_)
     clear hK37 K37
     refine wp_ret ?_
     refine ret_r1 rfl rfl ?_  -- r4
     have hkN : k = h.cells.length := by omega
     rw [hkN] at hiu O1 hq1
     have hok := triOk_t hb1 hlen hiu
     exact ⟨_, _, _, rfl, by rw [triV_t hok]; exact hq1, by rw [triV_t hok]; exact O1.oi.weak (fun i hi => by omega), G⟩

end Go.Proofs.Ytjmfdmndchoplaa
