/-
  The law FnDeadLeaked returns true.
  Conditions: those that each theorem states.
-/
import Derived.Test.YtikgflhepclfgabQb5
set_option linter.unusedVariables false
set_option linter.unusedSimpArgs false
namespace Go.Proofs.Ytikgflhepclfgab
open Go Go.RowKit
attribute [local irreducible] wpList wpAnyH Code.wp dOp

set_option maxHeartbeats 400000 in
set_option maxRecDepth 20000 in
theorem laws_FnDeadLeaked_c (Pr : Nat → Prop) (A : Option Addr) (xs : List Int) (c : Nat) (w : World) (hA : R1 Pr w A (u8s xs)) (hn : xs.length ≤ 9223372036854775807) (hcap : xs.length ≤ c) (hrg : ∀ y ∈ xs, 0 ≤ y ∧ y ≤ 255) :
    Calls Try.prog 12 #[.slice A xs.length c] w (Ret fun v w' => v = .bool true ∧ Grow w w') := by
 refine enter Try.func12 rfl Try.ntmps12 (L := [_,_,_,_,_,_,_,_,_,_,_,_,_,_,_,_,_,_,_,_,_,_,_,_,_,_,_,_,_,_,_,_,_,_,_,_,_,_,_,_,_,_,_,_,_,_,_,_,_,_,_,_,_,_,_,_,_,_,_]) rfl ?_
 have G := Mod.refl No w
 have hA0 := hA
 refine wp_seq_k fun K1 hK1 => ?_
 refine Sb 59 rfl ?_  -- 0
 refine S_val (Y_assign rfl) ?_
 refine S_nl rfl rfl ?_
 refine th_n (hK1 _ _ ?_)
 clear hK1 K1
 refine wp_seq_k fun K2 hK2 => ?_
 refine wp_seq_k fun K3 hK3 => ?_
 refine Sb 59 rfl ?_  -- 1
 refine S_val (Y_move rfl) ?_
 refine S_val (Y_len Try.underlying22 rfl) ?_
 refine S_val (Y_gtr rfl rfl) ?_
 refine S_nl rfl rfl ?_
 refine th_n (hK3 _ _ ?_)
 clear hK3 K3
 refine S_if rfl (fun hb1 => ?_) (fun hb1 => ?_)  -- c1
 · -- c1T
  replace hb1 := nb_tt hb1
  refine wp_seq_k fun K4 hK4 => ?_
  refine Sb 59 rfl ?_  -- 2
  refine S_val (Y_assign rfl) ?_
  refine S_nl rfl rfl ?_
  refine th_n (hK4 _ _ ?_)
  clear hK4 K4
  refine wp_ret ?_
  refine th_r ?_
  clear hK2 K2
  refine ret_r1 rfl rfl ?_  -- r1
  exact ⟨rfl, G⟩
 · -- c1F
  replace hb1 := nb_tf hb1
  have hx : xs.length ≤ 1048576 := by omega
  refine wp_skip ?_
  refine th_n (hK2 _ _ ?_)
  clear hK2 K2
  refine wp_seq_k fun K5 hK5 => ?_
  refine Sb 59 rfl ?_  -- 3
  refine S_val (Y_move rfl) ?_
  refine S_call rfl en50 (spec_DrawDeadCycle_c _ _ _ _ _ (by assumption) (by omega) (by omega) (by assumption)) ?_  -- k1 spec.DrawDeadCycle
  rintro v1 w1 ⟨hD1, A1, B1, n11, c11, n21, c21, x1, rfl, hn11, hn21, hz1, hx1, RC1, RR1, g1⟩
  replace hA := hA.grow g1
  replace G := G.grow g1
  have zg1 := g1.size
  subst hn11
  subst hn21
  obtain ⟨h, rfl⟩ : ∃ x, x = hD1 := ⟨_, rfl⟩
  obtain ⟨AD, rfl⟩ : ∃ x, x = A1 := ⟨_, rfl⟩
  obtain ⟨BD, rfl⟩ : ∃ x, x = B1 := ⟨_, rfl⟩
  obtain ⟨cD, rfl⟩ : ∃ x, x = c11 := ⟨_, rfl⟩
  obtain ⟨dD, rfl⟩ : ∃ x, x = c21 := ⟨_, rfl⟩
  have hzD := hz1
  have hzcD := hsize_cells h
  have hzrD := hsize_roots h
  have hDA := RC1.below
  have hDB := RR1.below
  obtain ⟨x, rfl⟩ : ∃ x, x = x1 := ⟨_, rfl⟩
  have hxD := hx1
  have hx64 : -9223372036854775808 ≤ x ∧ x ≤ 9223372036854775807 := by omega
  have hdl := deadV_len h x
  have hrl := reachV_le h
  have hll := leakV_len h
  refine S_val (Y_move rfl) ?_
  refine S_val (Y_extract rfl rfl) ?_
  refine S_val (Y_extract rfl rfl) ?_
  refine S_alloc (cs := [_, _]) zr26 rfl ?_
  intro b2 w2 fb2 g2 B2
  have lb2 := B2.lt
  replace hA := hA.grow g2
  replace hDA := hDA.grow g2
  replace hDB := hDB.grow g2
  replace G := G.grow g2
  have zg2 := g2.size
  refine S_stM (pre := []) (old := [_, _]) (post := []) (vs := [_, _]) sz26 rfl rfl rfl (by first | rfl | assumption) B2 rfl rfl ?_
  intro w3 m3 X3
  replace B2 := Blk.eq (ys := [_, _]) X3 rfl
  clear X3
  replace G := G.abv m3
  replace hA := hA0.grow G
  replace hDA := hDA.md m3
  replace hDB := hDB.md m3
  have zm3 := m3.size
  refine S_val (Y_assign rfl) ?_
  refine S_nl rfl rfl ?_
  refine th_n (hK5 _ _ ?_)
  clear hK5 K5
  refine wp_seq_k fun K6 hK6 => ?_
  refine Sb 59 rfl ?_  -- 4
  refine S_val (Y_loadS Try.underlying26 rfl sz26 rfl (B2.row (by rfl))) ?_  -- l1
  refine S_val (Y_move rfl) ?_
  refine S_call rfl en51 (impl_DeadCycle_c _ _ _ _ _ _ _ _ (by assumption) (by assumption) (by omega)) ?_  -- k2 impl.DeadCycle
  rintro v4 w4 ⟨A4, q4, cap4, rfl, hq4, O4, g4⟩
  replace hA := hA.grow g4
  replace hDA := hDA.grow g4
  replace hDB := hDB.grow g4
  replace G := G.grow g4
  replace B2 := B2.grow g4
  have zg4 := g4.size
  subst hq4
  have hRx := O4.lt.r1
  refine S_val (Y_assign rfl) ?_
  refine S_nl rfl rfl ?_
  refine th_n (hK6 _ _ ?_)
  clear hK6 K6
  refine wp_seq_k fun K7 hK7 => ?_
  refine wp_seq_k fun K8 hK8 => ?_
  refine Sb 59 rfl ?_  -- 5
  refine S_val (Y_move rfl) ?_
  refine S_val (Y_loadS Try.underlying26 rfl sz26 rfl (B2.row (by rfl))) ?_  -- l2
  refine S_val (Y_move rfl) ?_
  refine S_call rfl en52 (spec_DeadCycle_c _ _ _ _ _ _ _ _ (by assumption) (by assumption) (by omega) (by assumption)) ?_  -- k3 spec.DeadCycle
  rintro v5 w5 ⟨A5, q5, cap5, rfl, hq5, O5, g5⟩
  replace hA := hA.grow g5
  replace hDA := hDA.grow g5
  replace hDB := hDB.grow g5
  replace hRx := hRx.grow g5
  replace G := G.grow g5
  replace B2 := B2.grow g5
  have zg5 := g5.size
  subst hq5
  have hRs := O5.lt.r1
  refine S_call rfl en32 (laws_sameFlags_c _ _ _ _ _ _ _ _ _ (by assumption) (by assumption) (by omega)) ?_  -- k4 laws.sameFlags
  rintro v6 w6 ⟨rfl, g6⟩
  replace hA := hA.grow g6
  replace hDA := hDA.grow g6
  replace hDB := hDB.grow g6
  replace hRx := hRx.grow g6
  replace hRs := hRs.grow g6
  replace G := G.grow g6
  replace B2 := B2.grow g6
  have zg6 := g6.size
  refine S_val (Y_not rfl) ?_
  refine S_nl rfl rfl ?_
  refine th_n (hK8 _ _ ?_)
  clear hK8 K8
  refine S_if rfl (fun hb2 => ?_) (fun hb2 => ?_)  -- c2
  · -- c2T
   first | with_reducible (replace hb2 := nb_nt hb2) | with_reducible (replace hb2 := nb_tt hb2) | with_reducible (replace hb2 := nb_bt hb2) | skip
   exact absurd rfl hb2
  · -- c2F
   first | with_reducible (replace hb2 := nb_nf hb2) | with_reducible (replace hb2 := nb_tf hb2) | with_reducible (replace hb2 := nb_bf hb2) | skip
   refine wp_skip ?_
   refine th_n (hK7 _ _ ?_)
   clear hK7 K7
   refine wp_seq_k fun K9 hK9 => ?_
   refine Sb 59 rfl ?_  -- 7
   refine S_val (Y_loadS Try.underlying26 rfl sz26 rfl (B2.row (by rfl))) ?_  -- l3
   refine S_call rfl en41 (impl_LeakedCells_c _ _ _ _ _ _ _ (by assumption) (by assumption) (by omega)) ?_  -- k5 impl.LeakedCells
   rintro v7 w7 ⟨A7, q7, cap7, rfl, hq7, O7, g7⟩
   replace hA := hA.grow g7
   replace hDA := hDA.grow g7
   replace hDB := hDB.grow g7
   replace hRx := hRx.grow g7
   replace hRs := hRs.grow g7
   replace G := G.grow g7
   replace B2 := B2.grow g7
   have zg7 := g7.size
   subst hq7
   have hRl := O7.lt.r1
   refine S_val (Y_assign rfl) ?_
   refine S_nl rfl rfl ?_
   refine th_n (hK9 _ _ ?_)
   clear hK9 K9
   refine wp_seq_k fun K10 hK10 => ?_
   refine wp_seq_k fun K11 hK11 => ?_
   refine Sb 59 rfl ?_  -- 8
   refine S_val (Y_assign rfl) ?_
   refine S_nl rfl rfl ?_
   refine th_n (hK11 _ _ ?_)
   clear hK11 K11
   refine wp_block ?_
   go_loopw [7] (fun u7 wr => (∃ k : Nat, u7 = .int .i64 k ∧ k ≤ (deadV h x).length) ∧ Mod No w7 wr) (fun u7 wr => (deadV h x).length - (intOf u7).toNat)  -- L1
   case atStart =>
    refine ⟨?_, Mod.refl _ _⟩
    exact ⟨0, rfl, by omega⟩
   case round =>
    obtain ⟨w8, rfl⟩ : ∃ x : World, x = wr := ⟨_, rfl⟩
    obtain ⟨hrel, g8⟩ := hrel
    replace hA := hA.grow g8
    replace hDA := hDA.grow g8
    replace hDB := hDB.grow g8
    replace hRx := hRx.grow g8
    replace hRs := hRs.grow g8
    replace hRl := hRl.grow g8
    replace G := G.grow g8
    replace B2 := B2.grow g8
    have zg8 := g8.size
    obtain ⟨k, rfl, hk⟩ := hrel
    have GL8 := g8
    refine wp_seq_k fun K12 hK12 => ?_
    refine wp_seq_k fun K13 hK13 => ?_
    refine Sb 59 rfl ?_  -- 9
    refine S_val (Y_move rfl) ?_
    refine S_val (Y_move rfl) ?_
    refine S_val (Y_len Try.underlying32 rfl) ?_
    refine S_val (Y_lss rfl rfl) ?_
    refine S_nl rfl rfl ?_
    refine th_n (hK13 _ _ ?_)
    clear hK13 K13
    refine S_if rfl (fun hb3 => ?_) (fun hb3 => ?_)  -- c3
    · -- c3T
     replace hb3 := nb_tt hb3
     have hk1 : k < (deadV h x).length := by omega
     have hkN : k < h.cells.length := by omega
     obtain ⟨g4, o4, e4, hp4, hc4⟩ := hRx.bool (k := k) hk1
     cases e4
     refine wp_skip ?_
     refine th_n (hK12 _ _ ?_)
     clear hK12 K12
     refine wp_seq_k fun K14 hK14 => ?_
     refine wp_block ?_
     refine wp_seq_k fun K15 hK15 => ?_
     refine Sb 59 rfl ?_  -- 11
     refine S_val (Y_assign rfl) ?_
     refine S_nl rfl rfl ?_
     refine th_n (hK15 _ _ ?_)
     clear hK15 K15
     refine wp_seq_k fun K16 hK16 => ?_
     refine wp_seq_k fun K17 hK17 => ?_
     refine Sb 59 rfl ?_  -- 12
     refine S_val (Y_assign rfl) ?_
     refine S_nl rfl rfl ?_
     refine th_n (hK17 _ _ ?_)
     clear hK17 K17
     refine wp_block ?_
     go_loopw [8, 9] (fun u8 u9 wr => (∃ j : Nat, u9 = .int .i64 j ∧ u8 = .bool (decide ((k : Int) ∈ (leakV h).take j)) ∧ j ≤ (leakV h).length) ∧ Mod No w8 wr) (fun u8 u9 wr => (leakV h).length - (intOf u9).toNat)  -- L2
     case atStart =>
      refine ⟨?_, Mod.refl _ _⟩
      exact ⟨0, rfl, by simp, by omega⟩
     case round =>
      obtain ⟨w9, rfl⟩ : ∃ x : World, x = wr := ⟨_, rfl⟩
      obtain ⟨hrel, g9⟩ := hrel
      replace hA := hA.grow g9
      replace hDA := hDA.grow g9
      replace hDB := hDB.grow g9
      replace hRx := hRx.grow g9
      replace hRs := hRs.grow g9
      replace hRl := hRl.grow g9
      replace G := G.grow g9
      replace GL8 := GL8.grow g9
      replace B2 := B2.grow g9
      have zg9 := g9.size
      obtain ⟨j, rfl, rfl, hj⟩ := hrel
      have GL9 := g9
      refine wp_seq_k fun K18 hK18 => ?_
      refine wp_seq_k fun K19 hK19 => ?_
      refine Sb 59 rfl ?_  -- 13
      refine S_val (Y_move rfl) ?_
      refine S_val (Y_move rfl) ?_
      refine S_val (Y_len Try.underlying24 rfl) ?_
      refine S_val (Y_lss rfl rfl) ?_
      refine S_nl rfl rfl ?_
      refine th_n (hK19 _ _ ?_)
      clear hK19 K19
      refine S_if rfl (fun hb4 => ?_) (fun hb4 => ?_)  -- c4
      · -- c4T
       replace hb4 := nb_tt hb4
       have hj1 : j < (leakV h).length := by omega
       obtain ⟨g5, o5, e5, hp5, hc5⟩ := hRl.int (k := j) hj1
       cases e5
       have hts := List.take_succ_eq_append_getElem hj1
       refine wp_skip ?_
       refine th_n (hK18 _ _ ?_)
       clear hK18 K18
       refine wp_seq_k fun K20 hK20 => ?_
       refine wp_block ?_
       refine Sb 59 rfl ?_  -- 15
       refine S_val (Y_move rfl) ?_
       refine S_val (Y_move rfl) ?_
       refine S_g 42 rfl (fun hb5 => ?_) (fun hb5 => ?_)  -- g1
       · -- g1T
        first | with_reducible (replace hb5 := nb_nt hb5) | with_reducible (replace hb5 := nb_tt hb5) | with_reducible (replace hb5 := nb_bt hb5) | skip
        refine S_off rfl rfl ?_
        refine S_off rfl rfl ?_
        refine S_off rfl rfl ?_
        refine S_off rfl rfl ?_
        refine S_off rfl rfl ?_
        refine S_off rfl rfl ?_
        refine S_val (Y_pickT rfl rfl) ?_
        refine S_val (Y_assign rfl) ?_
        refine S_nl rfl rfl ?_
        refine ib_n ?_
        refine th_n (hK20 _ _ ?_)
        clear hK20 K20
        refine Sb 59 rfl ?_  -- 14
        refine S_val (Y_move rfl) ?_
        refine S_val (Y_inc rfl rfl (by omega)) ?_
        refine S_val (Y_assign rfl) ?_
        refine S_nl rfl rfl ?_
        refine th_n ?_
        go_roundw  -- e1 of L2
        case rel =>
         refine ⟨?_, GL9⟩
         first | exact ⟨j + 1, rfl, by rw [hts]; exact congrArg Value.bool (decide_eq_true (List.mem_append.2 (.inl (by assumption)))).symm, by omega⟩ | exact ⟨j + 1, rfl, by rw [hts]; congr 1; rw [decide_eq_decide]; simp only [List.mem_append, List.mem_singleton]; exact ⟨fun h9 => .inr h9.symm, fun h9 => h9.elim (fun h8 => absurd h8 (by assumption)) (fun h8 => h8.symm)⟩, by omega⟩
        case measure =>
         exact dec_nat (by omega)
       · -- g1F
        first | with_reducible (replace hb5 := nb_nf hb5) | with_reducible (replace hb5 := nb_tf hb5) | with_reducible (replace hb5 := nb_bf hb5) | skip
        refine S_on rfl rfl ?_
        refine S_val (Y_move rfl) ?_
        refine S_on rfl rfl ?_
        refine S_val (Y_move rfl) ?_
        refine S_on rfl rfl ?_
        refine S_val (Y_index Try.underlying24 sz3 rfl rfl (by first | assumption | omega)) ?_
        refine S_on rfl rfl ?_
        refine S_val (Y_load Try.underlying3 rfl rfl (by first | assumption | exact B2.at (by rfl))) ?_  -- l4
        refine S_on rfl rfl ?_
        refine S_val (Y_move rfl) ?_
        refine S_on rfl rfl ?_
        refine S_val (Y_eql rfl rfl) ?_
        refine S_val (Y_pickF rfl rfl) ?_
        refine S_val (Y_assign rfl) ?_
        refine S_nl rfl rfl ?_
        refine ib_n ?_
        refine th_n (hK20 _ _ ?_)
        clear hK20 K20
        refine Sb 59 rfl ?_  -- 14
        refine S_val (Y_move rfl) ?_
        refine S_val (Y_inc rfl rfl (by omega)) ?_
        refine S_val (Y_assign rfl) ?_
        refine S_nl rfl rfl ?_
        refine th_n ?_
        go_roundw  -- e2 of L2
        case rel =>
         refine ⟨?_, GL9⟩
         first | exact ⟨j + 1, rfl, by rw [hts]; exact congrArg Value.bool (decide_eq_true (List.mem_append.2 (.inl (by assumption)))).symm, by omega⟩ | exact ⟨j + 1, rfl, by rw [hts]; congr 1; rw [decide_eq_decide]; simp only [List.mem_append, List.mem_singleton]; exact ⟨fun h9 => .inr h9.symm, fun h9 => h9.elim (fun h8 => absurd h8 (by assumption)) (fun h8 => h8.symm)⟩, by omega⟩
        case measure =>
         exact dec_nat (by omega)
      · -- c4F
       replace hb4 := nb_tf hb4
       rw [List.take_of_length_le (by omega)]
       obtain ⟨g6, o6, e6, hp6, hc6⟩ := hRx.bool (k := k) hk1
       cases e6
       refine wp_exit ?_
       refine th_x ?_
       try clear GL9
       refine th_x ?_
       refine ib_e ?_
       refine th_n (hK16 _ _ ?_)
       clear hK18 K18 hK16 K16
       refine wp_seq_k fun K21 hK21 => ?_
       refine Sb 59 rfl ?_  -- 16
       refine S_val (Y_move rfl) ?_
       refine S_val (Y_move rfl) ?_
       refine S_val (Y_index Try.underlying32 sz4 rfl rfl (by first | assumption | omega)) ?_
       refine S_val (Y_load Try.underlying4 rfl rfl (by first | assumption | exact B2.at (by rfl))) ?_  -- l5
       refine S_val (Y_move rfl) ?_
       refine S_g 54 rfl (fun hb5 => ?_) (fun hb5 => ?_)  -- g2
       · -- g2T
        first | with_reducible (replace hb5 := nb_nt hb5) | with_reducible (replace hb5 := nb_tt hb5) | with_reducible (replace hb5 := nb_bt hb5) | skip
        obtain ⟨n, rfl, hnN, va, hun, hde, _⟩ := deadV_cell (h := h) (x := x) (by omega)
        have hlk : (k : Int) ∈ leakV h := dead_leak va hnN hun hkN (by have h9 := hb5; simp only [hde] at h9; rwa [deadL_at] at h9)
        refine S_on rfl rfl ?_
        refine S_val (Y_move rfl) ?_
        refine S_on rfl rfl ?_
        refine S_val (Y_not rfl) ?_
        refine S_val (Y_pickT rfl rfl) ?_
        refine S_nl rfl rfl ?_
        refine th_n (hK21 _ _ ?_)
        clear hK21 K21
        refine S_if rfl (fun hb6 => ?_) (fun hb6 => ?_)  -- c5
        · -- c5T
         first | with_reducible (replace hb6 := nb_nt hb6) | with_reducible (replace hb6 := nb_tt hb6) | with_reducible (replace hb6 := nb_bt hb6) | skip
         first | exact absurd hlk hb6 | (rw [decide_eq_false_iff_not] at hb6; exact absurd hlk hb6) | (simp only [hlk, decide_true] at hb6; cases hb6)
        · -- c5F
         first | with_reducible (replace hb6 := nb_nf hb6) | with_reducible (replace hb6 := nb_tf hb6) | with_reducible (replace hb6 := nb_bf hb6) | skip
         refine wp_skip ?_
         refine ib_n ?_
         refine th_n (hK14 _ _ ?_)
         clear hK14 K14
         refine Sb 59 rfl ?_  -- 10
         refine S_val (Y_move rfl) ?_
         refine S_val (Y_inc rfl rfl (by omega)) ?_
         refine S_val (Y_assign rfl) ?_
         refine S_nl rfl rfl ?_
         refine th_n ?_
         go_roundw  -- e3 of L1
         case rel =>
          refine ⟨?_, GL8⟩
          exact ⟨k + 1, rfl, by omega⟩
         case measure =>
          exact dec_nat (by omega)
       · -- g2F
        first | with_reducible (replace hb5 := nb_nf hb5) | with_reducible (replace hb5 := nb_tf hb5) | with_reducible (replace hb5 := nb_bf hb5) | skip
        refine S_off rfl rfl ?_
        refine S_off rfl rfl ?_
        refine S_val (Y_pickF rfl rfl) ?_
        refine S_nl rfl rfl ?_
        refine th_n (hK21 _ _ ?_)
        clear hK21 K21
        refine S_ifF rfl ?_
        refine wp_skip ?_
        refine ib_n ?_
        refine th_n (hK14 _ _ ?_)
        clear hK14 K14
        refine Sb 59 rfl ?_  -- 10
        refine S_val (Y_move rfl) ?_
        refine S_val (Y_inc rfl rfl (by omega)) ?_
        refine S_val (Y_assign rfl) ?_
        refine S_nl rfl rfl ?_
        refine th_n ?_
        go_roundw  -- e4 of L1
        case rel =>
         refine ⟨?_, GL8⟩
         exact ⟨k + 1, rfl, by omega⟩
        case measure =>
         exact dec_nat (by omega)
    · -- c3F
     replace hb3 := nb_tf hb3
     refine wp_exit ?_
     refine th_x ?_
     try clear GL8
     refine th_x ?_
     refine ib_e ?_
     refine th_n (hK10 _ _ ?_)
     clear hK12 K12 hK10 K10
     refine wp_seq_k fun K22 hK22 => ?_
     refine Sb 59 rfl ?_  -- 18
     refine S_call rfl en20 (laws_alive_c _) ?_  -- k6 laws.alive
     rintro v10 w10 ⟨rfl, g10⟩
     replace hA := hA.grow g10
     replace hDA := hDA.grow g10
     replace hDB := hDB.grow g10
     replace hRx := hRx.grow g10
     replace hRs := hRs.grow g10
     replace hRl := hRl.grow g10
     replace G := G.grow g10
     replace B2 := B2.grow g10
     have zg10 := g10.size
     refine S_val (Y_assign rfl) ?_
     refine S_nl rfl rfl ?_
     refine th_n (hK22 _ _ ?_)
     clear hK22 K22
     refine wp_ret ?_
     refine ret_r1 rfl rfl ?_  -- r2
     exact ⟨rfl, G⟩

end Go.Proofs.Ytikgflhepclfgab
