/-
  Walks: the validity of heaps.
  Conditions: those that each theorem states.
-/
import Derived.Test.YtjmfdmndchoplaaTy
import Derived.Test.YtjmfdmndchoplaaWalkA
import Derived.Test.YtjmfdmndchoplaaPlain
namespace Go.Proofs.Ytjmfdmndchoplaa
open Go Go.RowKit
attribute [local irreducible] wpList wpAnyH Code.wp dOp

set_option maxHeartbeats 400000 in
set_option maxRecDepth 20000 in
theorem spec_l1In_c (n lo hi : Int) (w : World) :
    Calls Try.prog 44 #[.int .i64 n, .int .i64 lo, .int .i64 hi] w (Ret fun v w' => v = .bool (decide (lo ≤ n ∧ n ≤ hi)) ∧ w' = w) := by
 refine enter Try.func44 rfl Try.ntmps44 (L := [_,_,_,_,_,_,_,_,_,_,_,_,_,_,_]) rfl ?_
 have G := Mod.refl No w
 refine wp_seq_k fun K1 hK1 => ?_
 refine Sb 15 rfl ?_  -- 0
 refine S_val (Y_assign rfl) ?_
 refine S_nl rfl rfl ?_
 refine th_n (hK1 _ _ ?_)
 clear hK1 K1
 refine wp_seq_k fun K2 hK2 => ?_
 refine Sb 15 rfl ?_  -- 1
 refine S_val (Y_move rfl) ?_
 refine S_val (Y_move rfl) ?_
 refine S_val (Y_geq rfl rfl) ?_
 refine S_val (Y_move rfl) ?_
 refine S_g 10 rfl (fun hb1 => ?_) (fun hb1 => ?_)  -- g1
 · -- g1T
  replace hb1 := nb_tt hb1
  refine S_on rfl rfl ?_
  refine S_val (Y_move rfl) ?_
  refine S_on rfl rfl ?_
  refine S_val (Y_move rfl) ?_
  refine S_on rfl rfl ?_
  refine S_val (Y_leq rfl rfl) ?_
  refine S_val (Y_pickT rfl rfl) ?_
  refine S_val (Y_assign rfl) ?_
  refine S_nl rfl rfl ?_
  refine th_n (hK2 _ _ ?_)
  clear hK2 K2
  refine wp_ret ?_
  refine ret_r1 rfl rfl ?_  -- r1
  first | exact ⟨bT (by omega), rfl⟩ | exact ⟨bF (by omega), rfl⟩ | exact ⟨bI (by omega), rfl⟩
 · -- g1F
  replace hb1 := nb_tf hb1
  refine S_off rfl rfl ?_
  refine S_off rfl rfl ?_
  refine S_off rfl rfl ?_
  refine S_val (Y_pickF rfl rfl) ?_
  refine S_val (Y_assign rfl) ?_
  refine S_nl rfl rfl ?_
  refine th_n (hK2 _ _ ?_)
  clear hK2 K2
  refine wp_ret ?_
  refine ret_r1 rfl rfl ?_  -- r2
  first | exact ⟨bT (by omega), rfl⟩ | exact ⟨bF (by omega), rfl⟩ | exact ⟨bI (by omega), rfl⟩

set_option maxHeartbeats 400000 in
set_option maxRecDepth 20000 in
theorem impl_leads_c (Pr : Nat → Prop) (A B : Option Addr) (h : LH) (c d : Nat) (w : World) (hA : RC Pr w A h.cells) (r : Int) :
    Calls Try.prog 87 #[.agg #[.slice A h.cells.length c, .slice B h.roots.length d], .int .i64 r] w (Ret fun v w' => v = .bool (leadsB h.cells r) ∧ Grow w w') := by
 refine enter Try.func87 rfl Try.ntmps87 (L := [_,_,_,_,_,_,_,_,_,_,_,_,_,_,_,_,_,_,_,_,_,_,_,_,_,_]) rfl ?_
 have G := Mod.refl No w
 have hA0 := hA
 refine wp_seq_k fun K1 hK1 => ?_
 refine Sb 26 rfl ?_  -- 0
 refine S_box (cs := [_, _]) rfl rfl ?_
 intro b1 w1 fb1 g1 B1
 have lb1 := B1.lt
 replace hA := hA.grow g1
 replace G := G.grow g1
 have zg1 := g1.size
 refine S_val (Y_assign rfl) ?_
 refine S_nl rfl rfl ?_
 refine th_n (hK1 _ _ ?_)
 clear hK1 K1
 refine wp_seq_k fun K2 hK2 => ?_
 refine Sb 26 rfl ?_  -- 1
 refine S_val (Y_move rfl) ?_
 refine S_val (Y_eql rfl rfl) ?_
 refine S_val (Y_move rfl) ?_
 refine S_g 7 rfl (fun hb1 => ?_) (fun hb1 => ?_)  -- g1
 · -- g1T
  replace hb1 := nb_tt hb1
  refine S_off rfl rfl ?_
  refine S_off rfl rfl ?_
  refine S_off rfl rfl ?_
  refine S_offU rfl rfl ?_
  refine S_offU rfl rfl ?_
  refine S_offU rfl rfl ?_
  refine S_offU rfl rfl ?_
  refine S_offU rfl rfl ?_
  refine S_off rfl rfl ?_
  refine S_off rfl rfl ?_
  refine S_offU rfl rfl ?_
  refine S_offU rfl rfl ?_
  refine S_offU rfl rfl ?_
  refine S_offU rfl rfl ?_
  refine S_offU rfl rfl ?_
  refine S_offU rfl rfl ?_
  refine S_off rfl rfl ?_
  refine S_val (Y_pickT rfl rfl) ?_
  refine S_val (Y_assign rfl) ?_
  refine S_nl rfl rfl ?_
  refine th_n (hK2 _ _ ?_)
  clear hK2 K2
  refine wp_ret ?_
  refine ret_r1 rfl rfl ?_  -- r1
  exact ⟨congrArg Value.bool (by first | (subst hb1; exact (leadsB_m1 _).symm) | exact (leadsB_at (by omega)).symm | exact (leadsB_no hb1 (by omega)).symm), G⟩
 · -- g1F
  replace hb1 := nb_tf hb1
  refine S_on rfl rfl ?_
  refine S_val (Y_move rfl) ?_
  refine S_on rfl rfl ?_
  refine S_val (Y_geq rfl rfl) ?_
  refine S_on rfl rfl ?_
  refine S_val (Y_move rfl) ?_
  refine S_g 10 rfl (fun hb2 => ?_) (fun hb2 => ?_)  -- g2
  · -- g2T
   replace hb2 := nb_tt hb2
   obtain ⟨n, rfl⟩ := Int.eq_ofNat_of_zero_le hb2
   refine S_on rfl rfl ?_
   refine S_val (Y_move rfl) ?_
   refine S_on rfl rfl ?_
   refine S_val (Y_field Try.underlying25 rfl fz25_0 (by decide) rfl) ?_
   refine S_on rfl rfl ?_
   refine S_val (Y_load Try.underlying23 rfl rfl (B1.at (by rfl))) ?_  -- l1
   refine S_on rfl rfl ?_
   refine S_val (Y_len Try.underlying23 rfl) ?_
   refine S_on rfl rfl ?_
   refine S_val (Y_lss rfl rfl) ?_
   refine S_on rfl rfl ?_
   refine S_val (Y_pickT rfl rfl) ?_
   refine S_on rfl rfl ?_
   refine S_val (Y_move rfl) ?_
   refine S_g 17 rfl (fun hb3 => ?_) (fun hb3 => ?_)  -- g3
   · -- g3T
    first | with_reducible (replace hb3 := nb_nt hb3) | with_reducible (replace hb3 := nb_tt hb3) | with_reducible (replace hb3 := nb_bt hb3) | skip
    obtain ⟨g1, o1, E1, d1, rfl, hp1, cc1, _⟩ := hA.cell (k := n) (by omega)
    refine S_on rfl rfl ?_
    refine S_val (Y_field Try.underlying25 rfl fz25_0 (by decide) rfl) ?_
    refine S_on rfl rfl ?_
    refine S_val (Y_load Try.underlying23 rfl rfl (B1.at (by rfl))) ?_  -- l2
    refine S_on rfl rfl ?_
    refine S_val (Y_move rfl) ?_
    refine S_on rfl rfl ?_
    refine S_val (Y_index Try.underlying23 sz70 rfl rfl (by first | assumption | omega)) ?_
    refine S_on rfl rfl ?_
    refine S_val (Y_field Try.underlying70 rfl fz70_0 (by decide) rfl) ?_
    refine S_on rfl rfl ?_
    refine S_val (Y_load Try.underlying4 rfl rfl (by first | assumption | exact cc1.at (by rfl) | exact B1.at (by rfl))) ?_  -- l3
    refine S_on rfl rfl ?_
    refine S_val (Y_pickT rfl rfl) ?_
    refine S_val (Y_pickF rfl rfl) ?_
    refine S_val (Y_assign rfl) ?_
    refine S_nl rfl rfl ?_
    refine th_n (hK2 _ _ ?_)
    clear hK2 K2
    refine wp_ret ?_
    refine ret_r1 rfl rfl ?_  -- r2
    exact ⟨congrArg Value.bool (by first | (subst hb1; exact (leadsB_m1 _).symm) | exact (leadsB_at (by omega)).symm | exact (leadsB_no hb1 (by omega)).symm), G⟩
   · -- g3F
    first | with_reducible (replace hb3 := nb_nf hb3) | with_reducible (replace hb3 := nb_tf hb3) | with_reducible (replace hb3 := nb_bf hb3) | skip
    refine S_off rfl rfl ?_
    refine S_off rfl rfl ?_
    refine S_off rfl rfl ?_
    refine S_off rfl rfl ?_
    refine S_off rfl rfl ?_
    refine S_off rfl rfl ?_
    refine S_on rfl rfl ?_
    refine S_val (Y_pickF rfl rfl) ?_
    refine S_val (Y_pickF rfl rfl) ?_
    refine S_val (Y_assign rfl) ?_
    refine S_nl rfl rfl ?_
    refine th_n (hK2 _ _ ?_)
    clear hK2 K2
    refine wp_ret ?_
    refine ret_r1 rfl rfl ?_  -- r3
    exact ⟨congrArg Value.bool (by first | (subst hb1; exact (leadsB_m1 _).symm) | exact (leadsB_at (by omega)).symm | exact (leadsB_no hb1 (by omega)).symm), G⟩
  · -- g2F
   replace hb2 := nb_tf hb2
   refine S_off rfl rfl ?_
   refine S_off rfl rfl ?_
   refine S_off rfl rfl ?_
   refine S_off rfl rfl ?_
   refine S_off rfl rfl ?_
   refine S_on rfl rfl ?_
   refine S_val (Y_pickF rfl rfl) ?_
   refine S_on rfl rfl ?_
   refine S_val (Y_move rfl) ?_
   refine S_off rfl rfl ?_
   refine S_off rfl rfl ?_
   refine S_off rfl rfl ?_
   refine S_off rfl rfl ?_
   refine S_off rfl rfl ?_
   refine S_off rfl rfl ?_
   refine S_on rfl rfl ?_
   refine S_val (Y_pickF rfl rfl) ?_
   refine S_val (Y_pickF rfl rfl) ?_
   refine S_val (Y_assign rfl) ?_
   refine S_nl rfl rfl ?_
   refine th_n (hK2 _ _ ?_)
   clear hK2 K2
   refine wp_ret ?_
   refine ret_r1 rfl rfl ?_  -- r4
   exact ⟨congrArg Value.bool (by first | (subst hb1; exact (leadsB_m1 _).symm) | exact (leadsB_at (by omega)).symm | exact (leadsB_no hb1 (by omega)).symm), G⟩

set_option maxHeartbeats 400000 in
set_option maxRecDepth 20000 in
theorem impl_cellValid_c (Pr : Nat → Prop) (A B : Option Addr) (h : LH) (c d : Nat) (w : World) (hA : RC Pr w A h.cells) (x : LC) (E : Option Addr) (e : Nat) (hE : R1 Pr w E (ints x.refs)) (hx : x.refs.length ≤ 1048576) :
    Calls Try.prog 86 #[.agg #[.slice A h.cells.length c, .slice B h.roots.length d], .agg #[.bool x.used, .int .i64 x.data, .slice E x.refs.length e]] w (Ret fun v w' => v = .bool (okB h.cells x) ∧ Grow w w') := by
 refine enter Try.func86 rfl Try.ntmps86 (L := [_,_,_,_,_,_,_,_,_,_,_,_,_,_,_,_,_,_,_,_,_,_,_,_,_,_,_,_,_,_,_,_,_,_,_,_,_,_,_,_,_,_,_,_,_]) rfl ?_
 have G := Mod.refl No w
 have hA0 := hA
 have hE0 := hE
 refine wp_seq_k fun K1 hK1 => ?_
 refine Sb 45 rfl ?_  -- 0
 refine S_box (cs := [_, _]) rfl rfl ?_
 intro b1 w1 fb1 g1 B1
 have lb1 := B1.lt
 replace hA := hA.grow g1
 replace hE := hE.grow g1
 replace G := G.grow g1
 have zg1 := g1.size
 refine S_box (cs := [_, _, _]) rfl rfl ?_
 intro b2 w2 fb2 g2 B2
 have lb2 := B2.lt
 replace hA := hA.grow g2
 replace hE := hE.grow g2
 replace G := G.grow g2
 replace B1 := B1.grow g2
 have zg2 := g2.size
 refine S_val (Y_assign rfl) ?_
 refine S_nl rfl rfl ?_
 refine th_n (hK1 _ _ ?_)
 clear hK1 K1
 refine wp_seq_k fun K2 hK2 => ?_
 refine wp_seq_k fun K3 hK3 => ?_
 refine Sb 45 rfl ?_  -- 1
 refine S_val (Y_field Try.underlying70 rfl fz70_0 (by decide) rfl) ?_
 refine S_val (Y_load Try.underlying4 rfl rfl (B2.at (by rfl))) ?_  -- l1
 refine S_val (Y_not rfl) ?_
 refine S_nl rfl rfl ?_
 refine th_n (hK3 _ _ ?_)
 clear hK3 K3
 refine S_if rfl (fun hb1 => ?_) (fun hb1 => ?_)  -- c1
 · -- c1T
  first | with_reducible (replace hb1 := nb_nt hb1) | with_reducible (replace hb1 := nb_tt hb1) | with_reducible (replace hb1 := nb_bt hb1) | skip
  refine wp_seq_k fun K4 hK4 => ?_
  refine Sb 45 rfl ?_  -- 2
  refine S_val (Y_field Try.underlying70 rfl fz70_1 (by decide) rfl) ?_
  refine S_val (Y_load Try.underlying3 rfl rfl (B2.at (by rfl))) ?_  -- l2
  refine S_val (Y_eql rfl rfl) ?_
  refine S_val (Y_move rfl) ?_
  refine S_g 13 rfl (fun hb2 => ?_) (fun hb2 => ?_)  -- g1
  · -- g1T
   replace hb2 := nb_tt hb2
   refine S_on rfl rfl ?_
   refine S_val (Y_field Try.underlying70 rfl fz70_2 (by decide) rfl) ?_
   refine S_on rfl rfl ?_
   refine S_val (Y_load Try.underlying22 rfl rfl (B2.at (by rfl))) ?_  -- l3
   refine S_on rfl rfl ?_
   refine S_val (Y_len Try.underlying22 rfl) ?_
   refine S_on rfl rfl ?_
   refine S_val (Y_eql rfl rfl) ?_
   refine S_val (Y_pickT rfl rfl) ?_
   refine S_val (Y_assign rfl) ?_
   refine S_nl rfl rfl ?_
   refine th_n (hK4 _ _ ?_)
   clear hK4 K4
   refine wp_ret ?_
   refine th_r ?_
   clear hK2 K2
   refine ret_r1 rfl rfl ?_  -- r1
   exact ⟨by unfold okB; first | (rw [decide_eq_decide.2 (okP_n (by assumption))]; first | exact bI (by omega) | exact bF (by omega)) | (rw [decide_eq_decide.2 (okP_u (by assumption))]; first | exact bI (by simp only [hall, true_and]; omega) | exact bF (by omega) | exact bF (fun h => all_false (by omega) hb3 h.1)), G⟩
  · -- g1F
   replace hb2 := nb_tf hb2
   refine S_off rfl rfl ?_
   refine S_off rfl rfl ?_
   refine S_off rfl rfl ?_
   refine S_off rfl rfl ?_
   refine S_val (Y_pickF rfl rfl) ?_
   refine S_val (Y_assign rfl) ?_
   refine S_nl rfl rfl ?_
   refine th_n (hK4 _ _ ?_)
   clear hK4 K4
   refine wp_ret ?_
   refine th_r ?_
   clear hK2 K2
   refine ret_r1 rfl rfl ?_  -- r2
   exact ⟨by unfold okB; first | (rw [decide_eq_decide.2 (okP_n (by assumption))]; first | exact bI (by omega) | exact bF (by omega)) | (rw [decide_eq_decide.2 (okP_u (by assumption))]; first | exact bI (by simp only [hall, true_and]; omega) | exact bF (by omega) | exact bF (fun h => all_false (by omega) hb3 h.1)), G⟩
 · -- c1F
  first | with_reducible (replace hb1 := nb_nf hb1) | with_reducible (replace hb1 := nb_tf hb1) | with_reducible (replace hb1 := nb_bf hb1) | skip
  refine wp_skip ?_
  refine th_n (hK2 _ _ ?_)
  clear hK2 K2
  refine wp_seq_k fun K5 hK5 => ?_
  refine wp_seq_k fun K6 hK6 => ?_
  refine Sb 45 rfl ?_  -- 3
  refine S_val (Y_field Try.underlying70 rfl fz70_2 (by decide) rfl) ?_
  refine S_val (Y_load Try.underlying22 rfl rfl (B2.at (by rfl))) ?_  -- l4
  refine S_val (Y_len Try.underlying22 rfl) ?_
  refine S_val (Y_move rfl) ?_
  refine S_nl rfl rfl ?_
  refine th_n (hK6 _ _ ?_)
  clear hK6 K6
  refine wp_block ?_
  go_loopw [22] (fun u22 wr => (∃ k : Nat, u22 = .int .i64 k ∧ k ≤ x.refs.length ∧ (x.refs.take k).all (leadsB h.cells) = true) ∧ Mod No w2 wr) (fun u22 wr => x.refs.length - (intOf u22).toNat)  -- L1
  case atStart =>
   refine ⟨?_, Mod.refl _ _⟩
   exact ⟨0, rfl, by omega, by simp⟩
  case round =>
   obtain ⟨w3, rfl⟩ : ∃ x : World, x = wr := ⟨_, rfl⟩
   obtain ⟨hrel, g3⟩ := hrel
   replace hA := hA.grow g3
   replace hE := hE.grow g3
   replace G := G.grow g3
   replace B1 := B1.grow g3
   replace B2 := B2.grow g3
   have zg3 := g3.size
   obtain ⟨k, rfl, hk, hs⟩ := hrel
   have GL3 := g3
   refine wp_seq_k fun K7 hK7 => ?_
   refine Sb 45 rfl ?_  -- 4
   refine S_val (Y_lss rfl rfl) ?_
   refine S_nl rfl rfl ?_
   refine th_n (hK7 _ _ ?_)
   clear hK7 K7
   refine wp_seq_k fun K8 hK8 => ?_
   refine S_if rfl (fun hb2 => ?_) (fun hb2 => ?_)  -- c2
   · -- c2T
    replace hb2 := nb_tt hb2
    obtain ⟨g1, o1, rfl, hp1, hc1⟩ := hE.int (k := k) (by omega)
    refine wp_skip ?_
    refine th_n (hK8 _ _ ?_)
    clear hK8 K8
    refine wp_seq_k fun K9 hK9 => ?_
    refine wp_block ?_
    refine wp_seq_k fun K10 hK10 => ?_
    refine Sb 45 rfl ?_  -- 5
    refine S_val (Y_index Try.underlying22 sz3 rfl rfl (by first | assumption | omega)) ?_
    refine S_val (Y_load Try.underlying3 rfl rfl (by first | assumption | exact B1.at (by rfl) | exact B2.at (by rfl))) ?_  -- l5
    refine S_val (Y_assign rfl) ?_
    refine S_nl rfl rfl ?_
    refine th_n (hK10 _ _ ?_)
    clear hK10 K10
    refine wp_seq_k fun K11 hK11 => ?_
    refine Sb 45 rfl ?_  -- 6
    refine S_val (Y_loadS Try.underlying25 rfl sz25 rfl (B1.row (by rfl))) ?_  -- l6
    refine S_val (Y_move rfl) ?_
    refine S_call rfl en87 (impl_leads_c _ _ _ _ _ _ _ (by assumption) _) ?_  -- k1 impl.leads
    rintro v4 w4 ⟨rfl, g4⟩
    replace hA := hA.grow g4
    replace hE := hE.grow g4
    replace G := G.grow g4
    replace GL3 := GL3.grow g4
    replace B1 := B1.grow g4
    replace B2 := B2.grow g4
    have zg4 := g4.size
    refine S_val (Y_not rfl) ?_
    refine S_nl rfl rfl ?_
    refine th_n (hK11 _ _ ?_)
    clear hK11 K11
    refine S_if rfl (fun hb3 => ?_) (fun hb3 => ?_)  -- c3
    · -- c3T
     first | with_reducible (replace hb3 := nb_nt hb3) | with_reducible (replace hb3 := nb_tt hb3) | with_reducible (replace hb3 := nb_bt hb3) | skip
     refine wp_seq_k fun K12 hK12 => ?_
     refine Sb 45 rfl ?_  -- 7
     refine S_val (Y_assign rfl) ?_
     refine S_nl rfl rfl ?_
     refine th_n (hK12 _ _ ?_)
     clear hK12 K12
     refine wp_ret ?_
     refine ib_r ?_
     refine th_r ?_
     clear GL3
     refine th_r ?_
     refine ib_r ?_
     refine th_r ?_
     clear hK9 K9 hK5 K5
     refine ret_r1 rfl rfl ?_  -- r3
     exact ⟨by unfold okB; first | (rw [decide_eq_decide.2 (okP_n (by assumption))]; first | exact bI (by omega) | exact bF (by omega)) | (rw [decide_eq_decide.2 (okP_u (by assumption))]; first | exact bI (by simp only [hall, true_and]; omega) | exact bF (by omega) | exact bF (fun h => all_false (by omega) hb3 h.1)), G⟩
    · -- c3F
     first | with_reducible (replace hb3 := nb_nf hb3) | with_reducible (replace hb3 := nb_tf hb3) | with_reducible (replace hb3 := nb_bf hb3) | skip
     refine wp_skip ?_
     refine ib_n ?_
     refine th_n (hK9 _ _ ?_)
     clear hK9 K9
     refine Sb 45 rfl ?_  -- 8
     refine S_val (Y_inc rfl rfl (by omega)) ?_
     refine S_val (Y_move rfl) ?_
     refine S_nl rfl rfl ?_
     refine th_n ?_
     go_roundw  -- e1 of L1
     case rel =>
      refine ⟨?_, GL3⟩
      exact ⟨k + 1, rfl, by omega, all_take_succ (by omega) hs hb3⟩
     case measure =>
      exact dec_nat (by omega)
   · -- c2F
    replace hb2 := nb_tf hb2
    have hall := all_of_take (by omega) hs
    refine wp_exit ?_
    refine th_x ?_
    clear GL3
    refine th_x ?_
    refine ib_e ?_
    refine th_n (hK5 _ _ ?_)
    clear hK8 K8 hK5 K5
    refine wp_seq_k fun K13 hK13 => ?_
    refine Sb 45 rfl ?_  -- 9
    refine S_val (Y_field Try.underlying70 rfl fz70_1 (by decide) rfl) ?_
    refine S_val (Y_load Try.underlying3 rfl rfl (B2.at (by rfl))) ?_  -- l7
    refine S_val (Y_geq rfl rfl) ?_
    refine S_val (Y_move rfl) ?_
    refine S_g 34 rfl (fun hb3 => ?_) (fun hb3 => ?_)  -- g2
    · -- g2T
     replace hb3 := nb_tt hb3
     refine S_on rfl rfl ?_
     refine S_val (Y_field Try.underlying70 rfl fz70_1 (by decide) rfl) ?_
     refine S_on rfl rfl ?_
     refine S_val (Y_load Try.underlying3 rfl rfl (B2.at (by rfl))) ?_  -- l8
     refine S_on rfl rfl ?_
     refine S_val (Y_leq rfl rfl) ?_
     refine S_val (Y_pickT rfl rfl) ?_
     refine S_val (Y_move rfl) ?_
     refine S_g 39 rfl (fun hb4 => ?_) (fun hb4 => ?_)  -- g3
     · -- g3T
      first | with_reducible (replace hb4 := nb_nt hb4) | with_reducible (replace hb4 := nb_tt hb4) | with_reducible (replace hb4 := nb_bt hb4) | skip
      refine S_on rfl rfl ?_
      refine S_val (Y_field Try.underlying70 rfl fz70_2 (by decide) rfl) ?_
      refine S_on rfl rfl ?_
      refine S_val (Y_load Try.underlying22 rfl rfl (B2.at (by rfl))) ?_  -- l9
      refine S_on rfl rfl ?_
      refine S_val (Y_len Try.underlying22 rfl) ?_
      refine S_on rfl rfl ?_
      refine S_val (Y_leq rfl rfl) ?_
      refine S_val (Y_pickT rfl rfl) ?_
      refine S_val (Y_assign rfl) ?_
      refine S_nl rfl rfl ?_
      refine th_n (hK13 _ _ ?_)
      clear hK13 K13
      refine wp_ret ?_
      refine ret_r1 rfl rfl ?_  -- r4
      exact ⟨by unfold okB; first | (rw [decide_eq_decide.2 (okP_n (by assumption))]; first | exact bI (by omega) | exact bF (by omega)) | (rw [decide_eq_decide.2 (okP_u (by assumption))]; first | exact bI (by simp only [hall, true_and]; omega) | exact bF (by omega) | exact bF (fun h => all_false (by omega) hb3 h.1)), G⟩
     · -- g3F
      first | with_reducible (replace hb4 := nb_nf hb4) | with_reducible (replace hb4 := nb_tf hb4) | with_reducible (replace hb4 := nb_bf hb4) | skip
      refine S_off rfl rfl ?_
      refine S_off rfl rfl ?_
      refine S_off rfl rfl ?_
      refine S_off rfl rfl ?_
      refine S_val (Y_pickF rfl rfl) ?_
      refine S_val (Y_assign rfl) ?_
      refine S_nl rfl rfl ?_
      refine th_n (hK13 _ _ ?_)
      clear hK13 K13
      refine wp_ret ?_
      refine ret_r1 rfl rfl ?_  -- r5
      exact ⟨by unfold okB; first | (rw [decide_eq_decide.2 (okP_n (by assumption))]; first | exact bI (by omega) | exact bF (by omega)) | (rw [decide_eq_decide.2 (okP_u (by assumption))]; first | exact bI (by simp only [hall, true_and]; omega) | exact bF (by omega) | exact bF (fun h => all_false (by omega) hb3 h.1)), G⟩
    · -- g2F
     replace hb3 := nb_tf hb3
     refine S_off rfl rfl ?_
     refine S_off rfl rfl ?_
     refine S_off rfl rfl ?_
     refine S_val (Y_pickF rfl rfl) ?_
     refine S_val (Y_move rfl) ?_
     refine S_off rfl rfl ?_
     refine S_off rfl rfl ?_
     refine S_off rfl rfl ?_
     refine S_off rfl rfl ?_
     refine S_val (Y_pickF rfl rfl) ?_
     refine S_val (Y_assign rfl) ?_
     refine S_nl rfl rfl ?_
     refine th_n (hK13 _ _ ?_)
     clear hK13 K13
     refine wp_ret ?_
     refine ret_r1 rfl rfl ?_  -- r6
     exact ⟨by unfold okB; first | (rw [decide_eq_decide.2 (okP_n (by assumption))]; first | exact bI (by omega) | exact bF (by omega)) | (rw [decide_eq_decide.2 (okP_u (by assumption))]; first | exact bI (by simp only [hall, true_and]; omega) | exact bF (by omega) | exact bF (fun h => all_false (by omega) hb3 h.1)), G⟩

set_option maxHeartbeats 400000 in
set_option maxRecDepth 20000 in
theorem impl_HeapValid_c (Pr : Nat → Prop) (A B : Option Addr) (h : LH) (c d : Nat) (w : World) (hA : RC Pr w A h.cells) (hB : R1 Pr w B (ints h.roots)) (hz : hsize h ≤ 1048576) :
    Calls Try.prog 47 #[.agg #[.slice A h.cells.length c, .slice B h.roots.length d]] w (Ret fun v w' => v = .bool (validB h) ∧ Grow w w') := by
 have hz1 := hsize_cells h
 have hz2 := hsize_roots h
 have hz3 : ∀ k (hk : k < h.cells.length), h.cells[k].refs.length ≤ hsize h := fun k hk => hsize_refs h hk
 refine enter Try.func47 rfl Try.ntmps47 (L := [_,_,_,_,_,_,_,_,_,_,_,_,_,_,_,_,_,_,_,_,_,_,_,_,_,_,_,_,_,_,_,_,_,_,_,_,_,_,_,_,_]) rfl ?_
 have G := Mod.refl No w
 have hA0 := hA
 have hB0 := hB
 refine wp_seq_k fun K1 hK1 => ?_
 refine Sb 41 rfl ?_  -- 0
 refine S_box (cs := [_, _]) rfl rfl ?_
 intro b1 w1 fb1 g1 B1
 have lb1 := B1.lt
 replace hA := hA.grow g1
 replace hB := hB.grow g1
 replace G := G.grow g1
 have zg1 := g1.size
 refine S_val (Y_assign rfl) ?_
 refine S_nl rfl rfl ?_
 refine th_n (hK1 _ _ ?_)
 clear hK1 K1
 refine wp_seq_k fun K2 hK2 => ?_
 refine wp_seq_k fun K3 hK3 => ?_
 refine Sb 41 rfl ?_  -- 1
 refine S_val (Y_field Try.underlying25 rfl fz25_0 (by decide) rfl) ?_
 refine S_val (Y_load Try.underlying23 rfl rfl (B1.at (by rfl))) ?_  -- l1
 refine S_val (Y_len Try.underlying23 rfl) ?_
 refine S_val (Y_gtr rfl rfl) ?_
 refine S_val (Y_move rfl) ?_
 refine S_g 11 rfl (fun hb1 => ?_) (fun hb1 => ?_)  -- g1
 · -- g1T
  replace hb1 := nb_tt hb1
  refine S_off rfl rfl ?_
  refine S_off rfl rfl ?_
  refine S_off rfl rfl ?_
  refine S_off rfl rfl ?_
  refine S_val (Y_pickT rfl rfl) ?_
  refine S_nl rfl rfl ?_
  refine th_n (hK3 _ _ ?_)
  clear hK3 K3
  refine S_ifT rfl ?_
  refine wp_seq_k fun K4 hK4 => ?_
  refine Sb 41 rfl ?_  -- 2
  refine S_val (Y_assign rfl) ?_
  refine S_nl rfl rfl ?_
  refine th_n (hK4 _ _ ?_)
  clear hK4 K4
  refine wp_ret ?_
  refine th_r ?_
  clear hK2 K2
  refine ret_r1 rfl rfl ?_  -- r1
  exact ⟨bF (by omega), G⟩
 · -- g1F
  replace hb1 := nb_tf hb1
  refine S_on rfl rfl ?_
  refine S_val (Y_field Try.underlying25 rfl fz25_1 (by decide) rfl) ?_
  refine S_on rfl rfl ?_
  refine S_val (Y_load Try.underlying22 rfl rfl (B1.at (by rfl))) ?_  -- l2
  refine S_on rfl rfl ?_
  refine S_val (Y_len Try.underlying22 rfl) ?_
  refine S_on rfl rfl ?_
  refine S_val (Y_neq rfl rfl) ?_
  refine S_val (Y_pickF rfl rfl) ?_
  refine S_nl rfl rfl ?_
  refine th_n (hK3 _ _ ?_)
  clear hK3 K3
  refine S_if rfl (fun hb2 => ?_) (fun hb2 => ?_)  -- c1
  · -- c1T
   first | with_reducible (replace hb2 := nb_nt hb2) | with_reducible (replace hb2 := nb_tt hb2) | with_reducible (replace hb2 := nb_bt hb2) | skip
   refine wp_seq_k fun K5 hK5 => ?_
   refine Sb 41 rfl ?_  -- 2
   refine S_val (Y_assign rfl) ?_
   refine S_nl rfl rfl ?_
   refine th_n (hK5 _ _ ?_)
   clear hK5 K5
   refine wp_ret ?_
   refine th_r ?_
   clear hK2 K2
   refine ret_r1 rfl rfl ?_  -- r2
   exact ⟨bF (by omega), G⟩
  · -- c1F
   first | with_reducible (replace hb2 := nb_nf hb2) | with_reducible (replace hb2 := nb_tf hb2) | with_reducible (replace hb2 := nb_bf hb2) | skip
   refine wp_skip ?_
   refine th_n (hK2 _ _ ?_)
   clear hK2 K2
   refine wp_seq_k fun K6 hK6 => ?_
   refine wp_seq_k fun K7 hK7 => ?_
   refine Sb 41 rfl ?_  -- 3
   refine S_val (Y_field Try.underlying25 rfl fz25_0 (by decide) rfl) ?_
   refine S_val (Y_load Try.underlying23 rfl rfl (B1.at (by rfl))) ?_  -- l3
   refine S_val (Y_len Try.underlying23 rfl) ?_
   refine S_val (Y_move rfl) ?_
   refine S_nl rfl rfl ?_
   refine th_n (hK7 _ _ ?_)
   clear hK7 K7
   refine wp_block ?_
   go_loopw [20] (fun u20 wr => (∃ k : Nat, u20 = .int .i64 k ∧ k ≤ h.cells.length ∧ (h.cells.take k).all (okB h.cells) = true) ∧ Mod No w1 wr) (fun u20 wr => h.cells.length - (intOf u20).toNat)  -- L1
   case atStart =>
    refine ⟨?_, Mod.refl _ _⟩
    exact ⟨0, rfl, by omega, by simp⟩
   case round =>
    obtain ⟨w2, rfl⟩ : ∃ x : World, x = wr := ⟨_, rfl⟩
    obtain ⟨hrel, g2⟩ := hrel
    replace hA := hA.grow g2
    replace hB := hB.grow g2
    replace G := G.grow g2
    replace B1 := B1.grow g2
    have zg2 := g2.size
    obtain ⟨k, rfl, hk, hs⟩ := hrel
    have GL2 := g2
    refine wp_seq_k fun K8 hK8 => ?_
    refine Sb 41 rfl ?_  -- 4
    refine S_val (Y_lss rfl rfl) ?_
    refine S_nl rfl rfl ?_
    refine th_n (hK8 _ _ ?_)
    clear hK8 K8
    refine wp_seq_k fun K9 hK9 => ?_
    refine S_if rfl (fun hb3 => ?_) (fun hb3 => ?_)  -- c2
    · -- c2T
     replace hb3 := nb_tt hb3
     have hk2 : k < h.cells.length := by omega
     obtain ⟨g2, o2, E2, d2, rfl, hp2, cc20, hE20⟩ := hA0.cell hk2
     have hz4 := hz3 k hk2
     have cc2 := cc20.grow G
     have hE2 := hE20.grow G
     refine wp_skip ?_
     refine th_n (hK9 _ _ ?_)
     clear hK9 K9
     refine wp_seq_k fun K10 hK10 => ?_
     refine wp_block ?_
     refine wp_seq_k fun K11 hK11 => ?_
     refine Sb 41 rfl ?_  -- 5
     refine S_val (Y_index Try.underlying23 sz70 rfl rfl (by first | assumption | omega)) ?_
     refine S_val (Y_loadS Try.underlying70 rfl sz70 rfl (by first | assumption | exact B1.row (by rfl))) ?_  -- l4
     refine S_alloc (cs := [_, _, _]) zr70 rfl ?_
     intro b3 w3 fb3 g3 B3
     have lb3 := B3.lt
     replace hA := hA.grow g3
     replace hB := hB.grow g3
     replace cc2 := cc2.grow g3
     replace hE2 := hE2.grow g3
     replace G := G.grow g3
     replace GL2 := GL2.grow g3
     replace B1 := B1.grow g3
     have zg3 := g3.size
     refine S_stM (pre := []) (old := [_, _, _]) (post := []) (vs := [_, _, _]) sz70 rfl rfl rfl (by first | rfl | assumption) B3 rfl rfl ?_
     intro w4 m4 X4
     replace B3 := Blk.eq (ys := [_, _, _]) X4 rfl
     clear X4
     replace G := G.abv m4
     replace GL2 := GL2.abv m4
     replace hA := hA0.grow G
     replace hB := hB0.grow G
     replace cc2 := cc20.grow G
     replace hE2 := hE20.grow G
     replace B1 := B1.md m4
     have zm4 := m4.size
     refine S_nl rfl rfl ?_
     refine th_n (hK11 _ _ ?_)
     clear hK11 K11
     refine wp_seq_k fun K12 hK12 => ?_
     refine Sb 41 rfl ?_  -- 6
     refine S_val (Y_loadS Try.underlying25 rfl sz25 rfl (B1.row (by rfl))) ?_  -- l5
     refine S_val (Y_loadS Try.underlying70 rfl sz70 rfl (B3.row (by rfl))) ?_  -- l6
     refine S_call rfl en86 (impl_cellValid_c _ _ _ _ _ _ _ (by assumption) _ _ _ (by assumption) (by omega)) ?_  -- k1 impl.cellValid
     rintro v5 w5 ⟨rfl, g5⟩
     replace hA := hA.grow g5
     replace hB := hB.grow g5
     replace cc2 := cc2.grow g5
     replace hE2 := hE2.grow g5
     replace G := G.grow g5
     replace GL2 := GL2.grow g5
     replace B1 := B1.grow g5
     replace B3 := B3.grow g5
     have zg5 := g5.size
     refine S_val (Y_not rfl) ?_
     refine S_nl rfl rfl ?_
     refine th_n (hK12 _ _ ?_)
     clear hK12 K12
     refine S_if rfl (fun hb4 => ?_) (fun hb4 => ?_)  -- c3
     · -- c3T
      first | with_reducible (replace hb4 := nb_nt hb4) | with_reducible (replace hb4 := nb_tt hb4) | with_reducible (replace hb4 := nb_bt hb4) | skip
      refine wp_seq_k fun K13 hK13 => ?_
      refine Sb 41 rfl ?_  -- 7
      refine S_val (Y_assign rfl) ?_
      refine S_nl rfl rfl ?_
      refine th_n (hK13 _ _ ?_)
      clear hK13 K13
      refine wp_ret ?_
      refine ib_r ?_
      refine th_r ?_
      clear GL2
      refine th_r ?_
      refine ib_r ?_
      refine th_r ?_
      clear hK10 K10 hK6 K6
      refine ret_r1 rfl rfl ?_  -- r3
      exact ⟨bF (fun e => all_false (by omega) hb4 e.2.2.1), G⟩
     · -- c3F
      first | with_reducible (replace hb4 := nb_nf hb4) | with_reducible (replace hb4 := nb_tf hb4) | with_reducible (replace hb4 := nb_bf hb4) | skip
      refine wp_skip ?_
      refine ib_n ?_
      refine th_n (hK10 _ _ ?_)
      clear hK10 K10
      refine Sb 41 rfl ?_  -- 8
      refine S_val (Y_inc rfl rfl (by omega)) ?_
      refine S_val (Y_move rfl) ?_
      refine S_nl rfl rfl ?_
      refine th_n ?_
      go_roundw  -- e1 of L1
      case rel =>
       refine ⟨?_, GL2⟩
       exact ⟨k + 1, rfl, by omega, all_take_succ (by omega) hs hb4⟩
      case measure =>
       exact dec_nat (by omega)
    · -- c2F
     replace hb3 := nb_tf hb3
     have hall := all_of_take (by omega) hs
     refine wp_exit ?_
     refine th_x ?_
     clear GL2
     refine th_x ?_
     refine ib_e ?_
     refine th_n (hK6 _ _ ?_)
     clear hK9 K9 hK6 K6
     refine wp_seq_k fun K14 hK14 => ?_
     refine wp_seq_k fun K15 hK15 => ?_
     refine Sb 41 rfl ?_  -- 9
     refine S_val (Y_field Try.underlying25 rfl fz25_1 (by decide) rfl) ?_
     refine S_val (Y_load Try.underlying22 rfl rfl (B1.at (by rfl))) ?_  -- l7
     refine S_val (Y_len Try.underlying22 rfl) ?_
     refine S_val (Y_move rfl) ?_
     refine S_nl rfl rfl ?_
     refine th_n (hK15 _ _ ?_)
     clear hK15 K15
     refine wp_block ?_
     go_loopw [32] (fun u32 wr => (∃ k : Nat, u32 = .int .i64 k ∧ k ≤ h.roots.length ∧ (h.roots.take k).all (leadsB h.cells) = true) ∧ Mod No w2 wr) (fun u32 wr => h.roots.length - (intOf u32).toNat)  -- L2
     case atStart =>
      refine ⟨?_, Mod.refl _ _⟩
      exact ⟨0, rfl, by omega, by simp⟩
     case round =>
      obtain ⟨w6, rfl⟩ : ∃ x : World, x = wr := ⟨_, rfl⟩
      obtain ⟨hrel, g6⟩ := hrel
      replace hA := hA.grow g6
      replace hB := hB.grow g6
      replace G := G.grow g6
      replace B1 := B1.grow g6
      have zg6 := g6.size
      obtain ⟨k2, rfl, hk2, hs2⟩ := hrel
      have GL6 := g6
      refine wp_seq_k fun K16 hK16 => ?_
      refine Sb 41 rfl ?_  -- 10
      refine S_val (Y_lss rfl rfl) ?_
      refine S_nl rfl rfl ?_
      refine th_n (hK16 _ _ ?_)
      clear hK16 K16
      refine wp_seq_k fun K17 hK17 => ?_
      refine S_if rfl (fun hb4 => ?_) (fun hb4 => ?_)  -- c4
      · -- c4T
       replace hb4 := nb_tt hb4
       obtain ⟨g3, o3, rfl, hp3, hc3⟩ := hB.int (k := k2) (by omega)
       refine wp_skip ?_
       refine th_n (hK17 _ _ ?_)
       clear hK17 K17
       refine wp_seq_k fun K18 hK18 => ?_
       refine wp_block ?_
       refine wp_seq_k fun K19 hK19 => ?_
       refine Sb 41 rfl ?_  -- 11
       refine S_val (Y_index Try.underlying22 sz3 rfl rfl (by first | assumption | omega)) ?_
       refine S_val (Y_load Try.underlying3 rfl rfl (by first | assumption | exact B1.at (by rfl))) ?_  -- l8
       refine S_val (Y_assign rfl) ?_
       refine S_nl rfl rfl ?_
       refine th_n (hK19 _ _ ?_)
       clear hK19 K19
       refine wp_seq_k fun K20 hK20 => ?_
       refine Sb 41 rfl ?_  -- 12
       refine S_val (Y_loadS Try.underlying25 rfl sz25 rfl (B1.row (by rfl))) ?_  -- l9
       refine S_val (Y_move rfl) ?_
       refine S_call rfl en87 (impl_leads_c _ _ _ _ _ _ _ (by assumption) _) ?_  -- k2 impl.leads
       rintro v7 w7 ⟨rfl, g7⟩
       replace hA := hA.grow g7
       replace hB := hB.grow g7
       replace G := G.grow g7
       replace GL6 := GL6.grow g7
       replace B1 := B1.grow g7
       have zg7 := g7.size
       refine S_val (Y_not rfl) ?_
       refine S_nl rfl rfl ?_
       refine th_n (hK20 _ _ ?_)
       clear hK20 K20
       refine S_if rfl (fun hb5 => ?_) (fun hb5 => ?_)  -- c5
       · -- c5T
        first | with_reducible (replace hb5 := nb_nt hb5) | with_reducible (replace hb5 := nb_tt hb5) | with_reducible (replace hb5 := nb_bt hb5) | skip
        refine wp_seq_k fun K21 hK21 => ?_
        refine Sb 41 rfl ?_  -- 13
        refine S_val (Y_assign rfl) ?_
        refine S_nl rfl rfl ?_
        refine th_n (hK21 _ _ ?_)
        clear hK21 K21
        refine wp_ret ?_
        refine ib_r ?_
        refine th_r ?_
        clear GL6
        refine th_r ?_
        refine ib_r ?_
        refine th_r ?_
        clear hK18 K18 hK14 K14
        refine ret_r1 rfl rfl ?_  -- r4
        exact ⟨bF (fun e => all_false (by omega) hb5 e.2.2.2), G⟩
       · -- c5F
        first | with_reducible (replace hb5 := nb_nf hb5) | with_reducible (replace hb5 := nb_tf hb5) | with_reducible (replace hb5 := nb_bf hb5) | skip
        refine wp_skip ?_
        refine ib_n ?_
        refine th_n (hK18 _ _ ?_)
        clear hK18 K18
        refine Sb 41 rfl ?_  -- 14
        refine S_val (Y_inc rfl rfl (by omega)) ?_
        refine S_val (Y_move rfl) ?_
        refine S_nl rfl rfl ?_
        refine th_n ?_
        go_roundw  -- e2 of L2
        case rel =>
         refine ⟨?_, GL6⟩
         exact ⟨k2 + 1, rfl, by omega, all_take_succ (by omega) hs2 hb5⟩
        case measure =>
         exact dec_nat (by omega)
      · -- c4F
       replace hb4 := nb_tf hb4
       have hall2 := all_of_take (by omega) hs2
       refine wp_exit ?_
       refine th_x ?_
       clear GL6
       refine th_x ?_
       refine ib_e ?_
       refine th_n (hK14 _ _ ?_)
       clear hK17 K17 hK14 K14
       refine wp_seq_k fun K22 hK22 => ?_
       refine Sb 41 rfl ?_  -- 15
       refine S_val (Y_assign rfl) ?_
       refine S_nl rfl rfl ?_
       refine th_n (hK22 _ _ ?_)
       clear hK22 K22
       refine wp_ret ?_
       refine ret_r1 rfl rfl ?_  -- r5
       exact ⟨bT ⟨by omega, by omega, hall, hall2⟩, G⟩

set_option maxHeartbeats 400000 in
set_option maxRecDepth 20000 in
theorem spec_l7Refs_c (Pr Pr2 : Nat → Prop) (A B : Option Addr) (h : LH) (c d : Nat) (w : World) (hA : RC Pr w A h.cells) (E : Option Addr) (xs : List Int) (e : Nat) (hE : R1 Pr2 w E (ints xs)) (hx : xs.length ≤ 1048576) (hn : h.cells.length ≤ 1048576) :
    Calls Try.prog 93 #[.agg #[.slice A h.cells.length c, .slice B h.roots.length d], .slice E xs.length e] w (Ret fun v w' => v = .bool (xs.all (leadsB h.cells)) ∧ Grow w w') := by
 refine enter Try.func93 rfl Try.ntmps93 (L := [_,_,_,_,_,_,_,_,_,_,_,_,_,_,_,_,_,_,_,_,_,_,_,_,_,_,_,_,_,_,_,_,_,_,_,_,_,_,_,_,_]) rfl ?_
 have G := Mod.refl No w
 have hA0 := hA
 have hE0 := hE
 refine wp_seq_k fun K1 hK1 => ?_
 refine Sb 41 rfl ?_  -- 0
 refine S_box (cs := [_, _]) rfl rfl ?_
 intro b1 w1 fb1 g1 B1
 have lb1 := B1.lt
 replace hA := hA.grow g1
 replace hE := hE.grow g1
 replace G := G.grow g1
 have zg1 := g1.size
 refine S_val (Y_assign rfl) ?_
 refine S_nl rfl rfl ?_
 refine th_n (hK1 _ _ ?_)
 clear hK1 K1
 refine wp_seq_k fun K2 hK2 => ?_
 refine wp_seq_k fun K3 hK3 => ?_
 refine Sb 41 rfl ?_  -- 1
 refine S_val (Y_assign rfl) ?_
 refine S_nl rfl rfl ?_
 refine th_n (hK3 _ _ ?_)
 clear hK3 K3
 refine wp_block ?_
 go_loopw [5] (fun u5 wr => (∃ k : Nat, u5 = .int .i64 k ∧ k ≤ xs.length ∧ (xs.take k).all (leadsB h.cells) = true) ∧ Mod No w1 wr) (fun u5 wr => xs.length - (intOf u5).toNat)  -- L1
 case atStart =>
  refine ⟨?_, Mod.refl _ _⟩
  exact ⟨0, rfl, by omega, by simp⟩
 case round =>
  obtain ⟨w2, rfl⟩ : ∃ x : World, x = wr := ⟨_, rfl⟩
  obtain ⟨hrel, g2⟩ := hrel
  replace hA := hA.grow g2
  replace hE := hE.grow g2
  replace G := G.grow g2
  replace B1 := B1.grow g2
  have zg2 := g2.size
  obtain ⟨k, rfl, hk, hs⟩ := hrel
  have GL2 := g2
  refine wp_seq_k fun K4 hK4 => ?_
  refine wp_seq_k fun K5 hK5 => ?_
  refine Sb 41 rfl ?_  -- 2
  refine S_val (Y_move rfl) ?_
  refine S_val (Y_move rfl) ?_
  refine S_val (Y_len Try.underlying22 rfl) ?_
  refine S_val (Y_lss rfl rfl) ?_
  refine S_nl rfl rfl ?_
  refine th_n (hK5 _ _ ?_)
  clear hK5 K5
  refine S_if rfl (fun hb1 => ?_) (fun hb1 => ?_)  -- c1
  · -- c1T
   replace hb1 := nb_tt hb1
   refine wp_skip ?_
   refine th_n (hK4 _ _ ?_)
   clear hK4 K4
   refine wp_seq_k fun K6 hK6 => ?_
   refine wp_block ?_
   refine wp_seq_k fun K7 hK7 => ?_
   refine D_start 29 41 (fun w => Mod (No) w) follows rfl rfl ?_  -- d1 r4
   intro w3 g3
   replace hA := hA.grow g3
   replace hE := hE.grow g3
   replace G := G.grow g3
   replace GL2 := GL2.grow g3
   replace B1 := B1.grow g3
   have zg3 := g3.size
   have GS3 := Mod.refl (No) w3
   obtain ⟨g1, o1, rfl, hp1, hc1⟩ := hE.int (k := k) (by omega)
   have B1d3 := B1
   refine Dq (i := 0) rfl GS3 (fun _ _ => Y_move rfl) ?_
   refine Dq (i := 1) rfl GS3 (fun _ _ => Y_move rfl) ?_
   refine Dq (i := 2) rfl GS3 (fun _ _ => Y_index Try.underlying22 sz3 rfl rfl (by first | assumption | omega)) ?_
   refine Dq (i := 3) rfl GS3 (fun _ hs => Y_load Try.underlying3 rfl rfl (by first | exact hs.cell0 (by assumption) | exact hs.cell0 (B1.at (by rfl)))) ?_
   refine Dq (i := 4) rfl GS3 (fun _ _ => Y_neq rfl rfl) ?_
   refine Dq (i := 5) rfl GS3 (fun _ _ => Y_move rfl) ?_
   refine D_g 17 rfl (fun hb2 => ?_) (fun hb2 => ?_)  -- g1
   · -- g1T
    replace hb2 := nb_nt hb2
    refine Dqon (i := 6) rfl rfl rfl GS3 (fun _ _ => Y_move rfl) ?_
    refine Dqon (i := 7) rfl rfl rfl GS3 (fun _ _ => Y_move rfl) ?_
    refine Dqon (i := 8) rfl rfl rfl GS3 (fun _ _ => Y_index Try.underlying22 sz3 rfl rfl (by first | assumption | omega)) ?_
    refine Dqon (i := 9) rfl rfl rfl GS3 (fun _ hs => Y_load Try.underlying3 rfl rfl (by first | exact hs.cell0 (by assumption) | exact hs.cell0 (B1.at (by rfl)))) ?_
    refine Dqon (i := 10) rfl rfl rfl GS3 (fun _ _ => Y_field Try.underlying25 rfl fz25_0 (by decide) rfl) ?_
    refine Dqon (i := 11) rfl rfl rfl GS3 (fun _ hs => Y_load Try.underlying23 rfl rfl (hs.cell0 (B1.at (by rfl)))) ?_
    refine Dqon (i := 12) rfl rfl rfl GS3 (fun _ _ => Y_len Try.underlying23 rfl) ?_
    refine Dqon (i := 13) rfl rfl rfl GS3 (fun _ _ => Y_sub rfl rfl rfl (by omega) (by omega)) ?_
    refine D_1 (i := 14) (by kernel_rfl) ?_
    refine E_calln rfl rfl rfl rfl en44 (spec_l1In_c _ _ _ _) ?_  -- k1 spec.l1In
    rintro v w' ⟨rfl, rfl⟩
    refine ⟨GS3, ?_⟩
    refine Dqon (i := 15) rfl rfl rfl GS3 (fun _ _ => Y_not rfl) ?_
    refine Dqon (i := 16) rfl rfl rfl GS3 (fun _ _ => Y_move rfl) ?_
    refine D_g 28 rfl (fun hb3 => ?_) (fun hb3 => ?_)  -- g2
    · -- g2T
     first | with_reducible (replace hb3 := nb_nt hb3) | with_reducible (replace hb3 := nb_tt hb3) | with_reducible (replace hb3 := nb_bt hb3) | skip
     refine Dqoff (i := 17) rfl rfl rfl GS3 ?_
     refine Dqoff (i := 18) rfl rfl rfl GS3 ?_
     refine Dqoff (i := 19) rfl rfl rfl GS3 ?_
     refine Dqoff (i := 20) rfl rfl rfl GS3 ?_
     refine Dqoff (i := 21) rfl rfl rfl GS3 ?_
     refine Dqoff (i := 22) rfl rfl rfl GS3 ?_
     refine Dqoff (i := 23) rfl rfl rfl GS3 ?_
     refine Dqoff (i := 24) rfl rfl rfl GS3 ?_
     refine Dqoff (i := 25) rfl rfl rfl GS3 ?_
     refine Dqoff (i := 26) rfl rfl rfl GS3 ?_
     refine Dqon (i := 27) rfl rfl rfl GS3 (fun _ _ => Y_pickT rfl rfl) ?_
     refine Dq (i := 28) rfl GS3 (fun _ _ => Y_pickT rfl rfl) ?_
     refine D_en (by kernel_rfl) rfl rfl ?_
     refine th_n (hK7 _ _ ?_)
     clear hK7 K7
     refine S_ifT rfl ?_
     refine wp_seq_k fun K8 hK8 => ?_
     refine Sb 41 rfl ?_  -- 5
     refine S_val (Y_assign rfl) ?_
     refine S_nl rfl rfl ?_
     refine th_n (hK8 _ _ ?_)
     clear hK8 K8
     refine wp_ret ?_
     refine ib_r ?_
     refine th_r ?_
     clear GL2
     refine th_r ?_
     refine ib_r ?_
     refine th_r ?_
     clear hK6 K6 hK2 K2
     refine ret_r1 rfl rfl ?_  -- r1
     exact ⟨bAF (all_false (k := k) (by omega) (leadsB_no hb2 (by omega))), G⟩
    · -- g2F
     first | with_reducible (replace hb3 := nb_nf hb3) | with_reducible (replace hb3 := nb_tf hb3) | with_reducible (replace hb3 := nb_bf hb3) | skip
     obtain ⟨n, hn2⟩ : ∃ n : Nat, xs[k] = (n : Int) := ⟨xs[k].toNat, by omega⟩
     rw [hn2] at hc1
     obtain ⟨g2, o2, E2, d2, rfl, hp2, cc2, _⟩ := hA.cell (k := n) (by omega)
     refine Dqon (i := 17) rfl rfl rfl GS3 (fun _ _ => Y_field Try.underlying25 rfl fz25_0 (by decide) rfl) ?_
     refine Dqon (i := 18) rfl rfl rfl GS3 (fun _ hs => Y_load Try.underlying23 rfl rfl (hs.cell0 (B1.at (by rfl)))) ?_
     refine Dqon (i := 19) rfl rfl rfl GS3 (fun _ _ => Y_move rfl) ?_
     refine Dqon (i := 20) rfl rfl rfl GS3 (fun _ _ => Y_move rfl) ?_
     refine Dqon (i := 21) rfl rfl rfl GS3 (fun _ _ => Y_index Try.underlying22 sz3 rfl rfl (by first | assumption | omega)) ?_
     refine Dqon (i := 22) rfl rfl rfl GS3 (fun _ hs => Y_load Try.underlying3 rfl rfl (by first | exact hs.cell0 (by assumption) | exact hs.cell0 (cc2.at (by rfl)) | exact hs.cell0 (B1.at (by rfl)))) ?_
     refine Dqon (i := 23) rfl rfl rfl GS3 (fun _ _ => Y_index Try.underlying23 sz70 rfl rfl (by first | assumption | omega)) ?_
     refine Dqon (i := 24) rfl rfl rfl GS3 (fun _ _ => Y_field Try.underlying70 rfl fz70_0 (by decide) rfl) ?_
     refine Dqon (i := 25) rfl rfl rfl GS3 (fun _ hs => Y_load Try.underlying4 rfl rfl (by first | exact hs.cell0 (by assumption) | exact hs.cell0 (cc2.at (by rfl)) | exact hs.cell0 (B1.at (by rfl)))) ?_
     refine Dqon (i := 26) rfl rfl rfl GS3 (fun _ _ => Y_not rfl) ?_
     refine Dqon (i := 27) rfl rfl rfl GS3 (fun _ _ => Y_pickF rfl rfl) ?_
     refine Dq (i := 28) rfl GS3 (fun _ _ => Y_pickT rfl rfl) ?_
     refine D_en (by kernel_rfl) rfl rfl ?_
     refine th_n (hK7 _ _ ?_)
     clear hK7 K7
     refine S_if rfl (fun hb4 => ?_) (fun hb4 => ?_)  -- c2
     · -- c2T
      first | with_reducible (replace hb4 := nb_nt hb4) | with_reducible (replace hb4 := nb_tt hb4) | with_reducible (replace hb4 := nb_bt hb4) | skip
      refine wp_seq_k fun K9 hK9 => ?_
      refine Sb 41 rfl ?_  -- 5
      refine S_val (Y_assign rfl) ?_
      refine S_nl rfl rfl ?_
      refine th_n (hK9 _ _ ?_)
      clear hK9 K9
      refine wp_ret ?_
      refine ib_r ?_
      refine th_r ?_
      clear GL2
      refine th_r ?_
      refine ib_r ?_
      refine th_r ?_
      clear hK6 K6 hK2 K2
      refine ret_r1 rfl rfl ?_  -- r2
      exact ⟨bAF (all_false (k := k) (by omega) (by rw [hn2]; exact (leadsB_at (by omega)).trans hb4)), G⟩
     · -- c2F
      first | with_reducible (replace hb4 := nb_nf hb4) | with_reducible (replace hb4 := nb_tf hb4) | with_reducible (replace hb4 := nb_bf hb4) | skip
      refine wp_skip ?_
      refine ib_n ?_
      refine th_n (hK6 _ _ ?_)
      clear hK6 K6
      refine Sb 41 rfl ?_  -- 3
      refine S_val (Y_move rfl) ?_
      refine S_val (Y_inc rfl rfl (by omega)) ?_
      refine S_val (Y_assign rfl) ?_
      refine S_nl rfl rfl ?_
      refine th_n ?_
      go_roundw  -- e1 of L1
      case rel =>
       refine ⟨?_, GL2⟩
       exact ⟨k + 1, rfl, by omega, all_take_succ (by omega) hs (by rw [hn2]; exact (leadsB_at (by omega)).trans hb4)⟩
      case measure =>
       exact dec_nat (by omega)
   · -- g1F
    replace hb2 := nb_nf hb2
    refine Dqoff (i := 6) rfl rfl rfl GS3 ?_
    refine Dqoff (i := 7) rfl rfl rfl GS3 ?_
    refine Dqoff (i := 8) rfl rfl rfl GS3 ?_
    refine Dqoff (i := 9) rfl rfl rfl GS3 ?_
    refine Dqoff (i := 10) rfl rfl rfl GS3 ?_
    refine Dqoff (i := 11) rfl rfl rfl GS3 ?_
    refine Dqoff (i := 12) rfl rfl rfl GS3 ?_
    refine Dqoff (i := 13) rfl rfl rfl GS3 ?_
    refine Dqoff (i := 14) rfl rfl rfl GS3 ?_
    refine Dqoff (i := 15) rfl rfl rfl GS3 ?_
    refine Dqoff (i := 16) rfl rfl rfl GS3 ?_
    refine DqoffU (i := 17) rfl rfl rfl GS3 ?_
    refine DqoffU (i := 18) rfl rfl rfl GS3 ?_
    refine DqoffU (i := 19) rfl rfl rfl GS3 ?_
    refine DqoffU (i := 20) rfl rfl rfl GS3 ?_
    refine DqoffU (i := 21) rfl rfl rfl GS3 ?_
    refine DqoffU (i := 22) rfl rfl rfl GS3 ?_
    refine DqoffU (i := 23) rfl rfl rfl GS3 ?_
    refine DqoffU (i := 24) rfl rfl rfl GS3 ?_
    refine DqoffU (i := 25) rfl rfl rfl GS3 ?_
    refine DqoffU (i := 26) rfl rfl rfl GS3 ?_
    refine Dqoff (i := 27) rfl rfl rfl GS3 ?_
    refine Dq (i := 28) rfl GS3 (fun _ _ => Y_pickF rfl rfl) ?_
    refine D_en (by kernel_rfl) rfl rfl ?_
    refine th_n (hK7 _ _ ?_)
    clear hK7 K7
    refine S_ifF rfl ?_
    refine wp_skip ?_
    refine ib_n ?_
    refine th_n (hK6 _ _ ?_)
    clear hK6 K6
    refine Sb 41 rfl ?_  -- 3
    refine S_val (Y_move rfl) ?_
    refine S_val (Y_inc rfl rfl (by omega)) ?_
    refine S_val (Y_assign rfl) ?_
    refine S_nl rfl rfl ?_
    refine th_n ?_
    go_roundw  -- e2 of L1
    case rel =>
     refine ⟨?_, GL2⟩
     exact ⟨k + 1, rfl, by omega, all_take_succ (by omega) hs (by rw [hb2]; exact leadsB_m1 _)⟩
    case measure =>
     exact dec_nat (by omega)
  · -- c1F
   replace hb1 := nb_tf hb1
   refine wp_exit ?_
   refine th_x ?_
   clear GL2
   refine th_x ?_
   refine ib_e ?_
   refine th_n (hK2 _ _ ?_)
   clear hK4 K4 hK2 K2
   refine wp_seq_k fun K10 hK10 => ?_
   refine Sb 41 rfl ?_  -- 6
   refine S_val (Y_assign rfl) ?_
   refine S_nl rfl rfl ?_
   refine th_n (hK10 _ _ ?_)
   clear hK10 K10
   refine wp_ret ?_
   refine ret_r1 rfl rfl ?_  -- r3
   exact ⟨bAT (all_of_take (by omega) hs), G⟩

set_option maxHeartbeats 400000 in
set_option maxRecDepth 20000 in
theorem spec_HeapValid_c (Pr : Nat → Prop) (A B : Option Addr) (h : LH) (c d : Nat) (w : World) (hA : RC Pr w A h.cells) (hB : R1 Pr w B (ints h.roots)) (hz : hsize h ≤ 1048576) :
    Calls Try.prog 56 #[.agg #[.slice A h.cells.length c, .slice B h.roots.length d]] w (Ret fun v w' => v = .bool (validB h) ∧ Grow w w') := by
 have hz1 := hsize_cells h
 have hz2 := hsize_roots h
 have hz3 : ∀ k (hk : k < h.cells.length), h.cells[k].refs.length ≤ hsize h := fun k hk => hsize_refs h hk
 refine enter Try.func56 rfl Try.ntmps56 (L := [_,_,_,_,_,_,_,_,_,_,_,_,_,_,_,_,_,_,_,_,_,_,_,_,_,_,_,_,_,_,_,_,_,_,_,_,_,_,_,_,_,_,_,_,_,_,_,_,_,_,_,_,_,_,_,_,_,_,_,_,_,_,_,_,_,_]) rfl ?_
 have G := Mod.refl No w
 have hA0 := hA
 have hB0 := hB
 refine wp_seq_k fun K1 hK1 => ?_
 refine Sb 66 rfl ?_  -- 0
 refine S_box (cs := [_, _]) rfl rfl ?_
 intro b1 w1 fb1 g1 B1
 have lb1 := B1.lt
 replace hA := hA.grow g1
 replace hB := hB.grow g1
 replace G := G.grow g1
 have zg1 := g1.size
 refine S_val (Y_assign rfl) ?_
 refine S_nl rfl rfl ?_
 refine th_n (hK1 _ _ ?_)
 clear hK1 K1
 refine wp_seq_k fun K2 hK2 => ?_
 refine wp_seq_k fun K3 hK3 => ?_
 refine Sb 66 rfl ?_  -- 1
 refine S_val (Y_assign rfl) ?_
 refine S_nl rfl rfl ?_
 refine th_n (hK3 _ _ ?_)
 clear hK3 K3
 refine wp_block ?_
 go_loopw [3] (fun u3 wr => (∃ k : Nat, u3 = .int .i64 k ∧ k ≤ h.cells.length ∧ (h.cells.take k).all (okB h.cells) = true) ∧ Mod No w1 wr) (fun u3 wr => h.cells.length - (intOf u3).toNat)  -- L1
 case atStart =>
  refine ⟨?_, Mod.refl _ _⟩
  exact ⟨0, rfl, by omega, by simp⟩
 case round =>
  obtain ⟨w2, rfl⟩ : ∃ x : World, x = wr := ⟨_, rfl⟩
  obtain ⟨hrel, g2⟩ := hrel
  replace hA := hA.grow g2
  replace hB := hB.grow g2
  replace G := G.grow g2
  replace B1 := B1.grow g2
  have zg2 := g2.size
  obtain ⟨k, rfl, hk, hs⟩ := hrel
  have GL2 := g2
  refine wp_seq_k fun K4 hK4 => ?_
  refine wp_seq_k fun K5 hK5 => ?_
  refine Sb 66 rfl ?_  -- 2
  refine S_val (Y_move rfl) ?_
  refine S_val (Y_field Try.underlying25 rfl fz25_0 (by decide) rfl) ?_
  refine S_val (Y_load Try.underlying23 rfl rfl (B1.at (by rfl))) ?_  -- l1
  refine S_val (Y_len Try.underlying23 rfl) ?_
  refine S_val (Y_lss rfl rfl) ?_
  refine S_nl rfl rfl ?_
  refine th_n (hK5 _ _ ?_)
  clear hK5 K5
  refine S_if rfl (fun hb1 => ?_) (fun hb1 => ?_)  -- c1
  · -- c1T
   replace hb1 := nb_tt hb1
   have hk2 : k < h.cells.length := by omega
   obtain ⟨g2, o2, E2, d2, rfl, hp2, cc20, hE20⟩ := hA0.cell hk2
   have hz4 := hz3 k hk2
   have cc2 := cc20.grow G
   have hE2 := hE20.grow G
   refine wp_skip ?_
   refine th_n (hK4 _ _ ?_)
   clear hK4 K4
   refine wp_seq_k fun K6 hK6 => ?_
   refine wp_block ?_
   refine wp_seq_k fun K7 hK7 => ?_
   refine Sb 66 rfl ?_  -- 4
   refine S_val (Y_field Try.underlying25 rfl fz25_0 (by decide) rfl) ?_
   refine S_val (Y_load Try.underlying23 rfl rfl (B1.at (by rfl))) ?_  -- l2
   refine S_val (Y_move rfl) ?_
   refine S_val (Y_index Try.underlying23 sz70 rfl rfl (by first | assumption | omega)) ?_
   refine S_val (Y_loadS Try.underlying70 rfl sz70 rfl (by first | assumption | exact B1.row (by rfl))) ?_  -- l3
   refine S_alloc (cs := [_, _, _]) zr70 rfl ?_
   intro b3 w3 fb3 g3 B3
   have lb3 := B3.lt
   replace hA := hA.grow g3
   replace hB := hB.grow g3
   replace cc2 := cc2.grow g3
   replace hE2 := hE2.grow g3
   replace G := G.grow g3
   replace GL2 := GL2.grow g3
   replace B1 := B1.grow g3
   have zg3 := g3.size
   refine S_stM (pre := []) (old := [_, _, _]) (post := []) (vs := [_, _, _]) sz70 rfl rfl rfl (by first | rfl | assumption) B3 rfl rfl ?_
   intro w4 m4 X4
   replace B3 := Blk.eq (ys := [_, _, _]) X4 rfl
   clear X4
   replace G := G.abv m4
   replace GL2 := GL2.abv m4
   replace hA := hA0.grow G
   replace hB := hB0.grow G
   replace cc2 := cc20.grow G
   replace hE2 := hE20.grow G
   replace B1 := B1.md m4
   have zm4 := m4.size
   refine S_nl rfl rfl ?_
   refine th_n (hK7 _ _ ?_)
   clear hK7 K7
   refine wp_seq_k fun K8 hK8 => ?_
   refine Sb 66 rfl ?_  -- 5
   refine S_val (Y_field Try.underlying70 rfl fz70_0 (by decide) rfl) ?_
   refine S_val (Y_load Try.underlying4 rfl rfl (B3.at (by rfl))) ?_  -- l4
   refine S_val (Y_not rfl) ?_
   refine S_val (Y_move rfl) ?_
   refine S_g 20 rfl (fun hb2 => ?_) (fun hb2 => ?_)  -- g1
   · -- g1T
    first | with_reducible (replace hb2 := nb_nt hb2) | with_reducible (replace hb2 := nb_tt hb2) | with_reducible (replace hb2 := nb_bt hb2) | skip
    refine S_on rfl rfl ?_
    refine S_val (Y_field Try.underlying70 rfl fz70_1 (by decide) rfl) ?_
    refine S_on rfl rfl ?_
    refine S_val (Y_load Try.underlying3 rfl rfl (B3.at (by rfl))) ?_  -- l5
    refine S_on rfl rfl ?_
    refine S_val (Y_neq rfl rfl) ?_
    refine S_on rfl rfl ?_
    refine S_val (Y_move rfl) ?_
    refine S_g 24 rfl (fun hb3 => ?_) (fun hb3 => ?_)  -- g2
    · -- g2T
     replace hb3 := nb_nt hb3
     refine S_off rfl rfl ?_
     refine S_off rfl rfl ?_
     refine S_off rfl rfl ?_
     refine S_off rfl rfl ?_
     refine S_on rfl rfl ?_
     refine S_val (Y_pickT rfl rfl) ?_
     refine S_val (Y_pickT rfl rfl) ?_
     refine S_val (Y_move rfl) ?_
     refine S_off rfl rfl ?_
     refine S_off rfl rfl ?_
     refine S_off rfl rfl ?_
     refine S_off rfl rfl ?_
     refine S_val (Y_pickT rfl rfl) ?_
     refine S_val (Y_move rfl) ?_
     refine S_off rfl rfl ?_
     refine S_off rfl rfl ?_
     refine S_off rfl rfl ?_
     refine S_off rfl rfl ?_
     refine S_val (Y_pickT rfl rfl) ?_
     refine S_val (Y_move rfl) ?_
     refine S_off rfl rfl ?_
     refine S_off rfl rfl ?_
     refine S_off rfl rfl ?_
     refine S_off rfl rfl ?_
     refine S_off rfl rfl ?_
     refine S_val (Y_pickT rfl rfl) ?_
     refine S_nl rfl rfl ?_
     refine th_n (hK8 _ _ ?_)
     clear hK8 K8
     refine S_ifT rfl ?_
     refine wp_seq_k fun K9 hK9 => ?_
     refine Sb 66 rfl ?_  -- 6
     refine S_val (Y_assign rfl) ?_
     refine S_nl rfl rfl ?_
     refine th_n (hK9 _ _ ?_)
     clear hK9 K9
     refine wp_ret ?_
     refine ib_r ?_
     refine th_r ?_
     clear GL2
     refine th_r ?_
     refine ib_r ?_
     refine th_r ?_
     clear hK6 K6 hK2 K2
     refine ret_r1 rfl rfl ?_  -- r1
     refine ⟨bF (fun e => all_false hk2 (okB_f ?_) e.2.2.1), G⟩
     first | (rw [okP_n (by assumption)]; omega) | (rw [okP_u (by assumption)]; omega)
    · -- g2F
     replace hb3 := nb_nf hb3
     refine S_on rfl rfl ?_
     refine S_val (Y_field Try.underlying70 rfl fz70_2 (by decide) rfl) ?_
     refine S_on rfl rfl ?_
     refine S_val (Y_load Try.underlying22 rfl rfl (B3.at (by rfl))) ?_  -- l6
     refine S_on rfl rfl ?_
     refine S_val (Y_len Try.underlying22 rfl) ?_
     refine S_on rfl rfl ?_
     refine S_val (Y_gtr rfl rfl) ?_
     refine S_on rfl rfl ?_
     refine S_val (Y_pickF rfl rfl) ?_
     refine S_val (Y_pickT rfl rfl) ?_
     refine S_val (Y_move rfl) ?_
     refine S_g 31 rfl (fun hb4 => ?_) (fun hb4 => ?_)  -- g3
     · -- g3T
      first | with_reducible (replace hb4 := nb_nt hb4) | with_reducible (replace hb4 := nb_tt hb4) | with_reducible (replace hb4 := nb_bt hb4) | skip
      refine S_off rfl rfl ?_
      refine S_off rfl rfl ?_
      refine S_off rfl rfl ?_
      refine S_off rfl rfl ?_
      refine S_val (Y_pickT rfl rfl) ?_
      refine S_val (Y_move rfl) ?_
      refine S_off rfl rfl ?_
      refine S_off rfl rfl ?_
      refine S_off rfl rfl ?_
      refine S_off rfl rfl ?_
      refine S_val (Y_pickT rfl rfl) ?_
      refine S_val (Y_move rfl) ?_
      refine S_off rfl rfl ?_
      refine S_off rfl rfl ?_
      refine S_off rfl rfl ?_
      refine S_off rfl rfl ?_
      refine S_off rfl rfl ?_
      refine S_val (Y_pickT rfl rfl) ?_
      refine S_nl rfl rfl ?_
      refine th_n (hK8 _ _ ?_)
      clear hK8 K8
      refine S_ifT rfl ?_
      refine wp_seq_k fun K10 hK10 => ?_
      refine Sb 66 rfl ?_  -- 6
      refine S_val (Y_assign rfl) ?_
      refine S_nl rfl rfl ?_
      refine th_n (hK10 _ _ ?_)
      clear hK10 K10
      refine wp_ret ?_
      refine ib_r ?_
      refine th_r ?_
      clear GL2
      refine th_r ?_
      refine ib_r ?_
      refine th_r ?_
      clear hK6 K6 hK2 K2
      refine ret_r1 rfl rfl ?_  -- r2
      refine ⟨bF (fun e => all_false hk2 (okB_f ?_) e.2.2.1), G⟩
      first | (rw [okP_n (by assumption)]; omega) | (rw [okP_u (by assumption)]; omega)
     · -- g3F
      first | with_reducible (replace hb4 := nb_nf hb4) | with_reducible (replace hb4 := nb_tf hb4) | with_reducible (replace hb4 := nb_bf hb4) | skip
      refine S_on rfl rfl ?_
      refine S_val (Y_field Try.underlying70 rfl fz70_1 (by decide) rfl) ?_
      refine S_on rfl rfl ?_
      refine S_val (Y_load Try.underlying3 rfl rfl (B3.at (by rfl))) ?_  -- l7
      refine S_on rfl rfl ?_
      refine S_call rfl en44 (spec_l1In_c _ _ _ _) ?_  -- k1 spec.l1In
      rintro v w' ⟨rfl, rfl⟩
      refine S_on rfl rfl ?_
      refine S_val (Y_not rfl) ?_
      refine S_val (Y_pickF rfl rfl) ?_
      refine S_val (Y_move rfl) ?_
      refine S_g 37 rfl (fun hb5 => ?_) (fun hb5 => ?_)  -- g4
      · -- g4T
       first | with_reducible (replace hb5 := nb_nt hb5) | with_reducible (replace hb5 := nb_tt hb5) | with_reducible (replace hb5 := nb_bt hb5) | skip
       refine S_off rfl rfl ?_
       refine S_off rfl rfl ?_
       refine S_off rfl rfl ?_
       refine S_off rfl rfl ?_
       refine S_val (Y_pickT rfl rfl) ?_
       refine S_val (Y_move rfl) ?_
       refine S_off rfl rfl ?_
       refine S_off rfl rfl ?_
       refine S_off rfl rfl ?_
       refine S_off rfl rfl ?_
       refine S_off rfl rfl ?_
       refine S_val (Y_pickT rfl rfl) ?_
       refine S_nl rfl rfl ?_
       refine th_n (hK8 _ _ ?_)
       clear hK8 K8
       refine S_ifT rfl ?_
       refine wp_seq_k fun K11 hK11 => ?_
       refine Sb 66 rfl ?_  -- 6
       refine S_val (Y_assign rfl) ?_
       refine S_nl rfl rfl ?_
       refine th_n (hK11 _ _ ?_)
       clear hK11 K11
       refine wp_ret ?_
       refine ib_r ?_
       refine th_r ?_
       clear GL2
       refine th_r ?_
       refine ib_r ?_
       refine th_r ?_
       clear hK6 K6 hK2 K2
       refine ret_r1 rfl rfl ?_  -- r3
       refine ⟨bF (fun e => all_false hk2 (okB_f ?_) e.2.2.1), G⟩
       first | (rw [okP_n (by assumption)]; omega) | (rw [okP_u (by assumption)]; omega)
      · -- g4F
       first | with_reducible (replace hb5 := nb_nf hb5) | with_reducible (replace hb5 := nb_tf hb5) | with_reducible (replace hb5 := nb_bf hb5) | skip
       refine S_on rfl rfl ?_
       refine S_val (Y_field Try.underlying70 rfl fz70_2 (by decide) rfl) ?_
       refine S_on rfl rfl ?_
       refine S_val (Y_load Try.underlying22 rfl rfl (B3.at (by rfl))) ?_  -- l8
       refine S_on rfl rfl ?_
       refine S_val (Y_len Try.underlying22 rfl) ?_
       refine S_on rfl rfl ?_
       refine S_val (Y_gtr rfl rfl) ?_
       refine S_val (Y_pickF rfl rfl) ?_
       refine S_val (Y_move rfl) ?_
       refine S_g 43 rfl (fun hb6 => ?_) (fun hb6 => ?_)  -- g5
       · -- g5T
        first | with_reducible (replace hb6 := nb_nt hb6) | with_reducible (replace hb6 := nb_tt hb6) | with_reducible (replace hb6 := nb_bt hb6) | skip
        refine S_off rfl rfl ?_
        refine S_off rfl rfl ?_
        refine S_off rfl rfl ?_
        refine S_off rfl rfl ?_
        refine S_off rfl rfl ?_
        refine S_val (Y_pickT rfl rfl) ?_
        refine S_nl rfl rfl ?_
        refine th_n (hK8 _ _ ?_)
        clear hK8 K8
        refine S_ifT rfl ?_
        refine wp_seq_k fun K12 hK12 => ?_
        refine Sb 66 rfl ?_  -- 6
        refine S_val (Y_assign rfl) ?_
        refine S_nl rfl rfl ?_
        refine th_n (hK12 _ _ ?_)
        clear hK12 K12
        refine wp_ret ?_
        refine ib_r ?_
        refine th_r ?_
        clear GL2
        refine th_r ?_
        refine ib_r ?_
        refine th_r ?_
        clear hK6 K6 hK2 K2
        refine ret_r1 rfl rfl ?_  -- r4
        refine ⟨bF (fun e => all_false hk2 (okB_f ?_) e.2.2.1), G⟩
        first | (rw [okP_n (by assumption)]; omega) | (rw [okP_u (by assumption)]; omega)
       · -- g5F
        first | with_reducible (replace hb6 := nb_nf hb6) | with_reducible (replace hb6 := nb_tf hb6) | with_reducible (replace hb6 := nb_bf hb6) | skip
        refine S_on rfl rfl ?_
        refine S_val (Y_loadS Try.underlying25 rfl sz25 rfl (B1.row (by rfl))) ?_  -- l9
        refine S_on rfl rfl ?_
        refine S_val (Y_field Try.underlying70 rfl fz70_2 (by decide) rfl) ?_
        refine S_on rfl rfl ?_
        refine S_val (Y_load Try.underlying22 rfl rfl (B3.at (by rfl))) ?_  -- l10
        refine S_on rfl rfl ?_
        refine S_call rfl en93 (spec_l7Refs_c _ _ _ _ _ _ _ _ (by assumption) _ _ _ (by assumption) (by omega) (by omega)) ?_  -- k2 spec.l7Refs
        rintro v6 w6 ⟨rfl, g6⟩
        replace hA := hA.grow g6
        replace hB := hB.grow g6
        replace cc2 := cc2.grow g6
        replace hE2 := hE2.grow g6
        replace G := G.grow g6
        replace GL2 := GL2.grow g6
        replace B1 := B1.grow g6
        replace B3 := B3.grow g6
        have zg6 := g6.size
        refine S_on rfl rfl ?_
        refine S_val (Y_not rfl) ?_
        refine S_val (Y_pickF rfl rfl) ?_
        refine S_nl rfl rfl ?_
        refine th_n (hK8 _ _ ?_)
        clear hK8 K8
        refine S_if rfl (fun hb7 => ?_) (fun hb7 => ?_)  -- c2
        · -- c2T
         first | with_reducible (replace hb7 := nb_nt hb7) | with_reducible (replace hb7 := nb_tt hb7) | with_reducible (replace hb7 := nb_bt hb7) | skip
         refine wp_seq_k fun K13 hK13 => ?_
         refine Sb 66 rfl ?_  -- 6
         refine S_val (Y_assign rfl) ?_
         refine S_nl rfl rfl ?_
         refine th_n (hK13 _ _ ?_)
         clear hK13 K13
         refine wp_ret ?_
         refine ib_r ?_
         refine th_r ?_
         clear GL2
         refine th_r ?_
         refine ib_r ?_
         refine th_r ?_
         clear hK6 K6 hK2 K2
         refine ret_r1 rfl rfl ?_  -- r5
         rw [all_len0 (by omega)] at hb7
         cases hb7
        · -- c2F
         first | with_reducible (replace hb7 := nb_nf hb7) | with_reducible (replace hb7 := nb_tf hb7) | with_reducible (replace hb7 := nb_bf hb7) | skip
         refine wp_skip ?_
         refine ib_n ?_
         refine th_n (hK6 _ _ ?_)
         clear hK6 K6
         refine Sb 66 rfl ?_  -- 3
         refine S_val (Y_move rfl) ?_
         refine S_val (Y_inc rfl rfl (by omega)) ?_
         refine S_val (Y_assign rfl) ?_
         refine S_nl rfl rfl ?_
         refine th_n ?_
         go_roundw  -- e1 of L1
         case rel =>
          refine ⟨?_, GL2⟩
          exact ⟨k + 1, rfl, by omega, all_take_succ (by omega) hs (okB_t ((okP_n hb2).2 ⟨hb3, by omega⟩))⟩
         case measure =>
          exact dec_nat (by omega)
   · -- g1F
    first | with_reducible (replace hb2 := nb_nf hb2) | with_reducible (replace hb2 := nb_tf hb2) | with_reducible (replace hb2 := nb_bf hb2) | skip
    refine S_off rfl rfl ?_
    refine S_off rfl rfl ?_
    refine S_off rfl rfl ?_
    refine S_off rfl rfl ?_
    refine S_offU rfl rfl ?_
    refine S_offU rfl rfl ?_
    refine S_offU rfl rfl ?_
    refine S_offU rfl rfl ?_
    refine S_off rfl rfl ?_
    refine S_val (Y_pickF rfl rfl) ?_
    refine S_val (Y_move rfl) ?_
    refine S_on rfl rfl ?_
    refine S_val (Y_field Try.underlying70 rfl fz70_1 (by decide) rfl) ?_
    refine S_on rfl rfl ?_
    refine S_val (Y_load Try.underlying3 rfl rfl (B3.at (by rfl))) ?_  -- l11
    refine S_on rfl rfl ?_
    refine S_call rfl en44 (spec_l1In_c _ _ _ _) ?_  -- k3 spec.l1In
    rintro v w' ⟨rfl, rfl⟩
    refine S_on rfl rfl ?_
    refine S_val (Y_not rfl) ?_
    refine S_val (Y_pickF rfl rfl) ?_
    refine S_val (Y_move rfl) ?_
    refine S_g 37 rfl (fun hb3 => ?_) (fun hb3 => ?_)  -- g6
    · -- g6T
     first | with_reducible (replace hb3 := nb_nt hb3) | with_reducible (replace hb3 := nb_tt hb3) | with_reducible (replace hb3 := nb_bt hb3) | skip
     refine S_off rfl rfl ?_
     refine S_off rfl rfl ?_
     refine S_off rfl rfl ?_
     refine S_off rfl rfl ?_
     refine S_val (Y_pickT rfl rfl) ?_
     refine S_val (Y_move rfl) ?_
     refine S_off rfl rfl ?_
     refine S_off rfl rfl ?_
     refine S_off rfl rfl ?_
     refine S_off rfl rfl ?_
     refine S_off rfl rfl ?_
     refine S_val (Y_pickT rfl rfl) ?_
     refine S_nl rfl rfl ?_
     refine th_n (hK8 _ _ ?_)
     clear hK8 K8
     refine S_ifT rfl ?_
     refine wp_seq_k fun K14 hK14 => ?_
     refine Sb 66 rfl ?_  -- 6
     refine S_val (Y_assign rfl) ?_
     refine S_nl rfl rfl ?_
     refine th_n (hK14 _ _ ?_)
     clear hK14 K14
     refine wp_ret ?_
     refine ib_r ?_
     refine th_r ?_
     clear GL2
     refine th_r ?_
     refine ib_r ?_
     refine th_r ?_
     clear hK6 K6 hK2 K2
     refine ret_r1 rfl rfl ?_  -- r6
     refine ⟨bF (fun e => all_false hk2 (okB_f ?_) e.2.2.1), G⟩
     first | (rw [okP_n (by assumption)]; omega) | (rw [okP_u (by assumption)]; omega)
    · -- g6F
     first | with_reducible (replace hb3 := nb_nf hb3) | with_reducible (replace hb3 := nb_tf hb3) | with_reducible (replace hb3 := nb_bf hb3) | skip
     refine S_on rfl rfl ?_
     refine S_val (Y_field Try.underlying70 rfl fz70_2 (by decide) rfl) ?_
     refine S_on rfl rfl ?_
     refine S_val (Y_load Try.underlying22 rfl rfl (B3.at (by rfl))) ?_  -- l12
     refine S_on rfl rfl ?_
     refine S_val (Y_len Try.underlying22 rfl) ?_
     refine S_on rfl rfl ?_
     refine S_val (Y_gtr rfl rfl) ?_
     refine S_val (Y_pickF rfl rfl) ?_
     refine S_val (Y_move rfl) ?_
     refine S_g 43 rfl (fun hb4 => ?_) (fun hb4 => ?_)  -- g7
     · -- g7T
      first | with_reducible (replace hb4 := nb_nt hb4) | with_reducible (replace hb4 := nb_tt hb4) | with_reducible (replace hb4 := nb_bt hb4) | skip
      refine S_off rfl rfl ?_
      refine S_off rfl rfl ?_
      refine S_off rfl rfl ?_
      refine S_off rfl rfl ?_
      refine S_off rfl rfl ?_
      refine S_val (Y_pickT rfl rfl) ?_
      refine S_nl rfl rfl ?_
      refine th_n (hK8 _ _ ?_)
      clear hK8 K8
      refine S_ifT rfl ?_
      refine wp_seq_k fun K15 hK15 => ?_
      refine Sb 66 rfl ?_  -- 6
      refine S_val (Y_assign rfl) ?_
      refine S_nl rfl rfl ?_
      refine th_n (hK15 _ _ ?_)
      clear hK15 K15
      refine wp_ret ?_
      refine ib_r ?_
      refine th_r ?_
      clear GL2
      refine th_r ?_
      refine ib_r ?_
      refine th_r ?_
      clear hK6 K6 hK2 K2
      refine ret_r1 rfl rfl ?_  -- r7
      refine ⟨bF (fun e => all_false hk2 (okB_f ?_) e.2.2.1), G⟩
      first | (rw [okP_n (by assumption)]; omega) | (rw [okP_u (by assumption)]; omega)
     · -- g7F
      first | with_reducible (replace hb4 := nb_nf hb4) | with_reducible (replace hb4 := nb_tf hb4) | with_reducible (replace hb4 := nb_bf hb4) | skip
      refine S_on rfl rfl ?_
      refine S_val (Y_loadS Try.underlying25 rfl sz25 rfl (B1.row (by rfl))) ?_  -- l13
      refine S_on rfl rfl ?_
      refine S_val (Y_field Try.underlying70 rfl fz70_2 (by decide) rfl) ?_
      refine S_on rfl rfl ?_
      refine S_val (Y_load Try.underlying22 rfl rfl (B3.at (by rfl))) ?_  -- l14
      refine S_on rfl rfl ?_
      refine S_call rfl en93 (spec_l7Refs_c _ _ _ _ _ _ _ _ (by assumption) _ _ _ (by assumption) (by omega) (by omega)) ?_  -- k4 spec.l7Refs
      rintro v8 w8 ⟨rfl, g8⟩
      replace hA := hA.grow g8
      replace hB := hB.grow g8
      replace cc2 := cc2.grow g8
      replace hE2 := hE2.grow g8
      replace G := G.grow g8
      replace GL2 := GL2.grow g8
      replace B1 := B1.grow g8
      replace B3 := B3.grow g8
      have zg8 := g8.size
      refine S_on rfl rfl ?_
      refine S_val (Y_not rfl) ?_
      refine S_val (Y_pickF rfl rfl) ?_
      refine S_nl rfl rfl ?_
      refine th_n (hK8 _ _ ?_)
      clear hK8 K8
      refine S_if rfl (fun hb5 => ?_) (fun hb5 => ?_)  -- c3
      · -- c3T
       first | with_reducible (replace hb5 := nb_nt hb5) | with_reducible (replace hb5 := nb_tt hb5) | with_reducible (replace hb5 := nb_bt hb5) | skip
       refine wp_seq_k fun K16 hK16 => ?_
       refine Sb 66 rfl ?_  -- 6
       refine S_val (Y_assign rfl) ?_
       refine S_nl rfl rfl ?_
       refine th_n (hK16 _ _ ?_)
       clear hK16 K16
       refine wp_ret ?_
       refine ib_r ?_
       refine th_r ?_
       clear GL2
       refine th_r ?_
       refine ib_r ?_
       refine th_r ?_
       clear hK6 K6 hK2 K2
       refine ret_r1 rfl rfl ?_  -- r8
       refine ⟨bF (fun e => all_false hk2 (okB_f ?_) e.2.2.1), G⟩
       rw [okP_u hb2, hb5]
       intro x
       cases x.1
      · -- c3F
       first | with_reducible (replace hb5 := nb_nf hb5) | with_reducible (replace hb5 := nb_tf hb5) | with_reducible (replace hb5 := nb_bf hb5) | skip
       refine wp_skip ?_
       refine ib_n ?_
       refine th_n (hK6 _ _ ?_)
       clear hK6 K6
       refine Sb 66 rfl ?_  -- 3
       refine S_val (Y_move rfl) ?_
       refine S_val (Y_inc rfl rfl (by omega)) ?_
       refine S_val (Y_assign rfl) ?_
       refine S_nl rfl rfl ?_
       refine th_n ?_
       go_roundw  -- e2 of L1
       case rel =>
        refine ⟨?_, GL2⟩
        exact ⟨k + 1, rfl, by omega, all_take_succ (by omega) hs (okB_t ((okP_u hb2).2 ⟨hb5, by omega, by omega, by omega⟩))⟩
       case measure =>
        exact dec_nat (by omega)
  · -- c1F
   replace hb1 := nb_tf hb1
   have hall := all_of_take (by omega) hs
   refine wp_exit ?_
   refine th_x ?_
   clear GL2
   refine th_x ?_
   refine ib_e ?_
   refine th_n (hK2 _ _ ?_)
   clear hK4 K4 hK2 K2
   refine wp_seq_k fun K17 hK17 => ?_
   refine Sb 66 rfl ?_  -- 7
   refine S_val (Y_field Try.underlying25 rfl fz25_0 (by decide) rfl) ?_
   refine S_val (Y_load Try.underlying23 rfl rfl (B1.at (by rfl))) ?_  -- l15
   refine S_val (Y_len Try.underlying23 rfl) ?_
   refine S_val (Y_leq rfl rfl) ?_
   refine S_val (Y_move rfl) ?_
   refine S_g 54 rfl (fun hb2 => ?_) (fun hb2 => ?_)  -- g8
   · -- g8T
    replace hb2 := nb_tt hb2
    refine S_on rfl rfl ?_
    refine S_val (Y_field Try.underlying25 rfl fz25_1 (by decide) rfl) ?_
    refine S_on rfl rfl ?_
    refine S_val (Y_load Try.underlying22 rfl rfl (B1.at (by rfl))) ?_  -- l16
    refine S_on rfl rfl ?_
    refine S_val (Y_len Try.underlying22 rfl) ?_
    refine S_on rfl rfl ?_
    refine S_val (Y_eql rfl rfl) ?_
    refine S_val (Y_pickT rfl rfl) ?_
    refine S_val (Y_move rfl) ?_
    refine S_g 60 rfl (fun hb3 => ?_) (fun hb3 => ?_)  -- g9
    · -- g9T
     first | with_reducible (replace hb3 := nb_nt hb3) | with_reducible (replace hb3 := nb_tt hb3) | with_reducible (replace hb3 := nb_bt hb3) | skip
     refine S_on rfl rfl ?_
     refine S_val (Y_loadS Try.underlying25 rfl sz25 rfl (B1.row (by rfl))) ?_  -- l17
     refine S_on rfl rfl ?_
     refine S_val (Y_field Try.underlying25 rfl fz25_1 (by decide) rfl) ?_
     refine S_on rfl rfl ?_
     refine S_val (Y_load Try.underlying22 rfl rfl (B1.at (by rfl))) ?_  -- l18
     refine S_on rfl rfl ?_
     refine S_call rfl en93 (spec_l7Refs_c _ _ _ _ _ _ _ _ (by assumption) _ _ _ (by assumption) (by omega) (by omega)) ?_  -- k5 spec.l7Refs
     rintro v9 w9 ⟨rfl, g9⟩
     replace hA := hA.grow g9
     replace hB := hB.grow g9
     replace G := G.grow g9
     replace B1 := B1.grow g9
     have zg9 := g9.size
     refine S_val (Y_pickT rfl rfl) ?_
     refine S_val (Y_assign rfl) ?_
     refine S_nl rfl rfl ?_
     refine th_n (hK17 _ _ ?_)
     clear hK17 K17
     refine wp_ret ?_
     refine ret_r1 rfl rfl ?_  -- r9
     refine ⟨bAD ?_, G⟩
     constructor
     · exact fun e => ⟨by omega, by omega, hall, e⟩
     · exact fun e => e.2.2.2
    · -- g9F
     first | with_reducible (replace hb3 := nb_nf hb3) | with_reducible (replace hb3 := nb_tf hb3) | with_reducible (replace hb3 := nb_bf hb3) | skip
     refine S_off rfl rfl ?_
     refine S_off rfl rfl ?_
     refine S_off rfl rfl ?_
     refine S_off rfl rfl ?_
     refine S_val (Y_pickF rfl rfl) ?_
     refine S_val (Y_assign rfl) ?_
     refine S_nl rfl rfl ?_
     refine th_n (hK17 _ _ ?_)
     clear hK17 K17
     refine wp_ret ?_
     refine ret_r1 rfl rfl ?_  -- r10
     exact ⟨bF (by omega), G⟩
   · -- g8F
    replace hb2 := nb_tf hb2
    refine S_off rfl rfl ?_
    refine S_off rfl rfl ?_
    refine S_off rfl rfl ?_
    refine S_off rfl rfl ?_
    refine S_val (Y_pickF rfl rfl) ?_
    refine S_val (Y_move rfl) ?_
    refine S_off rfl rfl ?_
    refine S_off rfl rfl ?_
    refine S_off rfl rfl ?_
    refine S_off rfl rfl ?_
    refine S_val (Y_pickF rfl rfl) ?_
    refine S_val (Y_assign rfl) ?_
    refine S_nl rfl rfl ?_
    refine th_n (hK17 _ _ ?_)
    clear hK17 K17
    refine wp_ret ?_
    refine ret_r1 rfl rfl ?_  -- r11
    exact ⟨bF (by omega), G⟩

end Go.Proofs.Ytjmfdmndchoplaa
