/-
  Walks: instructions that have an effect.
  Conditions: those that each theorem states.
-/
import Derived.Test.YtdfifnplgbceaaaTy
import Derived.Test.YtdfifnplgbceaaaWalkN
import Derived.Test.YtdfifnplgbceaaaPoss
namespace Go.Proofs.Ytdfifnplgbceaaa
open Go Go.RowKit
attribute [local irreducible] wpList wpAnyH Code.wp dOp

set_option maxHeartbeats 400000 in
set_option maxRecDepth 20000 in
theorem impl_place_c (Pr : Nat → Prop) (A B : Option Addr) (h : LH) (c d n : Nat) (pc : Int) (w : World) (hA : RC Pr w A h.cells) (hB : R1 Pr w B (ints h.roots)) (hz : hsize h ≤ 1048576) (va : Valid h) (hn : n < 4) (hpc : 0 ≤ pc) :
    Calls Try.prog 96 #[.agg #[.slice A h.cells.length c, .slice B h.roots.length d], .int .i64 (n : Int), .int .i64 pc] w (Ret fun v w' => ∃ p, v = .tuple #[p, .bool (placeB h (n : Int) pc)] ∧ Grow w w') := by
  have hz1 := hsize_cells h
  have hz2 := hsize_roots h
  have hr4 := va.roots4
  have hn4 : n < h.roots.length := by omega
  refine enter Try.func96 rfl Try.ntmps96 (L := (_ :: _ :: _ :: _ :: _ :: _ :: _ :: _ :: _ :: _ :: _ :: _ :: _ :: _ :: _ :: _ :: _ :: _ :: _ :: _ :: _ :: _ :: _ :: _ :: _ :: _ :: _ :: _ :: _ :: _ :: _ :: _ :: _ :: _ :: _ :: [])) rfl ?_
  have G := Mod.refl No w
  have hA0 := hA
  have hB0 := hB
  refine wp_seq_k fun K1 hK1 => ?_
  refine wp_region_lit ?_  -- region 0 l8_programs.go:32
  refine S_beg 35 rfl ?_
  refine S_box (cs := [_, _]) rfl rfl ?_
  intro b1 w1 fb1 g1 B1
  have lb1 := B1.lt
  replace hA := hA.grow g1
  replace hB := hB.grow g1
  replace G := G.grow g1
  have zg1 := g1.size
  obtain ⟨g1, o1, e1, hp1, hc1⟩ := hB.int hn4
  cases e1
  refine S_val (Y_assign rfl) ?_
  refine S_val (Y_assign rfl) ?_
  refine S_nil (L' := (_ :: _ :: _ :: _ :: _ :: _ :: _ :: _ :: _ :: _ :: _ :: _ :: _ :: _ :: _ :: _ :: _ :: _ :: _ :: _ :: _ :: _ :: _ :: _ :: _ :: _ :: _ :: _ :: _ :: _ :: _ :: _ :: _ :: _ :: _ :: [])) rfl rfl ?_
  refine th_n ?_
  refine hK1 _ _ ?_
  clear hK1 K1
  refine wp_seq_k fun K2 hK2 => ?_
  refine wp_region_lit ?_  -- region 1 l8_programs.go:33
  refine S_beg 35 rfl ?_
  refine S_val (Y_field Try.underlying30 rfl fz30_1 (by decide) rfl) ?_
  refine S_val (Y_load Try.underlying23 rfl rfl (by first | assumption | exact B1.at (by rfl))) ?_  -- l1
  refine S_val (Y_move rfl) ?_
  refine S_val (Y_index Try.underlying23 sz3 rfl rfl (by first | assumption | omega)) ?_
  refine S_val (Y_load Try.underlying3 rfl rfl (by first | assumption | exact B1.at (by rfl))) ?_  -- l2
  refine S_val (Y_assign rfl) ?_
  refine S_nil (L' := (_ :: _ :: _ :: _ :: _ :: _ :: _ :: _ :: _ :: _ :: _ :: _ :: _ :: _ :: _ :: _ :: _ :: _ :: _ :: _ :: _ :: _ :: _ :: _ :: _ :: _ :: _ :: _ :: _ :: _ :: _ :: _ :: _ :: _ :: _ :: [])) rfl rfl ?_
  refine th_n ?_
  refine hK2 _ _ ?_
  clear hK2 K2
  refine wp_seq_k fun K3 hK3 => ?_
  refine wp_seq_k fun K4 hK4 => ?_
  refine wp_region_lit ?_  -- region 2 l8_programs.go:34
  refine S_beg 35 rfl ?_
  refine S_val (Y_move rfl) ?_
  refine S_val (Y_lss rfl rfl) ?_
  refine S_val (Y_move rfl) ?_
  refine S_g 16 rfl (fun hb1 => ?_) (fun hb1 => ?_)  -- g1
  · -- g1T
    first | with_reducible (replace hb1 := nb_nt hb1) | with_reducible (replace hb1 := nb_nf hb1) | with_reducible (replace hb1 := nb_tt hb1) | with_reducible (replace hb1 := nb_tf hb1) | with_reducible (replace hb1 := nb_bt hb1) | with_reducible (replace hb1 := nb_bf hb1) | skip
    refine S_off rfl rfl ?_
    refine S_off rfl rfl ?_
    refine S_off rfl rfl ?_
    refine S_off rfl rfl ?_
    refine S_off rfl rfl ?_
    refine S_off rfl rfl ?_
    refine S_off rfl rfl ?_
    refine S_off rfl rfl ?_
    refine S_off rfl rfl ?_
    refine S_val (Y_pickT rfl rfl) ?_
    refine S_nil (L' := (_ :: _ :: _ :: _ :: _ :: _ :: _ :: _ :: _ :: _ :: _ :: _ :: _ :: _ :: _ :: _ :: _ :: _ :: _ :: _ :: _ :: _ :: _ :: _ :: _ :: _ :: _ :: _ :: _ :: _ :: _ :: _ :: _ :: _ :: _ :: [])) rfl rfl ?_
    refine th_n ?_
    refine hK4 _ _ ?_
    clear hK4 K4
    refine S_ifT rfl ?_
    refine wp_seq_k fun K5 hK5 => ?_
    refine wp_region_lit ?_  -- region 3 l8_programs.go:35
    refine S_beg 35 rfl ?_
    refine S_val (Y_assign rfl) ?_
    refine S_val (Y_assign rfl) ?_
    refine S_nil (L' := (_ :: _ :: _ :: _ :: _ :: _ :: _ :: _ :: _ :: _ :: _ :: _ :: _ :: _ :: _ :: _ :: _ :: _ :: _ :: _ :: _ :: _ :: _ :: _ :: _ :: _ :: _ :: _ :: _ :: _ :: _ :: _ :: _ :: _ :: _ :: [])) rfl rfl ?_
    refine th_n ?_
    refine hK5 _ _ ?_
    clear hK5 K5
    refine wp_ret ?_
    refine th_r ?_
    clear hK3 K3
    refine ret_r2 rfl rfl rfl ?_  -- r1
    exact ⟨_, by rw [placeB_neg hn4 hb1], G⟩
  · -- g1F
    first | with_reducible (replace hb1 := nb_nt hb1) | with_reducible (replace hb1 := nb_nf hb1) | with_reducible (replace hb1 := nb_tt hb1) | with_reducible (replace hb1 := nb_tf hb1) | with_reducible (replace hb1 := nb_bt hb1) | with_reducible (replace hb1 := nb_bf hb1) | skip
    obtain ⟨m, hm, hmN⟩ := valid_root va hn4 (by omega)
    obtain ⟨g2, o2, E2, d2, rfl, hp2, cc20, hE20⟩ := hA0.cell hmN
    have cc2 := cc20.grow G
    have hE2 := hE20.grow G
    rw [hm]
    have hpl := placeB_pos (c := pc) hn4 hm hmN
    refine S_on rfl rfl ?_
    refine S_val (Y_move rfl) ?_
    refine S_on rfl rfl ?_
    refine S_val (Y_field Try.underlying30 rfl fz30_0 (by decide) rfl) ?_
    refine S_on rfl rfl ?_
    refine S_val (Y_load Try.underlying28 rfl rfl (by first | assumption | exact B1.at (by rfl) | exact cc2.at (by rfl))) ?_  -- l3
    refine S_on rfl rfl ?_
    refine S_val (Y_move rfl) ?_
    refine S_on rfl rfl ?_
    refine S_val (Y_index Try.underlying28 sz83 rfl rfl (by first | assumption | omega)) ?_
    refine S_on rfl rfl ?_
    refine S_val (Y_field Try.underlying83 rfl fz83_2 (by decide) rfl) ?_
    refine S_on rfl rfl ?_
    refine S_val (Y_load Try.underlying23 rfl rfl (by first | assumption | exact B1.at (by rfl) | exact cc2.at (by rfl))) ?_  -- l4
    refine S_on rfl rfl ?_
    refine S_val (Y_len Try.underlying23 rfl) ?_
    refine S_on rfl rfl ?_
    refine S_val (Y_geq rfl rfl) ?_
    refine S_val (Y_pickF rfl rfl) ?_
    refine S_nil (L' := (_ :: _ :: _ :: _ :: _ :: _ :: _ :: _ :: _ :: _ :: _ :: _ :: _ :: _ :: _ :: _ :: _ :: _ :: _ :: _ :: _ :: _ :: _ :: _ :: _ :: _ :: _ :: _ :: _ :: _ :: _ :: _ :: _ :: _ :: _ :: [])) rfl rfl ?_
    refine th_n ?_
    refine hK4 _ _ ?_
    clear hK4 K4
    refine S_if rfl (fun hb2 => ?_) (fun hb2 => ?_)  -- c1
    · -- c1T
      first | with_reducible (replace hb2 := nb_nt hb2) | with_reducible (replace hb2 := nb_nf hb2) | with_reducible (replace hb2 := nb_tt hb2) | with_reducible (replace hb2 := nb_tf hb2) | with_reducible (replace hb2 := nb_bt hb2) | with_reducible (replace hb2 := nb_bf hb2) | skip
      refine wp_seq_k fun K6 hK6 => ?_
      refine wp_region_lit ?_  -- region 3 l8_programs.go:35
      refine S_beg 35 rfl ?_
      refine S_val (Y_assign rfl) ?_
      refine S_val (Y_assign rfl) ?_
      refine S_nil (L' := (_ :: _ :: _ :: _ :: _ :: _ :: _ :: _ :: _ :: _ :: _ :: _ :: _ :: _ :: _ :: _ :: _ :: _ :: _ :: _ :: _ :: _ :: _ :: _ :: _ :: _ :: _ :: _ :: _ :: _ :: _ :: _ :: _ :: _ :: _ :: [])) rfl rfl ?_
      refine th_n ?_
      refine hK6 _ _ ?_
      clear hK6 K6
      refine wp_ret ?_
      refine th_r ?_
      clear hK3 K3
      refine ret_r2 rfl rfl rfl ?_  -- r2
      rw [decide_eq_false (by omega)] at hpl
      exact ⟨_, by rw [hpl], G⟩
    · -- c1F
      first | with_reducible (replace hb2 := nb_nt hb2) | with_reducible (replace hb2 := nb_nf hb2) | with_reducible (replace hb2 := nb_tt hb2) | with_reducible (replace hb2 := nb_tf hb2) | with_reducible (replace hb2 := nb_bt hb2) | with_reducible (replace hb2 := nb_bf hb2) | skip
      have hpn : ∃ q : Nat, pc = (q : Int) := ⟨pc.toNat, by omega⟩
      obtain ⟨q, rfl⟩ := hpn
      have hlt : q < h.cells[m].refs.length := by
        have h9 := Int.not_le.1 hb2
        exact Int.ofNat_lt.1 h9
      obtain ⟨g5, o5, e5, hp5, hc5⟩ := hE2.int hlt
      cases e5
      refine wp_skip ?_
      refine th_n ?_
      refine hK3 _ _ ?_
      clear hK3 K3
      refine wp_seq_k fun K7 hK7 => ?_
      refine wp_region_lit ?_  -- region 4 l8_programs.go:37
      refine S_beg 35 rfl ?_
      refine S_val (Y_field Try.underlying30 rfl fz30_0 (by decide) rfl) ?_
      refine S_val (Y_load Try.underlying28 rfl rfl (by first | assumption | exact B1.at (by rfl) | exact cc2.at (by rfl))) ?_  -- l5
      refine S_val (Y_move rfl) ?_
      refine S_val (Y_index Try.underlying28 sz83 rfl rfl (by first | assumption | omega)) ?_
      refine S_val (Y_field Try.underlying83 rfl fz83_2 (by decide) rfl) ?_
      refine S_val (Y_load Try.underlying23 rfl rfl (by first | assumption | exact B1.at (by rfl) | exact cc2.at (by rfl))) ?_  -- l6
      refine S_val (Y_move rfl) ?_
      refine S_val (Y_index Try.underlying23 sz3 rfl rfl (by first | assumption | omega)) ?_
      refine S_val (Y_assign rfl) ?_
      refine S_val (Y_assign rfl) ?_
      refine S_nil (L' := (_ :: _ :: _ :: _ :: _ :: _ :: _ :: _ :: _ :: _ :: _ :: _ :: _ :: _ :: _ :: _ :: _ :: _ :: _ :: _ :: _ :: _ :: _ :: _ :: _ :: _ :: _ :: _ :: _ :: _ :: _ :: _ :: _ :: _ :: _ :: [])) rfl rfl ?_
      refine th_n ?_
      refine hK7 _ _ ?_
      clear hK7 K7
      refine wp_ret ?_
      refine ret_r2 rfl rfl rfl ?_  -- r3
      rw [decide_eq_true (by omega)] at hpl
      exact ⟨_, by rw [hpl], G⟩

set_option maxHeartbeats 400000 in
set_option maxRecDepth 20000 in
theorem spec_l8Place_c (Pr : Nat → Prop) (A B : Option Addr) (h : LH) (c d n : Nat) (r pc : Int) (w : World) (hA : RC Pr w A h.cells) (hB : R1 Pr w B (ints h.roots)) (hz : hsize h ≤ 1048576) (va : Valid h) (hn : n < h.roots.length) (hr : h.roots[n] = r) :
    Calls Try.prog 65 #[.agg #[.slice A h.cells.length c, .slice B h.roots.length d], .int .i64 r, .int .i64 pc] w (Ret fun v w' => v = .bool (placeB h (n : Int) pc) ∧ Grow w w') := by
  have hz1 := hsize_cells h
  have hz2 := hsize_roots h
  refine enter Try.func65 rfl Try.ntmps65 (L := (_ :: _ :: _ :: _ :: _ :: _ :: _ :: _ :: _ :: _ :: _ :: _ :: _ :: _ :: _ :: _ :: _ :: _ :: _ :: _ :: [])) rfl ?_
  have G := Mod.refl No w
  have hA0 := hA
  have hB0 := hB
  refine wp_seq_k fun K1 hK1 => ?_
  refine wp_region_lit ?_  -- region 0 l8_programs.go:35
  refine S_beg 20 rfl ?_
  refine S_box (cs := [_, _]) rfl rfl ?_
  intro b1 w1 fb1 g1 B1
  have lb1 := B1.lt
  replace hA := hA.grow g1
  replace hB := hB.grow g1
  replace G := G.grow g1
  have zg1 := g1.size
  refine S_val (Y_assign rfl) ?_
  refine S_nil (L' := (_ :: _ :: _ :: _ :: _ :: _ :: _ :: _ :: _ :: _ :: _ :: _ :: _ :: _ :: _ :: _ :: _ :: _ :: _ :: _ :: [])) rfl rfl ?_
  refine th_n ?_
  refine hK1 _ _ ?_
  clear hK1 K1
  refine wp_seq_k fun K2 hK2 => ?_
  refine wp_region_lit ?_  -- region 1 l8_programs.go:36
  refine S_beg 20 rfl ?_
  refine S_val (Y_move rfl) ?_
  refine S_val (Y_geq rfl rfl) ?_
  refine S_val (Y_move rfl) ?_
  refine S_g 9 rfl (fun hb1 => ?_) (fun hb1 => ?_)  -- g1
  · -- g1T
    first | with_reducible (replace hb1 := nb_nt hb1) | with_reducible (replace hb1 := nb_nf hb1) | with_reducible (replace hb1 := nb_tt hb1) | with_reducible (replace hb1 := nb_tf hb1) | with_reducible (replace hb1 := nb_bt hb1) | with_reducible (replace hb1 := nb_bf hb1) | skip
    obtain ⟨m, hm, hmN⟩ := valid_root va hn (by omega)
    obtain ⟨g2, o2, E2, d2, rfl, hp2, cc20, _⟩ := hA0.cell hmN
    have cc2 := cc20.grow G
    have hpl := placeB_pos (c := pc) hn hm hmN
    rw [hr] at hm
    subst hm
    refine S_on rfl rfl ?_
    refine S_val (Y_move rfl) ?_
    refine S_on rfl rfl ?_
    refine S_val (Y_field Try.underlying30 rfl fz30_0 (by decide) rfl) ?_
    refine S_on rfl rfl ?_
    refine S_val (Y_load Try.underlying28 rfl rfl (by first | assumption | exact B1.at (by rfl) | exact cc2.at (by rfl))) ?_  -- l1
    refine S_on rfl rfl ?_
    refine S_val (Y_move rfl) ?_
    refine S_on rfl rfl ?_
    refine S_val (Y_index Try.underlying28 sz83 rfl rfl (by first | assumption | omega)) ?_
    refine S_on rfl rfl ?_
    refine S_val (Y_field Try.underlying83 rfl fz83_2 (by decide) rfl) ?_
    refine S_on rfl rfl ?_
    refine S_val (Y_load Try.underlying23 rfl rfl (by first | assumption | exact B1.at (by rfl) | exact cc2.at (by rfl))) ?_  -- l2
    refine S_on rfl rfl ?_
    refine S_val (Y_len Try.underlying23 rfl) ?_
    refine S_on rfl rfl ?_
    refine S_val (Y_lss rfl rfl) ?_
    refine S_val (Y_pickT rfl rfl) ?_
    refine S_val (Y_assign rfl) ?_
    refine S_nil (L' := (_ :: _ :: _ :: _ :: _ :: _ :: _ :: _ :: _ :: _ :: _ :: _ :: _ :: _ :: _ :: _ :: _ :: _ :: _ :: _ :: [])) rfl rfl ?_
    refine th_n ?_
    refine hK2 _ _ ?_
    clear hK2 K2
    refine wp_ret ?_
    refine ret_r1 rfl rfl ?_  -- r1
    exact ⟨by rw [hpl], G⟩
  · -- g1F
    first | with_reducible (replace hb1 := nb_nt hb1) | with_reducible (replace hb1 := nb_nf hb1) | with_reducible (replace hb1 := nb_tt hb1) | with_reducible (replace hb1 := nb_tf hb1) | with_reducible (replace hb1 := nb_bt hb1) | with_reducible (replace hb1 := nb_bf hb1) | skip
    refine S_off rfl rfl ?_
    refine S_off rfl rfl ?_
    refine S_off rfl rfl ?_
    refine S_off rfl rfl ?_
    refine S_off rfl rfl ?_
    refine S_off rfl rfl ?_
    refine S_off rfl rfl ?_
    refine S_off rfl rfl ?_
    refine S_off rfl rfl ?_
    refine S_val (Y_pickF rfl rfl) ?_
    refine S_val (Y_assign rfl) ?_
    refine S_nil (L' := (_ :: _ :: _ :: _ :: _ :: _ :: _ :: _ :: _ :: _ :: _ :: _ :: _ :: _ :: _ :: _ :: _ :: _ :: _ :: _ :: [])) rfl rfl ?_
    refine th_n ?_
    refine hK2 _ _ ?_
    clear hK2 K2
    refine wp_ret ?_
    refine ret_r1 rfl rfl ?_  -- r2
    exact ⟨by rw [placeB_neg hn (by omega)], G⟩

set_option maxHeartbeats 400000 in
set_option maxRecDepth 20000 in
theorem impl_always_c (Pr : Nat → Prop) (A B : Option Addr) (h : LH) (c d : Nat) (oop oa ob oc : Int) (w : World) (hA : RC Pr w A h.cells) (hB : R1 Pr w B (ints h.roots)) (hz : hsize h ≤ 1048576) (va : Valid h) :
    Calls Try.prog 94 #[.agg #[.slice A h.cells.length c, .slice B h.roots.length d], .agg #[.int .i64 oop, .int .i64 oa, .int .i64 ob, .int .i64 oc]] w (Ret fun v w' => v = .bool true ∧ Grow w w') := by
  refine enter Try.func94 rfl Try.ntmps94 (L := (_ :: _ :: _ :: _ :: _ :: [])) rfl ?_
  have G := Mod.refl No w
  have hA0 := hA
  have hB0 := hB
  refine wp_seq_k fun K1 hK1 => ?_
  refine wp_region_lit ?_  -- region 0 l8_programs.go:41
  refine S_beg 5 rfl ?_
  refine S_box (cs := [_, _]) rfl rfl ?_
  intro b1 w1 fb1 g1 B1
  have lb1 := B1.lt
  replace hA := hA.grow g1
  replace hB := hB.grow g1
  replace G := G.grow g1
  have zg1 := g1.size
  refine S_box (cs := [_, _, _, _]) rfl rfl ?_
  intro b2 w2 fb2 g2 B2
  have lb2 := B2.lt
  replace hA := hA.grow g2
  replace hB := hB.grow g2
  replace G := G.grow g2
  replace B1 := B1.grow g2
  have zg2 := g2.size
  refine S_val (Y_assign rfl) ?_
  refine S_nil (L' := (_ :: _ :: _ :: _ :: _ :: [])) rfl rfl ?_
  refine th_n ?_
  refine hK1 _ _ ?_
  clear hK1 K1
  refine wp_seq_k fun K2 hK2 => ?_
  refine wp_region_lit ?_  -- region 1 l8_programs.go:41
  refine S_beg 5 rfl ?_
  refine S_val (Y_assign rfl) ?_
  refine S_nil (L' := (_ :: _ :: _ :: _ :: _ :: [])) rfl rfl ?_
  refine th_n ?_
  refine hK2 _ _ ?_
  clear hK2 K2
  refine wp_ret ?_
  refine ret_r1 rfl rfl ?_  -- r1
  exact ⟨rfl, G⟩

set_option maxHeartbeats 400000 in
set_option maxRecDepth 20000 in
theorem impl_operations_1_c (Pr : Nat → Prop) (A B : Option Addr) (h : LH) (c d : Nat) (oop oa ob oc : Int) (w : World) (hA : RC Pr w A h.cells) (hB : R1 Pr w B (ints h.roots)) (hz : hsize h ≤ 1048576) (va : Valid h) (hob : 0 ≤ ob ∧ ob ≤ 3) (hoc : 0 ≤ oc) :
    Calls Try.prog 95 #[.agg #[.slice A h.cells.length c, .slice B h.roots.length d], .agg #[.int .i64 oop, .int .i64 oa, .int .i64 ob, .int .i64 oc]] w (Ret fun v w' => v = .bool (placeB h ob oc) ∧ Grow w w') := by
  have hz1 := hsize_cells h
  have hz2 := hsize_roots h
  obtain ⟨n, rfl⟩ := Int.eq_ofNat_of_zero_le hob.1
  refine enter Try.func95 rfl Try.ntmps95 (L := (_ :: _ :: _ :: _ :: _ :: _ :: _ :: _ :: _ :: _ :: _ :: _ :: _ :: _ :: _ :: _ :: _ :: [])) rfl ?_
  have G := Mod.refl No w
  have hA0 := hA
  have hB0 := hB
  refine wp_seq_k fun K1 hK1 => ?_
  refine wp_region_lit ?_  -- region 0 l8_programs.go:47
  refine S_beg 17 rfl ?_
  refine S_box (cs := [_, _]) rfl rfl ?_
  intro b1 w1 fb1 g1 B1
  have lb1 := B1.lt
  replace hA := hA.grow g1
  replace hB := hB.grow g1
  replace G := G.grow g1
  have zg1 := g1.size
  refine S_box (cs := [_, _, _, _]) rfl rfl ?_
  intro b2 w2 fb2 g2 B2
  have lb2 := B2.lt
  replace hA := hA.grow g2
  replace hB := hB.grow g2
  replace G := G.grow g2
  replace B1 := B1.grow g2
  have zg2 := g2.size
  refine S_val (Y_assign rfl) ?_
  refine S_nil (L' := (_ :: _ :: _ :: _ :: _ :: _ :: _ :: _ :: _ :: _ :: _ :: _ :: _ :: _ :: _ :: _ :: _ :: [])) rfl rfl ?_
  refine th_n ?_
  refine hK1 _ _ ?_
  clear hK1 K1
  refine wp_seq_k fun K2 hK2 => ?_
  refine wp_region_lit ?_  -- region 1 l8_programs.go:48
  refine S_beg 17 rfl ?_
  refine S_val (Y_loadS Try.underlying30 rfl sz30 rfl (by first | assumption | exact B1.row (by rfl) | exact B2.row (by rfl))) ?_  -- l1
  refine S_val (Y_field Try.underlying40 rfl fz40_2 (by decide) rfl) ?_
  refine S_val (Y_load Try.underlying3 rfl rfl (by first | assumption | exact B1.at (by rfl) | exact B2.at (by rfl))) ?_  -- l2
  refine S_val (Y_field Try.underlying40 rfl fz40_3 (by decide) rfl) ?_
  refine S_val (Y_load Try.underlying3 rfl rfl (by first | assumption | exact B1.at (by rfl) | exact B2.at (by rfl))) ?_  -- l3
  refine S_call rfl en96 (impl_place_c _ _ _ h _ _ _ _ _ (by assumption) (by assumption) (by omega) (by assumption) (by omega) (by omega)) ?_  -- k1 impl.place
  rintro v3 w3 ⟨p3, rfl, g3⟩
  replace hA := hA.grow g3
  replace hB := hB.grow g3
  replace G := G.grow g3
  replace B1 := B1.grow g3
  replace B2 := B2.grow g3
  have zg3 := g3.size
  refine S_val (Y_move rfl) ?_
  refine S_val (Y_extract rfl rfl) ?_
  refine S_val (Y_extract rfl rfl) ?_
  refine S_val (Y_assign rfl) ?_
  refine S_val (Y_assign rfl) ?_
  refine S_nil (L' := (_ :: _ :: _ :: _ :: _ :: _ :: _ :: _ :: _ :: _ :: _ :: _ :: _ :: _ :: _ :: _ :: _ :: [])) rfl rfl ?_
  refine th_n ?_
  refine hK2 _ _ ?_
  clear hK2 K2
  refine wp_seq_k fun K3 hK3 => ?_
  refine wp_region_lit ?_  -- region 2 l8_programs.go:49
  refine S_beg 17 rfl ?_
  refine S_val (Y_move rfl) ?_
  refine S_val (Y_assign rfl) ?_
  refine S_nil (L' := (_ :: _ :: _ :: _ :: _ :: _ :: _ :: _ :: _ :: _ :: _ :: _ :: _ :: _ :: _ :: _ :: _ :: [])) rfl rfl ?_
  refine th_n ?_
  refine hK3 _ _ ?_
  clear hK3 K3
  refine wp_ret ?_
  refine ret_r1 rfl rfl ?_  -- r1
  exact ⟨rfl, G⟩

set_option maxHeartbeats 400000 in
set_option maxRecDepth 20000 in
theorem impl_operations_3_c (Pr : Nat → Prop) (A B : Option Addr) (h : LH) (c d : Nat) (oop oa ob oc : Int) (w : World) (hA : RC Pr w A h.cells) (hB : R1 Pr w B (ints h.roots)) (hz : hsize h ≤ 1048576) (va : Valid h) (hoa : 0 ≤ oa ∧ oa ≤ 3) (hoc : 0 ≤ oc) :
    Calls Try.prog 98 #[.agg #[.slice A h.cells.length c, .slice B h.roots.length d], .agg #[.int .i64 oop, .int .i64 oa, .int .i64 ob, .int .i64 oc]] w (Ret fun v w' => v = .bool (placeB h oa oc) ∧ Grow w w') := by
  have hz1 := hsize_cells h
  have hz2 := hsize_roots h
  obtain ⟨n, rfl⟩ := Int.eq_ofNat_of_zero_le hoa.1
  refine enter Try.func98 rfl Try.ntmps98 (L := (_ :: _ :: _ :: _ :: _ :: _ :: _ :: _ :: _ :: _ :: _ :: _ :: _ :: _ :: _ :: _ :: _ :: [])) rfl ?_
  have G := Mod.refl No w
  have hA0 := hA
  have hB0 := hB
  refine wp_seq_k fun K1 hK1 => ?_
  refine wp_region_lit ?_  -- region 0 l8_programs.go:55
  refine S_beg 17 rfl ?_
  refine S_box (cs := [_, _]) rfl rfl ?_
  intro b1 w1 fb1 g1 B1
  have lb1 := B1.lt
  replace hA := hA.grow g1
  replace hB := hB.grow g1
  replace G := G.grow g1
  have zg1 := g1.size
  refine S_box (cs := [_, _, _, _]) rfl rfl ?_
  intro b2 w2 fb2 g2 B2
  have lb2 := B2.lt
  replace hA := hA.grow g2
  replace hB := hB.grow g2
  replace G := G.grow g2
  replace B1 := B1.grow g2
  have zg2 := g2.size
  refine S_val (Y_assign rfl) ?_
  refine S_nil (L' := (_ :: _ :: _ :: _ :: _ :: _ :: _ :: _ :: _ :: _ :: _ :: _ :: _ :: _ :: _ :: _ :: _ :: [])) rfl rfl ?_
  refine th_n ?_
  refine hK1 _ _ ?_
  clear hK1 K1
  refine wp_seq_k fun K2 hK2 => ?_
  refine wp_region_lit ?_  -- region 1 l8_programs.go:56
  refine S_beg 17 rfl ?_
  refine S_val (Y_loadS Try.underlying30 rfl sz30 rfl (by first | assumption | exact B1.row (by rfl) | exact B2.row (by rfl))) ?_  -- l1
  refine S_val (Y_field Try.underlying40 rfl fz40_1 (by decide) rfl) ?_
  refine S_val (Y_load Try.underlying3 rfl rfl (by first | assumption | exact B1.at (by rfl) | exact B2.at (by rfl))) ?_  -- l2
  refine S_val (Y_field Try.underlying40 rfl fz40_3 (by decide) rfl) ?_
  refine S_val (Y_load Try.underlying3 rfl rfl (by first | assumption | exact B1.at (by rfl) | exact B2.at (by rfl))) ?_  -- l3
  refine S_call rfl en96 (impl_place_c _ _ _ h _ _ _ _ _ (by assumption) (by assumption) (by omega) (by assumption) (by omega) (by omega)) ?_  -- k1 impl.place
  rintro v3 w3 ⟨p3, rfl, g3⟩
  replace hA := hA.grow g3
  replace hB := hB.grow g3
  replace G := G.grow g3
  replace B1 := B1.grow g3
  replace B2 := B2.grow g3
  have zg3 := g3.size
  refine S_val (Y_move rfl) ?_
  refine S_val (Y_extract rfl rfl) ?_
  refine S_val (Y_extract rfl rfl) ?_
  refine S_val (Y_assign rfl) ?_
  refine S_val (Y_assign rfl) ?_
  refine S_nil (L' := (_ :: _ :: _ :: _ :: _ :: _ :: _ :: _ :: _ :: _ :: _ :: _ :: _ :: _ :: _ :: _ :: _ :: [])) rfl rfl ?_
  refine th_n ?_
  refine hK2 _ _ ?_
  clear hK2 K2
  refine wp_seq_k fun K3 hK3 => ?_
  refine wp_region_lit ?_  -- region 2 l8_programs.go:57
  refine S_beg 17 rfl ?_
  refine S_val (Y_move rfl) ?_
  refine S_val (Y_assign rfl) ?_
  refine S_nil (L' := (_ :: _ :: _ :: _ :: _ :: _ :: _ :: _ :: _ :: _ :: _ :: _ :: _ :: _ :: _ :: _ :: _ :: [])) rfl rfl ?_
  refine th_n ?_
  refine hK3 _ _ ?_
  clear hK3 K3
  refine wp_ret ?_
  refine ret_r1 rfl rfl ?_  -- r1
  exact ⟨rfl, G⟩

set_option maxHeartbeats 400000 in
set_option maxRecDepth 20000 in
theorem impl_operations_7_c (Pr : Nat → Prop) (A B : Option Addr) (h : LH) (c d : Nat) (oop oa ob oc : Int) (w : World) (hA : RC Pr w A h.cells) (hB : R1 Pr w B (ints h.roots)) (hz : hsize h ≤ 1048576) (va : Valid h) (hoa : 0 ≤ oa ∧ oa ≤ 3) :
    Calls Try.prog 102 #[.agg #[.slice A h.cells.length c, .slice B h.roots.length d], .agg #[.int .i64 oop, .int .i64 oa, .int .i64 ob, .int .i64 oc]] w (Ret fun v w' => v = .bool (rootB h oa) ∧ Grow w w') := by
  have hz1 := hsize_cells h
  have hz2 := hsize_roots h
  obtain ⟨n, rfl⟩ := Int.eq_ofNat_of_zero_le hoa.1
  have hr4 := va.roots4
  have hn4 : n < h.roots.length := by omega
  refine enter Try.func102 rfl Try.ntmps102 (L := (_ :: _ :: _ :: _ :: _ :: _ :: _ :: _ :: _ :: _ :: _ :: _ :: [])) rfl ?_
  have G := Mod.refl No w
  have hA0 := hA
  have hB0 := hB
  refine wp_seq_k fun K1 hK1 => ?_
  refine wp_region_lit ?_  -- region 0 l8_programs.go:65
  refine S_beg 12 rfl ?_
  refine S_box (cs := [_, _]) rfl rfl ?_
  intro b1 w1 fb1 g1 B1
  have lb1 := B1.lt
  replace hA := hA.grow g1
  replace hB := hB.grow g1
  replace G := G.grow g1
  have zg1 := g1.size
  refine S_box (cs := [_, _, _, _]) rfl rfl ?_
  intro b2 w2 fb2 g2 B2
  have lb2 := B2.lt
  replace hA := hA.grow g2
  replace hB := hB.grow g2
  replace G := G.grow g2
  replace B1 := B1.grow g2
  have zg2 := g2.size
  obtain ⟨g1, o1, e1, hp1, hc1⟩ := hB.int hn4
  cases e1
  refine S_val (Y_assign rfl) ?_
  refine S_nil (L' := (_ :: _ :: _ :: _ :: _ :: _ :: _ :: _ :: _ :: _ :: _ :: _ :: [])) rfl rfl ?_
  refine th_n ?_
  refine hK1 _ _ ?_
  clear hK1 K1
  refine wp_seq_k fun K2 hK2 => ?_
  refine wp_region_lit ?_  -- region 1 l8_programs.go:65
  refine S_beg 12 rfl ?_
  refine S_val (Y_field Try.underlying30 rfl fz30_1 (by decide) rfl) ?_
  refine S_val (Y_load Try.underlying23 rfl rfl (by first | assumption | exact B1.at (by rfl) | exact B2.at (by rfl))) ?_  -- l1
  refine S_val (Y_field Try.underlying40 rfl fz40_1 (by decide) rfl) ?_
  refine S_val (Y_load Try.underlying3 rfl rfl (by first | assumption | exact B1.at (by rfl) | exact B2.at (by rfl))) ?_  -- l2
  refine S_val (Y_index Try.underlying23 sz3 rfl rfl (by first | assumption | omega)) ?_
  refine S_val (Y_load Try.underlying3 rfl rfl (by first | assumption | exact B1.at (by rfl) | exact B2.at (by rfl))) ?_  -- l3
  refine S_val (Y_geq rfl rfl) ?_
  refine S_val (Y_assign rfl) ?_
  refine S_nil (L' := (_ :: _ :: _ :: _ :: _ :: _ :: _ :: _ :: _ :: _ :: _ :: _ :: [])) rfl rfl ?_
  refine th_n ?_
  refine hK2 _ _ ?_
  clear hK2 K2
  refine wp_ret ?_
  refine ret_r1 rfl rfl ?_  -- r1
  exact ⟨by rw [rootB_at hn4], G⟩

theorem poss_ok (k : Nat) (h1 : 1 ≤ k) (h6 : k ≤ 6) : ∃ (b c : Int) (f : FuncId) (g : Value), ((opsL 94 95 97 98 99 100 101 102 103).drop (k * 4)).take 4 = [.int .i64 b, .int .i64 c, .func (.func f) #[] #[], g] ∧ oneL [.int .i64 b, .int .i64 c, .func (.func f) #[] #[], g] = true ∧ Enters Try.prog f ∧
    ∀ (Pr : Nat → Prop) (A B : Option Addr) (h : LH) (c d : Nat) (oa ob oc : Int) (w : World), RC Pr w A h.cells → R1 Pr w B (ints h.roots) → hsize h ≤ 1048576 → Valid h → cvP ⟨(k : Int), oa, ob, oc⟩ →
      Calls Try.prog f #[.agg #[.slice A h.cells.length c, .slice B h.roots.length d], .agg #[.int .i64 (k : Int), .int .i64 oa, .int .i64 ob, .int .i64 oc]] w (Ret fun v w' => v = .bool (effectB h ⟨(k : Int), oa, ob, oc⟩) ∧ Grow w w') := by
  have : k = 1 ∨ k = 2 ∨ k = 3 ∨ k = 4 ∨ k = 5 ∨ k = 6 := by omega
  rcases this with rfl | rfl | rfl | rfl | rfl | rfl
  · exact ⟨3, 99, _, _, rfl, rfl, en94, fun Pr A B h c d oa ob oc w hA hB hz va hc => impl_always_c Pr A B h c d _ oa ob oc w hA hB hz va⟩
  · exact ⟨3, 2, _, _, rfl, rfl, en95, fun Pr A B h c d oa ob oc w hA hB hz va hc => impl_operations_1_c Pr A B h c d _ oa ob oc w hA hB hz va (by unfold cvP at hc; dsimp only at hc; omega) (by unfold cvP at hc; dsimp only at hc; omega)⟩
  · exact ⟨3, 2, _, _, rfl, rfl, en98, fun Pr A B h c d oa ob oc w hA hB hz va hc => impl_operations_3_c Pr A B h c d _ oa ob oc w hA hB hz va (by unfold cvP at hc; dsimp only at hc; omega) (by unfold cvP at hc; dsimp only at hc; omega)⟩
  · exact ⟨3, 0, _, _, rfl, rfl, en94, fun Pr A B h c d oa ob oc w hA hB hz va hc => impl_always_c Pr A B h c d _ oa ob oc w hA hB hz va⟩
  · exact ⟨0, 0, _, _, rfl, rfl, en94, fun Pr A B h c d oa ob oc w hA hB hz va hc => impl_always_c Pr A B h c d _ oa ob oc w hA hB hz va⟩
  · exact ⟨99, 0, _, _, rfl, rfl, en102, fun Pr A B h c d oa ob oc w hA hB hz va hc => impl_operations_7_c Pr A B h c d _ oa ob oc w hA hB hz va (by unfold cvP at hc; dsimp only at hc; omega)⟩

set_option maxHeartbeats 400000 in
set_option maxRecDepth 20000 in
theorem impl_CommandPossible_c (Pr : Nat → Prop) (A B : Option Addr) (h : LH) (c d : Nat) (oop oa ob oc : Int) (w : World) (hA : RC Pr w A h.cells) (hB : R1 Pr w B (ints h.roots)) (hz : hsize h ≤ 1048576) :
    Calls Try.prog 26 #[.agg #[.slice A h.cells.length c, .slice B h.roots.length d], .agg #[.int .i64 oop, .int .i64 oa, .int .i64 ob, .int .i64 oc]] w (Ret fun v w' => v = .bool (possB h ⟨oop, oa, ob, oc⟩) ∧ Grow w w') := by
  have hz1 := hsize_cells h
  have hz2 := hsize_roots h
  refine enter Try.func26 rfl Try.ntmps26 (L := (_ :: _ :: _ :: _ :: _ :: _ :: _ :: _ :: _ :: _ :: _ :: _ :: _ :: _ :: _ :: _ :: _ :: _ :: _ :: _ :: _ :: [])) rfl ?_
  have G := Mod.refl No w
  have hA0 := hA
  have hB0 := hB
  refine wp_seq_k fun K1 hK1 => ?_
  refine wp_region_lit ?_  -- region 0 l8_programs.go:94
  refine S_beg 21 rfl ?_
  refine S_box (cs := [_, _]) rfl rfl ?_
  intro b1 w1 fb1 g1 B1
  have lb1 := B1.lt
  replace hA := hA.grow g1
  replace hB := hB.grow g1
  replace G := G.grow g1
  have zg1 := g1.size
  refine S_box (cs := [_, _, _, _]) rfl rfl ?_
  intro b2 w2 fb2 g2 B2
  have lb2 := B2.lt
  replace hA := hA.grow g2
  replace hB := hB.grow g2
  replace G := G.grow g2
  replace B1 := B1.grow g2
  have zg2 := g2.size
  refine S_val (Y_assign rfl) ?_
  refine S_nil (L' := (_ :: _ :: _ :: _ :: _ :: _ :: _ :: _ :: _ :: _ :: _ :: _ :: _ :: _ :: _ :: _ :: _ :: _ :: _ :: _ :: _ :: [])) rfl rfl ?_
  refine th_n ?_
  refine hK1 _ _ ?_
  clear hK1 K1
  refine wp_seq_k fun K2 hK2 => ?_
  refine D_start 17 21 (fun w => Mod (No) w) follows rfl rfl ?_  -- d1 region 1 l8_programs.go:95
  intro w3 g3
  replace hA := hA.grow g3
  replace hB := hB.grow g3
  replace G := G.grow g3
  replace B1 := B1.grow g3
  replace B2 := B2.grow g3
  have zg3 := g3.size
  have GS3 := Mod.refl (No) w3
  have B1d3 := B1
  have B2d3 := B2
  refine D_q (i := 0) rfl (by kernel_rfl) (fun _ _ _ h => h) GS3 (fun _ hs => Y_loadS Try.underlying30 rfl sz30 rfl (by first | exact hs.cells0 (by assumption) | exact hs.cells0 (B1.row (by rfl)) | exact hs.cells0 (B2.row (by rfl)) | exact hs.cells0 (B1d3.row (by rfl)) | exact hs.cells0 (B2d3.row (by rfl)))) ?_
  refine D_1 (i := 1) (by kernel_rfl) ?_
  refine E_call rfl rfl en60 (impl_HeapValid_c _ _ _ _ _ _ _ (by assumption) (by assumption) (by omega)) ?_  -- k1 impl.HeapValid
  rintro v4 w4 ⟨rfl, g4⟩
  replace hA := hA.grow g4
  replace hB := hB.grow g4
  replace G := G.grow g4
  replace GS3 := GS3.grow g4
  replace B1 := B1.grow g4
  replace B2 := B2.grow g4
  have zg4 := g4.size
  refine ⟨GS3, ?_⟩
  refine D_q (i := 2) rfl (by kernel_rfl) (fun _ _ _ h => h) GS3 (fun _ _ => Y_move rfl) ?_
  refine D_g 7 rfl (fun hb1 => ?_) (fun hb1 => ?_)  -- g1
  · -- g1T
    first | with_reducible (replace hb1 := nb_nt hb1) | with_reducible (replace hb1 := nb_nf hb1) | with_reducible (replace hb1 := nb_tt hb1) | with_reducible (replace hb1 := nb_tf hb1) | with_reducible (replace hb1 := nb_bt hb1) | with_reducible (replace hb1 := nb_bf hb1) | skip
    have va := valid_iff.1 hb1
    refine D_qon (i := 3) rfl rfl rfl (by kernel_rfl) (fun _ _ _ h => h) GS3 (fun _ hs => Y_loadS Try.underlying40 rfl sz40 rfl (by first | exact hs.cells0 (by assumption) | exact hs.cells0 (B1.row (by rfl)) | exact hs.cells0 (B2.row (by rfl)) | exact hs.cells0 (B1d3.row (by rfl)) | exact hs.cells0 (B2d3.row (by rfl)))) ?_
    refine D_1 (i := 4) (by kernel_rfl) ?_
    refine E_calln rfl rfl rfl rfl en66 (impl_CommandValid_c _ _ _ _ _) ?_  -- k2 impl.CommandValid
    rintro v5 w5 ⟨rfl, g5⟩
    replace hA := hA.grow g5
    replace hB := hB.grow g5
    replace G := G.grow g5
    replace GS3 := GS3.grow g5
    replace B1 := B1.grow g5
    replace B2 := B2.grow g5
    have zg5 := g5.size
    refine ⟨GS3, ?_⟩
    refine D_q (i := 5) rfl (by kernel_rfl) (fun _ _ _ h => h) GS3 (fun _ _ => Y_pickT rfl rfl) ?_
    refine D_q (i := 6) rfl (by kernel_rfl) (fun _ _ _ h => h) GS3 (fun _ _ => Y_move rfl) ?_
    refine D_g 11 rfl (fun hb2 => ?_) (fun hb2 => ?_)  -- g2
    · -- g2T
      first | with_reducible (replace hb2 := nb_nt hb2) | with_reducible (replace hb2 := nb_nf hb2) | with_reducible (replace hb2 := nb_tt hb2) | with_reducible (replace hb2 := nb_tf hb2) | with_reducible (replace hb2 := nb_bt hb2) | with_reducible (replace hb2 := nb_bf hb2) | skip
      have hcp := cvB_d0 hb2
      obtain ⟨k, hk⟩ := Int.eq_ofNat_of_zero_le (show 0 ≤ oop by unfold cvP at hcp; dsimp only at hcp; omega)
      subst hk
      have hk6 : k ≤ 6 := by unfold cvP at hcp; dsimp only at hcp; omega
      obtain ⟨bb, cc, ff, gg, hops, hone, hen, hcall⟩ := poss_ok k (by unfold cvP at hcp; dsimp only at hcp; omega) (by unfold cvP at hcp; dsimp only at hcp; omega)
      refine D_qon (i := 8) rfl rfl rfl (by kernel_rfl) (fun _ _ _ h => h) GS3 (fun _ _ => Y_field Try.underlying40 rfl fz40_0 (by decide) rfl) ?_
      refine D_qon (i := 9) rfl rfl rfl (by kernel_rfl) (fun _ _ _ h => h) GS3 (fun _ hs => Y_load Try.underlying3 rfl rfl (by first | exact hs.cell0 (by assumption) | exact hs.cell0 (B1.at (by rfl)) | exact hs.cell0 (B2.at (by rfl)) | exact hs.cell0 (B1d3.at (by rfl)) | exact hs.cell0 (B2d3.at (by rfl)))) ?_
      refine D_qon (i := 12) rfl rfl rfl (by kernel_rfl) (fun _ _ _ h => h) GS3 (fun _ hs => Y_loadS Try.underlying30 rfl sz30 rfl (by first | exact hs.cells0 (by assumption) | exact hs.cells0 (B1.row (by rfl)) | exact hs.cells0 (B2.row (by rfl)) | exact hs.cells0 (B1d3.row (by rfl)) | exact hs.cells0 (B2d3.row (by rfl)))) ?_
      refine D_qon (i := 13) rfl rfl rfl (by kernel_rfl) (fun _ _ _ h => h) GS3 (fun _ hs => Y_loadS Try.underlying40 rfl sz40 rfl (by first | exact hs.cells0 (by assumption) | exact hs.cells0 (B1.row (by rfl)) | exact hs.cells0 (B2.row (by rfl)) | exact hs.cells0 (B1d3.row (by rfl)) | exact hs.cells0 (B2d3.row (by rfl)))) ?_
      refine D_1 (i := 7) (by kernel_rfl) ?_
      refine E_calln rfl rfl rfl rfl en67 (impl_operations_c _) ?_  -- k3 impl.operations
      rintro v6 w6 ⟨rfl, g6⟩
      replace hA := hA.grow g6
      replace hB := hB.grow g6
      replace G := G.grow g6
      replace GS3 := GS3.grow g6
      replace B1 := B1.grow g6
      replace B2 := B2.grow g6
      have zg6 := g6.size
      refine ⟨GS3, ?_⟩
      refine D_qon (i := 10) rfl rfl rfl (by kernel_rfl) (fun _ _ _ h => h) GS3 (fun _ _ => Y_elem Try.underlying76 Try.underlying75 rfl sz75 rfl rfl (by omega) hops) ?_
      refine D_qon (i := 11) rfl rfl rfl (by kernel_rfl) (fun _ _ _ h => h) GS3 (fun _ _ => Y_part Try.underlying75 rfl Try.underlying39 rfl rfl rfl) ?_
      refine D_1 (i := 14) (by kernel_rfl) ?_
      refine E_callcn rfl rfl rfl rfl rfl hen (hcall _ _ _ _ _ _ _ _ _ _ hA hB (by omega) va hcp) ?_  -- k4
      rintro v7 w7 ⟨rfl, g7⟩
      replace hA := hA.grow g7
      replace hB := hB.grow g7
      replace G := G.grow g7
      replace GS3 := GS3.grow g7
      replace B1 := B1.grow g7
      replace B2 := B2.grow g7
      have zg7 := g7.size
      refine ⟨GS3, ?_⟩
      refine D_q (i := 15) rfl (by kernel_rfl) (fun _ _ _ h => h) GS3 (fun _ _ => Y_pickT rfl rfl) ?_
      refine D_q (i := 16) rfl (by kernel_rfl) (fun _ _ _ h => h) GS3 (fun _ _ => Y_assign rfl) ?_
      refine D_end (L' := (_ :: _ :: _ :: _ :: _ :: _ :: _ :: _ :: _ :: _ :: _ :: _ :: _ :: _ :: _ :: _ :: _ :: _ :: _ :: _ :: _ :: [])) (by kernel_rfl) rfl rfl ?_
      refine th_n ?_
      refine hK2 _ _ ?_
      clear hK2 K2
      refine wp_ret ?_
      refine ret_r1 rfl rfl ?_  -- r1
      exact ⟨by rw [possB_t hb1 hb2], G⟩
    · -- g2F
      first | with_reducible (replace hb2 := nb_nt hb2) | with_reducible (replace hb2 := nb_nf hb2) | with_reducible (replace hb2 := nb_tt hb2) | with_reducible (replace hb2 := nb_tf hb2) | with_reducible (replace hb2 := nb_bt hb2) | with_reducible (replace hb2 := nb_bf hb2) | skip
      refine D_qoff (i := 7) rfl rfl rfl (by kernel_rfl) (fun _ _ _ h => h) GS3 ?_
      refine D_qoff (i := 8) rfl rfl rfl (by kernel_rfl) (fun _ _ _ h => h) GS3 ?_
      refine D_qoff (i := 9) rfl rfl rfl (by kernel_rfl) (fun _ _ _ h => h) GS3 ?_
      refine D_qoff (i := 10) rfl rfl rfl (by kernel_rfl) (fun _ _ _ h => h) GS3 ?_
      refine D_qoff (i := 11) rfl rfl rfl (by kernel_rfl) (fun _ _ _ h => h) GS3 ?_
      refine D_qoff (i := 12) rfl rfl rfl (by kernel_rfl) (fun _ _ _ h => h) GS3 ?_
      refine D_qoff (i := 13) rfl rfl rfl (by kernel_rfl) (fun _ _ _ h => h) GS3 ?_
      refine D_qoff (i := 14) rfl rfl rfl (by kernel_rfl) (fun _ _ _ h => h) GS3 ?_
      refine D_q (i := 15) rfl (by kernel_rfl) (fun _ _ _ h => h) GS3 (fun _ _ => Y_pickF rfl rfl) ?_
      refine D_q (i := 16) rfl (by kernel_rfl) (fun _ _ _ h => h) GS3 (fun _ _ => Y_assign rfl) ?_
      refine D_end (L' := (_ :: _ :: _ :: _ :: _ :: _ :: _ :: _ :: _ :: _ :: _ :: _ :: _ :: _ :: _ :: _ :: _ :: _ :: _ :: _ :: _ :: [])) (by kernel_rfl) rfl rfl ?_
      refine th_n ?_
      refine hK2 _ _ ?_
      clear hK2 K2
      refine wp_ret ?_
      refine ret_r1 rfl rfl ?_  -- r2
      exact ⟨by rw [possB_f2 hb2], G⟩
  · -- g1F
    first | with_reducible (replace hb1 := nb_nt hb1) | with_reducible (replace hb1 := nb_nf hb1) | with_reducible (replace hb1 := nb_tt hb1) | with_reducible (replace hb1 := nb_tf hb1) | with_reducible (replace hb1 := nb_bt hb1) | with_reducible (replace hb1 := nb_bf hb1) | skip
    refine D_qoff (i := 3) rfl rfl rfl (by kernel_rfl) (fun _ _ _ h => h) GS3 ?_
    refine D_qoff (i := 4) rfl rfl rfl (by kernel_rfl) (fun _ _ _ h => h) GS3 ?_
    refine D_q (i := 5) rfl (by kernel_rfl) (fun _ _ _ h => h) GS3 (fun _ _ => Y_pickF rfl rfl) ?_
    refine D_q (i := 6) rfl (by kernel_rfl) (fun _ _ _ h => h) GS3 (fun _ _ => Y_move rfl) ?_
    refine D_qoff (i := 7) rfl rfl rfl (by kernel_rfl) (fun _ _ _ h => h) GS3 ?_
    refine D_qoff (i := 8) rfl rfl rfl (by kernel_rfl) (fun _ _ _ h => h) GS3 ?_
    refine D_qoff (i := 9) rfl rfl rfl (by kernel_rfl) (fun _ _ _ h => h) GS3 ?_
    refine D_qoff (i := 10) rfl rfl rfl (by kernel_rfl) (fun _ _ _ h => h) GS3 ?_
    refine D_qoff (i := 11) rfl rfl rfl (by kernel_rfl) (fun _ _ _ h => h) GS3 ?_
    refine D_qoff (i := 12) rfl rfl rfl (by kernel_rfl) (fun _ _ _ h => h) GS3 ?_
    refine D_qoff (i := 13) rfl rfl rfl (by kernel_rfl) (fun _ _ _ h => h) GS3 ?_
    refine D_qoff (i := 14) rfl rfl rfl (by kernel_rfl) (fun _ _ _ h => h) GS3 ?_
    refine D_q (i := 15) rfl (by kernel_rfl) (fun _ _ _ h => h) GS3 (fun _ _ => Y_pickF rfl rfl) ?_
    refine D_q (i := 16) rfl (by kernel_rfl) (fun _ _ _ h => h) GS3 (fun _ _ => Y_assign rfl) ?_
    refine D_end (L' := (_ :: _ :: _ :: _ :: _ :: _ :: _ :: _ :: _ :: _ :: _ :: _ :: _ :: _ :: _ :: _ :: _ :: _ :: _ :: _ :: _ :: [])) (by kernel_rfl) rfl rfl ?_
    refine th_n ?_
    refine hK2 _ _ ?_
    clear hK2 K2
    refine wp_ret ?_
    refine ret_r1 rfl rfl ?_  -- r3
    exact ⟨by rw [possB_f1 hb1], G⟩

set_option maxHeartbeats 400000 in
set_option maxRecDepth 20000 in
theorem spec_CommandPossible_c (Pr : Nat → Prop) (A B : Option Addr) (h : LH) (c d : Nat) (oop oa ob oc : Int) (w : World) (hA : RC Pr w A h.cells) (hB : R1 Pr w B (ints h.roots)) (hz : hsize h ≤ 1048576) :
    Calls Try.prog 24 #[.agg #[.slice A h.cells.length c, .slice B h.roots.length d], .agg #[.int .i64 oop, .int .i64 oa, .int .i64 ob, .int .i64 oc]] w (Ret fun v w' => v = .bool (possB h ⟨oop, oa, ob, oc⟩) ∧ Grow w w') := by
  have hz1 := hsize_cells h
  have hz2 := hsize_roots h
  refine enter Try.func24 rfl Try.ntmps24 (L := (_ :: _ :: _ :: _ :: _ :: _ :: _ :: _ :: _ :: _ :: _ :: _ :: _ :: _ :: _ :: _ :: _ :: _ :: _ :: _ :: _ :: _ :: _ :: _ :: _ :: _ :: _ :: _ :: _ :: _ :: _ :: _ :: _ :: _ :: _ :: _ :: _ :: _ :: _ :: _ :: _ :: _ :: _ :: _ :: _ :: _ :: _ :: _ :: [])) rfl ?_
  have G := Mod.refl No w
  have hA0 := hA
  have hB0 := hB
  refine wp_seq_k fun K1 hK1 => ?_
  refine wp_region_lit ?_  -- region 0 l8_programs.go:40
  refine S_beg 48 rfl ?_
  refine S_box (cs := [_, _]) rfl rfl ?_
  intro b1 w1 fb1 g1 B1
  have lb1 := B1.lt
  replace hA := hA.grow g1
  replace hB := hB.grow g1
  replace G := G.grow g1
  have zg1 := g1.size
  refine S_box (cs := [_, _, _, _]) rfl rfl ?_
  intro b2 w2 fb2 g2 B2
  have lb2 := B2.lt
  replace hA := hA.grow g2
  replace hB := hB.grow g2
  replace G := G.grow g2
  replace B1 := B1.grow g2
  have zg2 := g2.size
  refine S_val (Y_assign rfl) ?_
  refine S_nil (L' := (_ :: _ :: _ :: _ :: _ :: _ :: _ :: _ :: _ :: _ :: _ :: _ :: _ :: _ :: _ :: _ :: _ :: _ :: _ :: _ :: _ :: _ :: _ :: _ :: _ :: _ :: _ :: _ :: _ :: _ :: _ :: _ :: _ :: _ :: _ :: _ :: _ :: _ :: _ :: _ :: _ :: _ :: _ :: _ :: _ :: _ :: _ :: _ :: [])) rfl rfl ?_
  refine th_n ?_
  refine hK1 _ _ ?_
  clear hK1 K1
  refine wp_seq_k fun K2 hK2 => ?_
  refine wp_seq_k fun K3 hK3 => ?_
  refine wp_region_lit ?_  -- region 1 l8_programs.go:41
  refine S_beg 48 rfl ?_
  refine S_val (Y_loadS Try.underlying30 rfl sz30 rfl (by first | assumption | exact B1.row (by rfl) | exact B2.row (by rfl))) ?_  -- l1
  refine S_call rfl en56 (spec_HeapValid_c _ _ _ _ _ _ _ (by assumption) (by assumption) (by omega)) ?_  -- k1 spec.HeapValid
  rintro v3 w3 ⟨rfl, g3⟩
  replace hA := hA.grow g3
  replace hB := hB.grow g3
  replace G := G.grow g3
  replace B1 := B1.grow g3
  replace B2 := B2.grow g3
  have zg3 := g3.size
  refine S_val (Y_not rfl) ?_
  refine S_val (Y_move rfl) ?_
  refine S_g 8 rfl (fun hb1 => ?_) (fun hb1 => ?_)  -- g1
  · -- g1T
    first | with_reducible (replace hb1 := nb_nt hb1) | with_reducible (replace hb1 := nb_nf hb1) | with_reducible (replace hb1 := nb_tt hb1) | with_reducible (replace hb1 := nb_tf hb1) | with_reducible (replace hb1 := nb_bt hb1) | with_reducible (replace hb1 := nb_bf hb1) | skip
    refine S_off rfl rfl ?_
    refine S_off rfl rfl ?_
    refine S_off rfl rfl ?_
    refine S_val (Y_pickT rfl rfl) ?_
    refine S_nil (L' := (_ :: _ :: _ :: _ :: _ :: _ :: _ :: _ :: _ :: _ :: _ :: _ :: _ :: _ :: _ :: _ :: _ :: _ :: _ :: _ :: _ :: _ :: _ :: _ :: _ :: _ :: _ :: _ :: _ :: _ :: _ :: _ :: _ :: _ :: _ :: _ :: _ :: _ :: _ :: _ :: _ :: _ :: _ :: _ :: _ :: _ :: _ :: _ :: [])) rfl rfl ?_
    refine th_n ?_
    refine hK3 _ _ ?_
    clear hK3 K3
    refine S_ifT rfl ?_
    refine wp_seq_k fun K4 hK4 => ?_
    refine wp_region_lit ?_  -- region 2 l8_programs.go:42
    refine S_beg 48 rfl ?_
    refine S_val (Y_assign rfl) ?_
    refine S_nil (L' := (_ :: _ :: _ :: _ :: _ :: _ :: _ :: _ :: _ :: _ :: _ :: _ :: _ :: _ :: _ :: _ :: _ :: _ :: _ :: _ :: _ :: _ :: _ :: _ :: _ :: _ :: _ :: _ :: _ :: _ :: _ :: _ :: _ :: _ :: _ :: _ :: _ :: _ :: _ :: _ :: _ :: _ :: _ :: _ :: _ :: _ :: _ :: _ :: [])) rfl rfl ?_
    refine th_n ?_
    refine hK4 _ _ ?_
    clear hK4 K4
    refine wp_ret ?_
    refine th_r ?_
    clear hK2 K2
    refine ret_r1 rfl rfl ?_  -- r1
    exact ⟨by rw [possB_f1 hb1], G⟩
  · -- g1F
    first | with_reducible (replace hb1 := nb_nt hb1) | with_reducible (replace hb1 := nb_nf hb1) | with_reducible (replace hb1 := nb_tt hb1) | with_reducible (replace hb1 := nb_tf hb1) | with_reducible (replace hb1 := nb_bt hb1) | with_reducible (replace hb1 := nb_bf hb1) | skip
    have va := valid_iff.1 hb1
    have hr4 := va.roots4
    refine S_on rfl rfl ?_
    refine S_val (Y_loadS Try.underlying40 rfl sz40 rfl (by first | assumption | exact B1.row (by rfl) | exact B2.row (by rfl))) ?_  -- l2
    refine S_on rfl rfl ?_
    refine S_call rfl en64 (spec_CommandValid_c _ _ _ _ _) ?_  -- k2 spec.CommandValid
    rintro v4 w4 ⟨rfl, g4⟩
    replace hA := hA.grow g4
    replace hB := hB.grow g4
    replace G := G.grow g4
    replace B1 := B1.grow g4
    replace B2 := B2.grow g4
    have zg4 := g4.size
    refine S_on rfl rfl ?_
    refine S_val (Y_not rfl) ?_
    refine S_val (Y_pickF rfl rfl) ?_
    refine S_nil (L' := (_ :: _ :: _ :: _ :: _ :: _ :: _ :: _ :: _ :: _ :: _ :: _ :: _ :: _ :: _ :: _ :: _ :: _ :: _ :: _ :: _ :: _ :: _ :: _ :: _ :: _ :: _ :: _ :: _ :: _ :: _ :: _ :: _ :: _ :: _ :: _ :: _ :: _ :: _ :: _ :: _ :: _ :: _ :: _ :: _ :: _ :: _ :: _ :: [])) rfl rfl ?_
    refine th_n ?_
    refine hK3 _ _ ?_
    clear hK3 K3
    refine S_if rfl (fun hb2 => ?_) (fun hb2 => ?_)  -- c1
    · -- c1T
      first | with_reducible (replace hb2 := nb_nt hb2) | with_reducible (replace hb2 := nb_nf hb2) | with_reducible (replace hb2 := nb_tt hb2) | with_reducible (replace hb2 := nb_tf hb2) | with_reducible (replace hb2 := nb_bt hb2) | with_reducible (replace hb2 := nb_bf hb2) | skip
      refine wp_seq_k fun K5 hK5 => ?_
      refine wp_region_lit ?_  -- region 2 l8_programs.go:42
      refine S_beg 48 rfl ?_
      refine S_val (Y_assign rfl) ?_
      refine S_nil (L' := (_ :: _ :: _ :: _ :: _ :: _ :: _ :: _ :: _ :: _ :: _ :: _ :: _ :: _ :: _ :: _ :: _ :: _ :: _ :: _ :: _ :: _ :: _ :: _ :: _ :: _ :: _ :: _ :: _ :: _ :: _ :: _ :: _ :: _ :: _ :: _ :: _ :: _ :: _ :: _ :: _ :: _ :: _ :: _ :: _ :: _ :: _ :: _ :: [])) rfl rfl ?_
      refine th_n ?_
      refine hK5 _ _ ?_
      clear hK5 K5
      refine wp_ret ?_
      refine th_r ?_
      clear hK2 K2
      refine ret_r1 rfl rfl ?_  -- r2
      exact ⟨by rw [possB_f2 hb2], G⟩
    · -- c1F
      first | with_reducible (replace hb2 := nb_nt hb2) | with_reducible (replace hb2 := nb_nf hb2) | with_reducible (replace hb2 := nb_tt hb2) | with_reducible (replace hb2 := nb_tf hb2) | with_reducible (replace hb2 := nb_bt hb2) | with_reducible (replace hb2 := nb_bf hb2) | skip
      have hcp := cvB_d0 hb2
      have hcq := hcp
      unfold cvP at hcq
      dsimp only at hcq
      refine wp_skip ?_
      refine th_n ?_
      refine hK2 _ _ ?_
      clear hK2 K2
      refine wp_seq_k fun K6 hK6 => ?_
      refine wp_seq_k fun K7 hK7 => ?_
      refine wp_region_lit ?_  -- region 3 l8_programs.go:44
      refine S_beg 48 rfl ?_
      refine S_val (Y_field Try.underlying40 rfl fz40_0 (by decide) rfl) ?_
      refine S_val (Y_load Try.underlying3 rfl rfl (by first | assumption | exact B1.at (by rfl) | exact B2.at (by rfl))) ?_  -- l3
      refine S_nil (L' := (_ :: _ :: _ :: _ :: _ :: _ :: _ :: _ :: _ :: _ :: _ :: _ :: _ :: _ :: _ :: _ :: _ :: _ :: _ :: _ :: _ :: _ :: _ :: _ :: _ :: _ :: _ :: _ :: _ :: _ :: _ :: _ :: _ :: _ :: _ :: _ :: _ :: _ :: _ :: _ :: _ :: _ :: _ :: _ :: _ :: _ :: _ :: _ :: [])) rfl rfl ?_
      refine th_n ?_
      refine hK7 _ _ ?_
      clear hK7 K7
      refine wp_block ?_
      refine wp_seq_k fun K8 hK8 => ?_
      refine wp_region_lit ?_  -- region 4 l8_programs.go:45
      refine S_beg 48 rfl ?_
      refine S_val (Y_eql rfl rfl) ?_
      refine S_val (Y_assign rfl) ?_
      refine S_nil (L' := (_ :: _ :: _ :: _ :: _ :: _ :: _ :: _ :: _ :: _ :: _ :: _ :: _ :: _ :: _ :: _ :: _ :: _ :: _ :: _ :: _ :: _ :: _ :: _ :: _ :: _ :: _ :: _ :: _ :: _ :: _ :: _ :: _ :: _ :: _ :: _ :: _ :: _ :: _ :: _ :: _ :: _ :: _ :: _ :: _ :: _ :: _ :: _ :: [])) rfl rfl ?_
      refine th_n ?_
      refine hK8 _ _ ?_
      clear hK8 K8
      refine S_if rfl (fun hb3 => ?_) (fun hb3 => ?_)  -- c2
      · -- c2T
        first | with_reducible (replace hb3 := nb_nt hb3) | with_reducible (replace hb3 := nb_nf hb3) | with_reducible (replace hb3 := nb_tt hb3) | with_reducible (replace hb3 := nb_tf hb3) | with_reducible (replace hb3 := nb_bt hb3) | with_reducible (replace hb3 := nb_bf hb3) | skip
        obtain ⟨n, hn⟩ := Int.eq_ofNat_of_zero_le (show 0 ≤ ob by omega)
        subst hn
        have hn4 : n < h.roots.length := by omega
        refine wp_seq_k fun K9 hK9 => ?_
        refine D_start 11 48 (fun w => Mod (No) w) follows rfl rfl ?_  -- d1 region 5 l8_programs.go:46
        intro w5 g5
        replace hA := hA.grow g5
        replace hB := hB.grow g5
        replace G := G.grow g5
        replace B1 := B1.grow g5
        replace B2 := B2.grow g5
        have zg5 := g5.size
        have GS5 := Mod.refl (No) w5
        obtain ⟨g1, o1, e1, hp1, hc1⟩ := hB.int hn4
        cases e1
        have B1d5 := B1
        have B2d5 := B2
        refine D_q (i := 0) rfl (by kernel_rfl) (fun _ _ _ h => h) GS5 (fun _ hs => Y_loadS Try.underlying30 rfl sz30 rfl (by first | exact hs.cells0 (by assumption) | exact hs.cells0 (B1.row (by rfl)) | exact hs.cells0 (B2.row (by rfl)) | exact hs.cells0 (B1d5.row (by rfl)) | exact hs.cells0 (B2d5.row (by rfl)))) ?_
        refine D_q (i := 1) rfl (by kernel_rfl) (fun _ _ _ h => h) GS5 (fun _ _ => Y_field Try.underlying30 rfl fz30_1 (by decide) rfl) ?_
        refine D_q (i := 2) rfl (by kernel_rfl) (fun _ _ _ h => h) GS5 (fun _ hs => Y_load Try.underlying23 rfl rfl (by first | exact hs.cell0 (by assumption) | exact hs.cell0 (B1.at (by rfl)) | exact hs.cell0 (B2.at (by rfl)) | exact hs.cell0 (B1d5.at (by rfl)) | exact hs.cell0 (B2d5.at (by rfl)))) ?_
        refine D_q (i := 3) rfl (by kernel_rfl) (fun _ _ _ h => h) GS5 (fun _ _ => Y_field Try.underlying40 rfl fz40_2 (by decide) rfl) ?_
        refine D_q (i := 4) rfl (by kernel_rfl) (fun _ _ _ h => h) GS5 (fun _ hs => Y_load Try.underlying3 rfl rfl (by first | exact hs.cell0 (by assumption) | exact hs.cell0 (B1.at (by rfl)) | exact hs.cell0 (B2.at (by rfl)) | exact hs.cell0 (B1d5.at (by rfl)) | exact hs.cell0 (B2d5.at (by rfl)))) ?_
        refine D_q (i := 5) rfl (by kernel_rfl) (fun _ _ _ h => h) GS5 (fun _ _ => Y_index Try.underlying23 sz3 rfl rfl (by first | assumption | omega)) ?_
        refine D_q (i := 6) rfl (by kernel_rfl) (fun _ _ _ h => h) GS5 (fun _ hs => Y_load Try.underlying3 rfl rfl (by first | exact hs.cell0 (by assumption) | exact hs.cell0 (B1.at (by rfl)) | exact hs.cell0 (B2.at (by rfl)) | exact hs.cell0 (B1d5.at (by rfl)) | exact hs.cell0 (B2d5.at (by rfl)))) ?_
        refine D_q (i := 7) rfl (by kernel_rfl) (fun _ _ _ h => h) GS5 (fun _ _ => Y_field Try.underlying40 rfl fz40_3 (by decide) rfl) ?_
        refine D_q (i := 8) rfl (by kernel_rfl) (fun _ _ _ h => h) GS5 (fun _ hs => Y_load Try.underlying3 rfl rfl (by first | exact hs.cell0 (by assumption) | exact hs.cell0 (B1.at (by rfl)) | exact hs.cell0 (B2.at (by rfl)) | exact hs.cell0 (B1d5.at (by rfl)) | exact hs.cell0 (B2d5.at (by rfl)))) ?_
        refine D_1 (i := 9) (by kernel_rfl) ?_
        refine E_call rfl rfl en65 (spec_l8Place_c _ _ _ h _ _ n _ _ _ hA hB (by omega) va hn4 rfl) ?_  -- k3 spec.l8Place
        rintro v6 w6 ⟨rfl, g6⟩
        replace hA := hA.grow g6
        replace hB := hB.grow g6
        replace G := G.grow g6
        replace GS5 := GS5.grow g6
        replace B1 := B1.grow g6
        replace B2 := B2.grow g6
        have zg6 := g6.size
        refine ⟨GS5, ?_⟩
        refine D_q (i := 10) rfl (by kernel_rfl) (fun _ _ _ h => h) GS5 (fun _ _ => Y_assign rfl) ?_
        refine D_end (L' := (_ :: _ :: _ :: _ :: _ :: _ :: _ :: _ :: _ :: _ :: _ :: _ :: _ :: _ :: _ :: _ :: _ :: _ :: _ :: _ :: _ :: _ :: _ :: _ :: _ :: _ :: _ :: _ :: _ :: _ :: _ :: _ :: _ :: _ :: _ :: _ :: _ :: _ :: _ :: _ :: _ :: _ :: _ :: _ :: _ :: _ :: _ :: _ :: [])) (by kernel_rfl) rfl rfl ?_
        refine th_n ?_
        refine hK9 _ _ ?_
        clear hK9 K9
        refine wp_ret ?_
        refine ib_r ?_
        refine th_r ?_
        clear hK6 K6
        refine ret_r1 rfl rfl ?_  -- r3
        exact ⟨by rw [possB_t hb1 hb2]; simp [effectB, hb3], G⟩
      · -- c2F
        first | with_reducible (replace hb3 := nb_nt hb3) | with_reducible (replace hb3 := nb_nf hb3) | with_reducible (replace hb3 := nb_tt hb3) | with_reducible (replace hb3 := nb_tf hb3) | with_reducible (replace hb3 := nb_bt hb3) | with_reducible (replace hb3 := nb_bf hb3) | skip
        refine wp_seq_k fun K10 hK10 => ?_
        refine wp_region_lit ?_  -- region 6 l8_programs.go:47
        refine S_beg 48 rfl ?_
        refine S_val (Y_eql rfl rfl) ?_
        refine S_val (Y_assign rfl) ?_
        refine S_nil (L' := (_ :: _ :: _ :: _ :: _ :: _ :: _ :: _ :: _ :: _ :: _ :: _ :: _ :: _ :: _ :: _ :: _ :: _ :: _ :: _ :: _ :: _ :: _ :: _ :: _ :: _ :: _ :: _ :: _ :: _ :: _ :: _ :: _ :: _ :: _ :: _ :: _ :: _ :: _ :: _ :: _ :: _ :: _ :: _ :: _ :: _ :: _ :: _ :: [])) rfl rfl ?_
        refine th_n ?_
        refine hK10 _ _ ?_
        clear hK10 K10
        refine S_if rfl (fun hb4 => ?_) (fun hb4 => ?_)  -- c3
        · -- c3T
          first | with_reducible (replace hb4 := nb_nt hb4) | with_reducible (replace hb4 := nb_nf hb4) | with_reducible (replace hb4 := nb_tt hb4) | with_reducible (replace hb4 := nb_tf hb4) | with_reducible (replace hb4 := nb_bt hb4) | with_reducible (replace hb4 := nb_bf hb4) | skip
          obtain ⟨n, hn⟩ := Int.eq_ofNat_of_zero_le (show 0 ≤ oa by omega)
          subst hn
          have hn4 : n < h.roots.length := by omega
          refine wp_seq_k fun K11 hK11 => ?_
          refine D_start 11 48 (fun w => Mod (No) w) follows rfl rfl ?_  -- d2 region 7 l8_programs.go:48
          intro w7 g7
          replace hA := hA.grow g7
          replace hB := hB.grow g7
          replace G := G.grow g7
          replace B1 := B1.grow g7
          replace B2 := B2.grow g7
          have zg7 := g7.size
          have GS7 := Mod.refl (No) w7
          obtain ⟨g1, o1, e1, hp1, hc1⟩ := hB.int hn4
          cases e1
          have B1d7 := B1
          have B2d7 := B2
          refine D_q (i := 0) rfl (by kernel_rfl) (fun _ _ _ h => h) GS7 (fun _ hs => Y_loadS Try.underlying30 rfl sz30 rfl (by first | exact hs.cells0 (by assumption) | exact hs.cells0 (B1.row (by rfl)) | exact hs.cells0 (B2.row (by rfl)) | exact hs.cells0 (B1d7.row (by rfl)) | exact hs.cells0 (B2d7.row (by rfl)))) ?_
          refine D_q (i := 1) rfl (by kernel_rfl) (fun _ _ _ h => h) GS7 (fun _ _ => Y_field Try.underlying30 rfl fz30_1 (by decide) rfl) ?_
          refine D_q (i := 2) rfl (by kernel_rfl) (fun _ _ _ h => h) GS7 (fun _ hs => Y_load Try.underlying23 rfl rfl (by first | exact hs.cell0 (by assumption) | exact hs.cell0 (B1.at (by rfl)) | exact hs.cell0 (B2.at (by rfl)) | exact hs.cell0 (B1d7.at (by rfl)) | exact hs.cell0 (B2d7.at (by rfl)))) ?_
          refine D_q (i := 3) rfl (by kernel_rfl) (fun _ _ _ h => h) GS7 (fun _ _ => Y_field Try.underlying40 rfl fz40_1 (by decide) rfl) ?_
          refine D_q (i := 4) rfl (by kernel_rfl) (fun _ _ _ h => h) GS7 (fun _ hs => Y_load Try.underlying3 rfl rfl (by first | exact hs.cell0 (by assumption) | exact hs.cell0 (B1.at (by rfl)) | exact hs.cell0 (B2.at (by rfl)) | exact hs.cell0 (B1d7.at (by rfl)) | exact hs.cell0 (B2d7.at (by rfl)))) ?_
          refine D_q (i := 5) rfl (by kernel_rfl) (fun _ _ _ h => h) GS7 (fun _ _ => Y_index Try.underlying23 sz3 rfl rfl (by first | assumption | omega)) ?_
          refine D_q (i := 6) rfl (by kernel_rfl) (fun _ _ _ h => h) GS7 (fun _ hs => Y_load Try.underlying3 rfl rfl (by first | exact hs.cell0 (by assumption) | exact hs.cell0 (B1.at (by rfl)) | exact hs.cell0 (B2.at (by rfl)) | exact hs.cell0 (B1d7.at (by rfl)) | exact hs.cell0 (B2d7.at (by rfl)))) ?_
          refine D_q (i := 7) rfl (by kernel_rfl) (fun _ _ _ h => h) GS7 (fun _ _ => Y_field Try.underlying40 rfl fz40_3 (by decide) rfl) ?_
          refine D_q (i := 8) rfl (by kernel_rfl) (fun _ _ _ h => h) GS7 (fun _ hs => Y_load Try.underlying3 rfl rfl (by first | exact hs.cell0 (by assumption) | exact hs.cell0 (B1.at (by rfl)) | exact hs.cell0 (B2.at (by rfl)) | exact hs.cell0 (B1d7.at (by rfl)) | exact hs.cell0 (B2d7.at (by rfl)))) ?_
          refine D_1 (i := 9) (by kernel_rfl) ?_
          refine E_call rfl rfl en65 (spec_l8Place_c _ _ _ h _ _ n _ _ _ hA hB (by omega) va hn4 rfl) ?_  -- k4 spec.l8Place
          rintro v8 w8 ⟨rfl, g8⟩
          replace hA := hA.grow g8
          replace hB := hB.grow g8
          replace G := G.grow g8
          replace GS7 := GS7.grow g8
          replace B1 := B1.grow g8
          replace B2 := B2.grow g8
          have zg8 := g8.size
          refine ⟨GS7, ?_⟩
          refine D_q (i := 10) rfl (by kernel_rfl) (fun _ _ _ h => h) GS7 (fun _ _ => Y_assign rfl) ?_
          refine D_end (L' := (_ :: _ :: _ :: _ :: _ :: _ :: _ :: _ :: _ :: _ :: _ :: _ :: _ :: _ :: _ :: _ :: _ :: _ :: _ :: _ :: _ :: _ :: _ :: _ :: _ :: _ :: _ :: _ :: _ :: _ :: _ :: _ :: _ :: _ :: _ :: _ :: _ :: _ :: _ :: _ :: _ :: _ :: _ :: _ :: _ :: _ :: _ :: _ :: [])) (by kernel_rfl) rfl rfl ?_
          refine th_n ?_
          refine hK11 _ _ ?_
          clear hK11 K11
          refine wp_ret ?_
          refine ib_r ?_
          refine th_r ?_
          clear hK6 K6
          refine ret_r1 rfl rfl ?_  -- r4
          exact ⟨by rw [possB_t hb1 hb2]; simp [effectB, hb3, hb4], G⟩
        · -- c3F
          first | with_reducible (replace hb4 := nb_nt hb4) | with_reducible (replace hb4 := nb_nf hb4) | with_reducible (replace hb4 := nb_tt hb4) | with_reducible (replace hb4 := nb_tf hb4) | with_reducible (replace hb4 := nb_bt hb4) | with_reducible (replace hb4 := nb_bf hb4) | skip
          refine wp_seq_k fun K12 hK12 => ?_
          refine wp_region_lit ?_  -- region 8 l8_programs.go:49
          refine S_beg 48 rfl ?_
          refine S_val (Y_eql rfl rfl) ?_
          refine S_val (Y_assign rfl) ?_
          refine S_nil (L' := (_ :: _ :: _ :: _ :: _ :: _ :: _ :: _ :: _ :: _ :: _ :: _ :: _ :: _ :: _ :: _ :: _ :: _ :: _ :: _ :: _ :: _ :: _ :: _ :: _ :: _ :: _ :: _ :: _ :: _ :: _ :: _ :: _ :: _ :: _ :: _ :: _ :: _ :: _ :: _ :: _ :: _ :: _ :: _ :: _ :: _ :: _ :: _ :: [])) rfl rfl ?_
          refine th_n ?_
          refine hK12 _ _ ?_
          clear hK12 K12
          refine S_if rfl (fun hb5 => ?_) (fun hb5 => ?_)  -- c4
          · -- c4T
            first | with_reducible (replace hb5 := nb_nt hb5) | with_reducible (replace hb5 := nb_nf hb5) | with_reducible (replace hb5 := nb_tt hb5) | with_reducible (replace hb5 := nb_tf hb5) | with_reducible (replace hb5 := nb_bt hb5) | with_reducible (replace hb5 := nb_bf hb5) | skip
            obtain ⟨n, hn⟩ := Int.eq_ofNat_of_zero_le (show 0 ≤ oa by omega)
            subst hn
            have hn4 : n < h.roots.length := by omega
            obtain ⟨g1, o1, e1, hp1, hc1⟩ := hB.int hn4
            cases e1
            refine wp_seq_k fun K13 hK13 => ?_
            refine wp_region_lit ?_  -- region 9 l8_programs.go:50
            refine S_beg 48 rfl ?_
            refine S_val (Y_field Try.underlying30 rfl fz30_1 (by decide) rfl) ?_
            refine S_val (Y_load Try.underlying23 rfl rfl (by first | assumption | exact B1.at (by rfl) | exact B2.at (by rfl))) ?_  -- l14
            refine S_val (Y_field Try.underlying40 rfl fz40_1 (by decide) rfl) ?_
            refine S_val (Y_load Try.underlying3 rfl rfl (by first | assumption | exact B1.at (by rfl) | exact B2.at (by rfl))) ?_  -- l15
            refine S_val (Y_index Try.underlying23 sz3 rfl rfl (by first | assumption | omega)) ?_
            refine S_val (Y_load Try.underlying3 rfl rfl (by first | assumption | exact B1.at (by rfl) | exact B2.at (by rfl))) ?_  -- l16
            refine S_val (Y_geq rfl rfl) ?_
            refine S_val (Y_assign rfl) ?_
            refine S_nil (L' := (_ :: _ :: _ :: _ :: _ :: _ :: _ :: _ :: _ :: _ :: _ :: _ :: _ :: _ :: _ :: _ :: _ :: _ :: _ :: _ :: _ :: _ :: _ :: _ :: _ :: _ :: _ :: _ :: _ :: _ :: _ :: _ :: _ :: _ :: _ :: _ :: _ :: _ :: _ :: _ :: _ :: _ :: _ :: _ :: _ :: _ :: _ :: _ :: [])) rfl rfl ?_
            refine th_n ?_
            refine hK13 _ _ ?_
            clear hK13 K13
            refine wp_ret ?_
            refine ib_r ?_
            refine th_r ?_
            clear hK6 K6
            refine ret_r1 rfl rfl ?_  -- r5
            exact ⟨by rw [possB_t hb1 hb2]; simp [effectB, hb3, hb4, hb5, rootB_at hn4], G⟩
          · -- c4F
            first | with_reducible (replace hb5 := nb_nt hb5) | with_reducible (replace hb5 := nb_nf hb5) | with_reducible (replace hb5 := nb_tt hb5) | with_reducible (replace hb5 := nb_tf hb5) | with_reducible (replace hb5 := nb_bt hb5) | with_reducible (replace hb5 := nb_bf hb5) | skip
            refine wp_skip ?_
            refine ib_n ?_
            refine th_n ?_
            refine hK6 _ _ ?_
            clear hK6 K6
            refine wp_seq_k fun K14 hK14 => ?_
            refine wp_region_lit ?_  -- region 10 l8_programs.go:52
            refine S_beg 48 rfl ?_
            refine S_val (Y_assign rfl) ?_
            refine S_nil (L' := (_ :: _ :: _ :: _ :: _ :: _ :: _ :: _ :: _ :: _ :: _ :: _ :: _ :: _ :: _ :: _ :: _ :: _ :: _ :: _ :: _ :: _ :: _ :: _ :: _ :: _ :: _ :: _ :: _ :: _ :: _ :: _ :: _ :: _ :: _ :: _ :: _ :: _ :: _ :: _ :: _ :: _ :: _ :: _ :: _ :: _ :: _ :: _ :: [])) rfl rfl ?_
            refine th_n ?_
            refine hK14 _ _ ?_
            clear hK14 K14
            refine wp_ret ?_
            refine ret_r1 rfl rfl ?_  -- r6
            exact ⟨by rw [possB_t hb1 hb2]; simp [effectB, hb3, hb4, hb5], G⟩

end Go.Proofs.Ytdfifnplgbceaaa
