/-
  The law FnUsedCells returns true.
  Conditions: those that each theorem states.
-/
import Derived.Test.YtikgflhepclfgaaQb5
set_option linter.unusedVariables false
set_option linter.unusedSimpArgs false
namespace Go.Proofs.Ytikgflhepclfgaa
open Go Go.RowKit
attribute [local irreducible] wpList wpAnyH Code.wp dOp

set_option maxHeartbeats 400000 in
set_option maxRecDepth 20000 in
theorem laws_FnUsedCells_c (Pr : Nat → Prop) (A : Option Addr) (xs : List Int) (c : Nat) (w : World) (hA : R1 Pr w A (u8s xs)) (hn : xs.length ≤ 9223372036854775807) (hcap : xs.length ≤ c) (hrg : ∀ y ∈ xs, 0 ≤ y ∧ y ≤ 255) :
    Calls Try.prog 6 #[.slice A xs.length c] w (Ret fun v w' => v = .bool true ∧ Grow w w') := by
 refine enter Try.func6 rfl Try.ntmps6 (L := [_,_,_,_,_,_,_,_,_,_,_,_,_,_,_,_,_,_,_,_,_,_,_,_,_,_,_,_,_,_,_,_,_,_,_,_,_,_,_,_,_,_,_,_,_,_,_,_,_,_,_,_,_,_,_,_,_,_,_,_,_,_,_,_,_,_,_,_]) rfl ?_
 have G := Mod.refl No w
 have hA0 := hA
 refine wp_seq_k fun K1 hK1 => ?_
 refine Sb 68 rfl ?_  -- 0
 refine S_val (Y_assign rfl) ?_
 refine S_nl rfl rfl ?_
 refine th_n (hK1 _ _ ?_)
 clear hK1 K1
 refine wp_seq_k fun K2 hK2 => ?_
 refine wp_seq_k fun K3 hK3 => ?_
 refine Sb 68 rfl ?_  -- 1
 refine S_val (Y_move rfl) ?_
 refine S_val (Y_len Try.underlying22 rfl) ?_
 refine S_val (Y_gtr rfl rfl) ?_
 refine S_nl rfl rfl ?_
 refine th_n (hK3 _ _ ?_)
 clear hK3 K3
 refine S_if rfl (fun hb1 => ?_) (fun hb1 => ?_)  -- c1
 · -- c1T
  replace hb1 := nb_tt hb1
  refine wp_seq_k fun K4 hK4 => ?_
  refine Sb 68 rfl ?_  -- 2
  refine S_val (Y_assign rfl) ?_
  refine S_nl rfl rfl ?_
  refine th_n (hK4 _ _ ?_)
  clear hK4 K4
  refine wp_ret ?_
  refine th_r ?_
  clear hK2 K2
  refine ret_r1 rfl rfl ?_  -- r1
  first | exact ⟨rfl, G⟩ | exact ⟨vT (by omega), G⟩
 · -- c1F
  replace hb1 := nb_tf hb1
  have hx : xs.length ≤ 1048576 := by omega
  refine wp_skip ?_
  refine th_n (hK2 _ _ ?_)
  clear hK2 K2
  refine wp_seq_k fun K5 hK5 => ?_
  refine Sb 68 rfl ?_  -- 3
  refine S_val (Y_move rfl) ?_
  refine S_call rfl en25 (spec_DrawUsedCells_c _ _ _ _ _ (by assumption) (by omega) (by omega) (by assumption)) ?_  -- k1 spec.DrawUsedCells
  rintro v1 w1 ⟨hD1, A1, B1, n11, c11, n21, c21, rfl, hn11, hn21, hz1, RC1, RR1, g1⟩
  replace hA := hA.grow g1
  replace G := G.grow g1
  have zg1 := g1.size
  subst hn11
  subst hn21
  obtain ⟨h, rfl⟩ : ∃ x, x = hD1 := ⟨_, rfl⟩
  obtain ⟨AD, rfl⟩ : ∃ x, x = A1 := ⟨_, rfl⟩
  obtain ⟨BD, rfl⟩ : ∃ x, x = B1 := ⟨_, rfl⟩
  obtain ⟨cD, rfl⟩ : ∃ x, x = c11 := ⟨_, rfl⟩
  obtain ⟨dD, rfl⟩ : ∃ x, x = c21 := ⟨_, rfl⟩
  have hzD := hz1
  have hzcD := hsize_cells h
  have hzrD := hsize_roots h
  have hDA := RC1.below
  have hDB := RR1.below
  refine S_alloc (cs := [_, _]) zr35 rfl ?_
  intro b2 w2 fb2 g2 B2
  have lb2 := B2.lt
  replace hA := hA.grow g2
  replace hDA := hDA.grow g2
  replace hDB := hDB.grow g2
  replace G := G.grow g2
  have zg2 := g2.size
  refine S_stM (pre := []) (old := [_, _]) (post := []) (vs := [_, _]) sz35 rfl rfl rfl (by first | rfl | assumption) B2 rfl rfl ?_
  intro w3 m3 X3
  replace B2 := Blk.eq (ys := [_, _]) X3 rfl
  clear X3
  replace G := G.abv m3
  replace hA := hA0.grow G
  replace hDA := hDA.md m3
  replace hDB := hDB.md m3
  have zm3 := m3.size
  refine S_nl rfl rfl ?_
  refine th_n (hK5 _ _ ?_)
  clear hK5 K5
  refine wp_seq_k fun K6 hK6 => ?_
  refine Sb 68 rfl ?_  -- 4
  refine S_val (Y_loadS Try.underlying35 rfl sz35 rfl (B2.row (by rfl))) ?_  -- l1
  refine S_call rfl en26 (impl_UsedCells_c _ _ _ _ _ _ _ (by assumption) (by assumption) (by omega)) ?_  -- k2 impl.UsedCells
  rintro v4 w4 ⟨rfl, g4⟩
  replace hA := hA.grow g4
  replace hDA := hDA.grow g4
  replace hDB := hDB.grow g4
  replace G := G.grow g4
  replace B2 := B2.grow g4
  have zg4 := g4.size
  refine S_val (Y_move rfl) ?_
  refine S_val (Y_extract rfl rfl) ?_
  refine S_val (Y_extract rfl rfl) ?_
  refine S_val (Y_assign rfl) ?_
  refine S_val (Y_assign rfl) ?_
  refine S_nl rfl rfl ?_
  refine th_n (hK6 _ _ ?_)
  clear hK6 K6
  refine wp_seq_k fun K7 hK7 => ?_
  refine Sb 68 rfl ?_  -- 5
  refine S_val (Y_loadS Try.underlying35 rfl sz35 rfl (B2.row (by rfl))) ?_  -- l2
  refine S_call rfl en27 (spec_UsedCells_c _ _ _ _ _ _ _ (by assumption) (by assumption) (by omega)) ?_  -- k3 spec.UsedCells
  rintro v5 w5 ⟨rfl, g5⟩
  replace hA := hA.grow g5
  replace hDA := hDA.grow g5
  replace hDB := hDB.grow g5
  replace G := G.grow g5
  replace B2 := B2.grow g5
  have zg5 := g5.size
  refine S_val (Y_move rfl) ?_
  refine S_val (Y_extract rfl rfl) ?_
  refine S_val (Y_extract rfl rfl) ?_
  refine S_val (Y_assign rfl) ?_
  refine S_val (Y_assign rfl) ?_
  refine S_nl rfl rfl ?_
  refine th_n (hK7 _ _ ?_)
  clear hK7 K7
  refine wp_seq_k fun K8 hK8 => ?_
  refine wp_seq_k fun K9 hK9 => ?_
  refine Sb 68 rfl ?_  -- 6
  refine S_val (Y_move rfl) ?_
  refine S_val (Y_move rfl) ?_
  refine S_val (Y_neq rfl rfl) ?_
  refine S_val (Y_move rfl) ?_
  refine S_g 26 rfl (fun hb2 => ?_) (fun hb2 => ?_)  -- g1
  · -- g1T
   replace hb2 := nb_nt hb2
   exact absurd rfl hb2
  · -- g1F
   replace hb2 := nb_nf hb2
   refine S_on rfl rfl ?_
   refine S_val (Y_move rfl) ?_
   refine S_on rfl rfl ?_
   refine S_val (Y_move rfl) ?_
   refine S_on rfl rfl ?_
   refine S_val (Y_neq rfl rfl) ?_
   refine S_val (Y_pickF rfl rfl) ?_
   refine S_nl rfl rfl ?_
   refine th_n (hK9 _ _ ?_)
   clear hK9 K9
   refine S_if rfl (fun hb3 => ?_) (fun hb3 => ?_)  -- c2
   · -- c2T
    first | with_reducible (replace hb3 := nb_nt hb3) | with_reducible (replace hb3 := nb_tt hb3) | with_reducible (replace hb3 := nb_bt hb3) | skip
    exact absurd rfl hb3
   · -- c2F
    first | with_reducible (replace hb3 := nb_nf hb3) | with_reducible (replace hb3 := nb_tf hb3) | with_reducible (replace hb3 := nb_bf hb3) | skip
    refine wp_skip ?_
    refine th_n (hK8 _ _ ?_)
    clear hK8 K8
    refine wp_seq_k fun K10 hK10 => ?_
    refine wp_seq_k fun K11 hK11 => ?_
    refine Sb 68 rfl ?_  -- 8
    refine S_val (Y_move rfl) ?_
    refine S_val (Y_lss rfl rfl) ?_
    refine S_nl rfl rfl ?_
    refine th_n (hK11 _ _ ?_)
    clear hK11 K11
    refine S_if rfl (fun hb4 => ?_) (fun hb4 => ?_)  -- c3
    · -- c3T
     replace hb4 := nb_tt hb4
     refine wp_seq_k fun K12 hK12 => ?_
     refine Sb 68 rfl ?_  -- 9
     refine S_val (Y_move rfl) ?_
     refine S_val (Y_eql rfl rfl) ?_
     refine S_val (Y_move rfl) ?_
     refine S_g 35 rfl (fun hb5 => ?_) (fun hb5 => ?_)  -- g2
     · -- g2T
      replace hb5 := nb_tt hb5
      refine S_on rfl rfl ?_
      refine S_val (Y_move rfl) ?_
      refine S_on rfl rfl ?_
      refine S_val (Y_eql rfl rfl) ?_
      refine S_val (Y_pickT rfl rfl) ?_
      refine S_val (Y_move rfl) ?_
      refine S_g 39 rfl (fun hb6 => ?_) (fun hb6 => ?_)  -- g3
      · -- g3T
       first | with_reducible (replace hb6 := nb_nt hb6) | with_reducible (replace hb6 := nb_tt hb6) | with_reducible (replace hb6 := nb_bt hb6) | skip
       refine S_on rfl rfl ?_
       refine S_call rfl en18 (laws_alive_c _) ?_  -- k4 laws.alive
       rintro v6 w6 ⟨rfl, g6⟩
       replace hA := hA.grow g6
       replace hDA := hDA.grow g6
       replace hDB := hDB.grow g6
       replace G := G.grow g6
       replace B2 := B2.grow g6
       have zg6 := g6.size
       refine S_val (Y_pickT rfl rfl) ?_
       refine S_val (Y_assign rfl) ?_
       refine S_nl rfl rfl ?_
       refine th_n (hK12 _ _ ?_)
       clear hK12 K12
       refine wp_ret ?_
       refine th_r ?_
       clear hK10 K10
       refine ret_r1 rfl rfl ?_  -- r2
       first | exact ⟨rfl, G⟩ | exact ⟨vT (by omega), G⟩
      · -- g3F
       first | with_reducible (replace hb6 := nb_nf hb6) | with_reducible (replace hb6 := nb_tf hb6) | with_reducible (replace hb6 := nb_bf hb6) | skip
       have := used_neg (by assumption : (usedV h).1 < 0); omega
     · -- g2F
      replace hb5 := nb_tf hb5
      have := used_neg (by assumption : (usedV h).1 < 0); omega
    · -- c3F
     replace hb4 := nb_tf hb4
     obtain ⟨va, u, l, hu1, hu2, hlu, huN, hlm, hul⟩ := used_pos hb4
     rw [hu1, hu2]
     refine wp_skip ?_
     refine th_n (hK10 _ _ ?_)
     clear hK10 K10
     refine wp_seq_k fun K13 hK13 => ?_
     refine Sb 68 rfl ?_  -- 10
     refine S_val (Y_move rfl) ?_
     refine S_val (Y_move rfl) ?_
     refine S_val (Y_leq rfl rfl) ?_
     refine S_val (Y_move rfl) ?_
     refine S_g 45 rfl (fun hb5 => ?_) (fun hb5 => ?_)  -- g4
     · -- g4T
      replace hb5 := nb_tt hb5
      refine S_on rfl rfl ?_
      refine S_val (Y_move rfl) ?_
      refine S_on rfl rfl ?_
      refine S_val (Y_field Try.underlying35 rfl fz35_0 (by decide) rfl) ?_
      refine S_on rfl rfl ?_
      refine S_val (Y_load Try.underlying32 rfl rfl (B2.at (by rfl))) ?_  -- l3
      refine S_on rfl rfl ?_
      refine S_val (Y_len Try.underlying32 rfl) ?_
      refine S_on rfl rfl ?_
      refine S_val (Y_leq rfl rfl) ?_
      refine S_val (Y_pickT rfl rfl) ?_
      refine S_val (Y_move rfl) ?_
      refine S_g 52 rfl (fun hb6 => ?_) (fun hb6 => ?_)  -- g5
      · -- g5T
       first | with_reducible (replace hb6 := nb_nt hb6) | with_reducible (replace hb6 := nb_tt hb6) | with_reducible (replace hb6 := nb_bt hb6) | skip
       refine S_on rfl rfl ?_
       refine S_val (Y_move rfl) ?_
       refine S_on rfl rfl ?_
       refine S_val (Y_loadS Try.underlying35 rfl sz35 rfl (B2.row (by rfl))) ?_  -- l4
       refine S_on rfl rfl ?_
       refine S_call rfl en28 (impl_MetOrder_c _ _ _ _ _ _ _ (by assumption) (by assumption) (by omega)) ?_  -- k5 impl.MetOrder
       rintro v7 w7 ⟨A7, q7, cap7, rfl, hq7, O7, g7⟩
       replace hA := hA.grow g7
       replace hDA := hDA.grow g7
       replace hDB := hDB.grow g7
       replace G := G.grow g7
       replace B2 := B2.grow g7
       have zg7 := g7.size
       subst hq7
       refine S_on rfl rfl ?_
       refine S_val (Y_len Try.underlying33 rfl) ?_
       refine S_on rfl rfl ?_
       refine S_val (Y_eql rfl rfl) ?_
       refine S_val (Y_pickT rfl rfl) ?_
       refine S_val (Y_move rfl) ?_
       refine S_g 59 rfl (fun hb7 => ?_) (fun hb7 => ?_)  -- g6
       · -- g6T
        first | with_reducible (replace hb7 := nb_nt hb7) | with_reducible (replace hb7 := nb_tt hb7) | with_reducible (replace hb7 := nb_bt hb7) | skip
        refine S_on rfl rfl ?_
        refine S_val (Y_move rfl) ?_
        refine S_on rfl rfl ?_
        refine S_val (Y_move rfl) ?_
        refine S_on rfl rfl ?_
        refine S_val (Y_sub (c := (((leakV h).length : Nat) : Int)) rfl rfl (by omega) (by omega) (by omega)) ?_
        refine S_on rfl rfl ?_
        refine S_val (Y_loadS Try.underlying35 rfl sz35 rfl (B2.row (by rfl))) ?_  -- l5
        refine S_on rfl rfl ?_
        refine S_call rfl en29 (impl_LeakedCells_c _ _ _ _ _ _ _ (by assumption) (by assumption) (by omega)) ?_  -- k6 impl.LeakedCells
        rintro v8 w8 ⟨A8, q8, cap8, rfl, hq8, O8, g8⟩
        replace hA := hA.grow g8
        replace hDA := hDA.grow g8
        replace hDB := hDB.grow g8
        replace G := G.grow g8
        replace B2 := B2.grow g8
        have zg8 := g8.size
        subst hq8
        refine S_on rfl rfl ?_
        refine S_val (Y_len Try.underlying33 rfl) ?_
        refine S_on rfl rfl ?_
        refine S_val (Y_eql rfl rfl) ?_
        refine S_val (Y_pickT rfl rfl) ?_
        refine S_val (Y_assign rfl) ?_
        refine S_nl rfl rfl ?_
        refine th_n (hK13 _ _ ?_)
        clear hK13 K13
        refine wp_ret ?_
        refine ret_r1 rfl rfl ?_  -- r3
        first | exact ⟨rfl, G⟩ | exact ⟨vT (by omega), G⟩
       · -- g6F
        first | with_reducible (replace hb7 := nb_nf hb7) | with_reducible (replace hb7 := nb_tf hb7) | with_reducible (replace hb7 := nb_bf hb7) | skip
        omega
      · -- g5F
       first | with_reducible (replace hb6 := nb_nf hb6) | with_reducible (replace hb6 := nb_tf hb6) | with_reducible (replace hb6 := nb_bf hb6) | skip
       omega
     · -- g4F
      replace hb5 := nb_tf hb5
      omega

end Go.Proofs.Ytikgflhepclfgaa
