/-
  The law FnCommandsValid returns true.
  Conditions: those that each theorem states.
-/
import Derived.Test.YtikgflhepclfgaaQa5
set_option linter.unusedVariables false
set_option linter.unusedSimpArgs false
namespace Go.Proofs.Ytikgflhepclfgaa
open Go Go.RowKit
attribute [local irreducible] wpList wpAnyH Code.wp dOp

theorem CommandsValid_p (Pr : Nat → Prop) (A : Option Addr) (xs : List LCmd) (n c : Nat) (w : World) (hA : RO Pr w A xs) (hx : xs.length ≤ 1048576) (hn : n = xs.length) :
    Calls Try.prog 20 #[.slice A n c] w (Ret fun v w' => v = .bool (csB xs) ∧ Grow w w') := by
  subst hn
  exact impl_CommandsValid_c Pr A xs c w hA hx


set_option maxHeartbeats 400000 in
set_option maxRecDepth 20000 in
theorem laws_FnCommandsValid_c (Pr : Nat → Prop) (A : Option Addr) (xs : List Int) (c : Nat) (w : World) (hA : R1 Pr w A (u8s xs)) (hn : xs.length ≤ 9223372036854775807) (hcap : xs.length ≤ c) (hrg : ∀ y ∈ xs, 0 ≤ y ∧ y ≤ 255) :
    Calls Try.prog 4 #[.slice A xs.length c] w (Ret fun v w' => v = .bool true ∧ Grow w w') := by
 refine enter Try.func4 rfl Try.ntmps4 (L := [_,_,_,_,_,_,_,_,_,_,_,_,_,_,_,_,_,_,_,_,_,_,_,_,_,_,_,_,_,_,_,_,_,_,_,_,_,_,_]) rfl ?_
 have G := Mod.refl No w
 have hA0 := hA
 refine wp_seq_k fun K1 hK1 => ?_
 refine Sb 39 rfl ?_  -- 0
 refine S_val (Y_assign rfl) ?_
 refine S_nl rfl rfl ?_
 refine th_n (hK1 _ _ ?_)
 clear hK1 K1
 refine wp_seq_k fun K2 hK2 => ?_
 refine wp_seq_k fun K3 hK3 => ?_
 refine Sb 39 rfl ?_  -- 1
 refine S_val (Y_move rfl) ?_
 refine S_val (Y_len Try.underlying22 rfl) ?_
 refine S_val (Y_gtr rfl rfl) ?_
 refine S_nl rfl rfl ?_
 refine th_n (hK3 _ _ ?_)
 clear hK3 K3
 refine S_if rfl (fun hb1 => ?_) (fun hb1 => ?_)  -- c1
 · -- c1T
  replace hb1 := nb_tt hb1
  refine wp_seq_k fun K4 hK4 => ?_
  refine Sb 39 rfl ?_  -- 2
  refine S_val (Y_assign rfl) ?_
  refine S_nl rfl rfl ?_
  refine th_n (hK4 _ _ ?_)
  clear hK4 K4
  refine wp_ret ?_
  refine th_r ?_
  clear hK2 K2
  refine ret_r1 rfl rfl ?_  -- r1
  exact ⟨rfl, G⟩
 · -- c1F
  replace hb1 := nb_tf hb1
  have hx : xs.length ≤ 1048576 := by omega
  refine wp_skip ?_
  refine th_n (hK2 _ _ ?_)
  clear hK2 K2
  refine wp_seq_k fun K5 hK5 => ?_
  refine Sb 39 rfl ?_  -- 3
  refine S_val (Y_move rfl) ?_
  refine S_call rfl en19 (spec_DrawCommandsValid_c _ _ _ _ _ (by assumption) (by omega) (by omega) (by assumption)) ?_  -- k1 spec.DrawCommandsValid
  rintro v1 w1 ⟨l1, A1, q1, cap1, rfl, hq1, hqc1, hl1, RO1, g1⟩
  replace hA := hA.grow g1
  replace G := G.grow g1
  have zg1 := g1.size
  subst hq1
  obtain ⟨l, rfl⟩ : ∃ x, x = l1 := ⟨_, rfl⟩
  obtain ⟨AL, rfl⟩ : ∃ x, x = A1 := ⟨_, rfl⟩
  obtain ⟨cL, rfl⟩ : ∃ x, x = cap1 := ⟨_, rfl⟩
  have hqc := hqc1
  have hl41 := hl1
  have hRO := RO1.below
  refine S_val (Y_assign rfl) ?_
  refine S_nl rfl rfl ?_
  refine th_n (hK5 _ _ ?_)
  clear hK5 K5
  refine wp_seq_k fun K6 hK6 => ?_
  refine Sb 39 rfl ?_  -- 4
  refine S_val (Y_move rfl) ?_
  refine S_call rfl en20 (impl_CommandsValid_c _ _ _ _ _ (by assumption) (by omega)) ?_  -- k2 impl.CommandsValid
  rintro v2 w2 ⟨rfl, g2⟩
  replace hA := hA.grow g2
  replace hRO := hRO.grow g2
  replace G := G.grow g2
  have zg2 := g2.size
  refine S_val (Y_assign rfl) ?_
  refine S_nl rfl rfl ?_
  refine th_n (hK6 _ _ ?_)
  clear hK6 K6
  refine wp_seq_k fun K7 hK7 => ?_
  refine wp_seq_k fun K8 hK8 => ?_
  refine Sb 39 rfl ?_  -- 5
  refine S_val (Y_move rfl) ?_
  refine S_val (Y_move rfl) ?_
  refine S_call rfl en21 (spec_CommandsValid_c _ _ _ _ _ (by assumption) (by omega)) ?_  -- k3 spec.CommandsValid
  rintro v3 w3 ⟨rfl, g3⟩
  replace hA := hA.grow g3
  replace hRO := hRO.grow g3
  replace G := G.grow g3
  have zg3 := g3.size
  refine S_val (Y_neb Try.underlying4 rfl rfl) ?_
  refine S_nl rfl rfl ?_
  refine th_n (hK8 _ _ ?_)
  clear hK8 K8
  refine S_if rfl (fun hb2 => ?_) (fun hb2 => ?_)  -- c2
  · -- c2T
   replace hb2 := nb_nt hb2
   exact absurd rfl hb2
  · -- c2F
   replace hb2 := nb_nf hb2
   refine wp_skip ?_
   refine th_n (hK7 _ _ ?_)
   clear hK7 K7
   refine wp_seq_k fun K9 hK9 => ?_
   refine Sb 39 rfl ?_  -- 7
   refine S_val (Y_move rfl) ?_
   refine S_val (Y_not rfl) ?_
   refine S_val (Y_move rfl) ?_
   refine S_g 18 rfl (fun hb3 => ?_) (fun hb3 => ?_)  -- g1
   · -- g1T
    first | with_reducible (replace hb3 := nb_nt hb3) | with_reducible (replace hb3 := nb_tt hb3) | with_reducible (replace hb3 := nb_bt hb3) | skip
    refine S_off rfl rfl ?_
    refine S_off rfl rfl ?_
    refine S_off rfl rfl ?_
    refine S_off rfl rfl ?_
    refine S_off rfl rfl ?_
    refine S_off rfl rfl ?_
    refine S_val (Y_pickT rfl rfl) ?_
    refine S_val (Y_move rfl) ?_
    refine S_on rfl rfl ?_
    refine S_bs0 Try.underlying29 sz24 ?_
    intro b4 w4 fb4 g4 B4
    have lb4 := B4.lt
    replace hA := hA.grow g4
    replace hRO := hRO.grow g4
    replace G := G.grow g4
    have zg4 := g4.size
    refine S_on rfl rfl ?_
    refine S_val (Y_move rfl) ?_
    refine S_on rfl rfl ?_
    have O1 : OW (fun i => b4 ≤ i) w4 24 4 (some ⟨b4, 0, none⟩) 0 0 [] := OW.of_blk B4 rfl (by decide) (by omega)
    refine S_app0 (news := flatO l) Try.underlying29 zr24 sz24 by24 rfl rfl O1 (flatO_len l) (Src.ro hRO) (flatO_one l) (by omega) (Pr' := fun i => b4 ≤ i) (fun i hi => hi) (by omega) ?_
    intro A5 cap5 w5 X5 m5
    replace G := G.abv m5
    replace hA := hA0.grow G
    replace hRO := hRO.md m5
    have zm5 := m5.size
    obtain ⟨O2, hO2⟩ : ∃ x : OW _ _ _ _ _ _ _ _, x = X5 := ⟨_, rfl⟩
    clear hO2 O1 X5
    refine S_on rfl rfl ?_
    refine S_val (Y_build (cs := [_, _, _, _]) zr24 pc24 rfl rfl) ?_
    refine S_on rfl rfl ?_
    refine S_bs1 (cs := [_, _, _, _]) Try.underlying29 zr24 sz24 rfl rfl rfl ?_
    intro b6 w6 fb6 g6 B6
    have lb6 := B6.lt
    replace hA := hA.grow g6
    replace hRO := hRO.grow g6
    replace O2 := O2.grow g6
    replace G := G.grow g6
    have zg6 := g6.size
    refine S_on rfl rfl ?_
    refine S_app Try.underlying29 zr24 sz24 by24 rfl rfl O2 rfl (Src.blk B6) (by simp [Value.oneCell']) (by omega) (Pr' := fun i => b4 ≤ i) (fun i hi => hi) (by omega) ?_
    intro A7 cap7 w7 X7 m7
    have O3 : OW (fun i => b4 ≤ i) w7 24 4 A7 (l.length + 1) cap7 (flatO (l ++ [⟨0, 0, 0, 0⟩])) := by rw [flatO_last]; exact X7
    clear X7
    replace G := G.abv m7
    replace hA := hA0.grow G
    replace hRO := hRO.md m7
    have zm7 := m7.size
    have hRZ := RO.of_ow O3
    refine S_on rfl rfl ?_
    refine S_call rfl en20 (CommandsValid_p _ _ (l ++ [⟨0, 0, 0, 0⟩]) _ _ _ hRZ (by rw [List.length_append]; simp; omega) (by rw [List.length_append]; rfl)) ?_  -- k4 impl.CommandsValid
    rintro v8 w8 ⟨rfl, g8⟩
    replace hA := hA.grow g8
    replace hRO := hRO.grow g8
    replace hRZ := hRZ.grow g8
    replace G := G.grow g8
    have zg8 := g8.size
    refine S_on rfl rfl ?_
    refine S_val (Y_not rfl) ?_
    refine S_val (Y_pickT rfl rfl) ?_
    refine S_val (Y_move rfl) ?_
    refine S_g 36 rfl (fun hb4 => ?_) (fun hb4 => ?_)  -- g2
    · -- g2T
     first | with_reducible (replace hb4 := nb_nt hb4) | with_reducible (replace hb4 := nb_tt hb4) | with_reducible (replace hb4 := nb_bt hb4) | skip
     refine S_on rfl rfl ?_
     refine S_call rfl en18 (laws_alive_c _) ?_  -- k5 laws.alive
     rintro v9 w9 ⟨rfl, g9⟩
     replace hA := hA.grow g9
     replace hRO := hRO.grow g9
     replace hRZ := hRZ.grow g9
     replace G := G.grow g9
     have zg9 := g9.size
     refine S_val (Y_pickT rfl rfl) ?_
     refine S_val (Y_assign rfl) ?_
     refine S_nl rfl rfl ?_
     refine th_n (hK9 _ _ ?_)
     clear hK9 K9
     refine wp_ret ?_
     refine ret_r1 rfl rfl ?_  -- r2
     exact ⟨rfl, G⟩
    · -- g2F
     first | with_reducible (replace hb4 := nb_nf hb4) | with_reducible (replace hb4 := nb_tf hb4) | with_reducible (replace hb4 := nb_bf hb4) | skip
     rw [csB_zero] at hb4; cases hb4
   · -- g1F
    first | with_reducible (replace hb3 := nb_nf hb3) | with_reducible (replace hb3 := nb_tf hb3) | with_reducible (replace hb3 := nb_bf hb3) | skip
    have hcs : csB l = true := by assumption
    refine S_on rfl rfl ?_
    refine S_val (Y_move rfl) ?_
    refine S_on rfl rfl ?_
    refine S_val (Y_move rfl) ?_
    refine S_on rfl rfl ?_
    refine S_val (Y_len Try.underlying29 rfl) ?_
    refine S_on rfl rfl ?_
    refine S_val (Y_quo (c := ((l.length / 2 : Nat) : Int)) rfl rfl (by omega) (by omega) (by decide) (by omega)) ?_
    refine S_on rfl rfl ?_
    refine S_val (Y_sliceH Try.underlying29 sz24 rfl (j := l.length / 2) rfl (by omega)) ?_
    refine S_on rfl rfl ?_
    refine S_call rfl en20 (CommandsValid_p _ _ (l.take (l.length / 2)) _ _ _ (hRO.takeC _) (by rw [List.length_take]; omega) (by rw [List.length_take]; omega)) ?_  -- k6 impl.CommandsValid
    rintro v10 w10 ⟨rfl, g10⟩
    replace hA := hA.grow g10
    replace hRO := hRO.grow g10
    replace G := G.grow g10
    have zg10 := g10.size
    refine S_val (Y_pickF rfl rfl) ?_
    refine S_val (Y_move rfl) ?_
    refine S_g 26 rfl (fun hb4 => ?_) (fun hb4 => ?_)  -- g3
    · -- g3T
     first | with_reducible (replace hb4 := nb_nt hb4) | with_reducible (replace hb4 := nb_tt hb4) | with_reducible (replace hb4 := nb_bt hb4) | skip
     refine S_on rfl rfl ?_
     refine S_bs0 Try.underlying29 sz24 ?_
     intro b11 w11 fb11 g11 B11
     have lb11 := B11.lt
     replace hA := hA.grow g11
     replace hRO := hRO.grow g11
     replace G := G.grow g11
     have zg11 := g11.size
     refine S_on rfl rfl ?_
     refine S_val (Y_move rfl) ?_
     refine S_on rfl rfl ?_
     have O1 : OW (fun i => b11 ≤ i) w11 24 4 (some ⟨b11, 0, none⟩) 0 0 [] := OW.of_blk B11 rfl (by decide) (by omega)
     refine S_app0 (news := flatO l) Try.underlying29 zr24 sz24 by24 rfl rfl O1 (flatO_len l) (Src.ro hRO) (flatO_one l) (by omega) (Pr' := fun i => b11 ≤ i) (fun i hi => hi) (by omega) ?_
     intro A12 cap12 w12 X12 m12
     replace G := G.abv m12
     replace hA := hA0.grow G
     replace hRO := hRO.md m12
     have zm12 := m12.size
     obtain ⟨O2, hO2⟩ : ∃ x : OW _ _ _ _ _ _ _ _, x = X12 := ⟨_, rfl⟩
     clear hO2 O1 X12
     refine S_on rfl rfl ?_
     refine S_val (Y_build (cs := [_, _, _, _]) zr24 pc24 rfl rfl) ?_
     refine S_on rfl rfl ?_
     refine S_bs1 (cs := [_, _, _, _]) Try.underlying29 zr24 sz24 rfl rfl rfl ?_
     intro b13 w13 fb13 g13 B13
     have lb13 := B13.lt
     replace hA := hA.grow g13
     replace hRO := hRO.grow g13
     replace O2 := O2.grow g13
     replace G := G.grow g13
     have zg13 := g13.size
     refine S_on rfl rfl ?_
     refine S_app Try.underlying29 zr24 sz24 by24 rfl rfl O2 rfl (Src.blk B13) (by simp [Value.oneCell']) (by omega) (Pr' := fun i => b11 ≤ i) (fun i hi => hi) (by omega) ?_
     intro A14 cap14 w14 X14 m14
     have O3 : OW (fun i => b11 ≤ i) w14 24 4 A14 (l.length + 1) cap14 (flatO (l ++ [⟨0, 0, 0, 0⟩])) := by rw [flatO_last]; exact X14
     clear X14
     replace G := G.abv m14
     replace hA := hA0.grow G
     replace hRO := hRO.md m14
     have zm14 := m14.size
     have hRZ := RO.of_ow O3
     refine S_on rfl rfl ?_
     refine S_call rfl en20 (CommandsValid_p _ _ (l ++ [⟨0, 0, 0, 0⟩]) _ _ _ hRZ (by rw [List.length_append]; simp; omega) (by rw [List.length_append]; rfl)) ?_  -- k7 impl.CommandsValid
     rintro v15 w15 ⟨rfl, g15⟩
     replace hA := hA.grow g15
     replace hRO := hRO.grow g15
     replace hRZ := hRZ.grow g15
     replace G := G.grow g15
     have zg15 := g15.size
     refine S_on rfl rfl ?_
     refine S_val (Y_not rfl) ?_
     refine S_val (Y_pickT rfl rfl) ?_
     refine S_val (Y_move rfl) ?_
     refine S_g 36 rfl (fun hb5 => ?_) (fun hb5 => ?_)  -- g4
     · -- g4T
      first | with_reducible (replace hb5 := nb_nt hb5) | with_reducible (replace hb5 := nb_tt hb5) | with_reducible (replace hb5 := nb_bt hb5) | skip
      refine S_on rfl rfl ?_
      refine S_call rfl en18 (laws_alive_c _) ?_  -- k8 laws.alive
      rintro v16 w16 ⟨rfl, g16⟩
      replace hA := hA.grow g16
      replace hRO := hRO.grow g16
      replace hRZ := hRZ.grow g16
      replace G := G.grow g16
      have zg16 := g16.size
      refine S_val (Y_pickT rfl rfl) ?_
      refine S_val (Y_assign rfl) ?_
      refine S_nl rfl rfl ?_
      refine th_n (hK9 _ _ ?_)
      clear hK9 K9
      refine wp_ret ?_
      refine ret_r1 rfl rfl ?_  -- r3
      exact ⟨rfl, G⟩
     · -- g4F
      first | with_reducible (replace hb5 := nb_nf hb5) | with_reducible (replace hb5 := nb_tf hb5) | with_reducible (replace hb5 := nb_bf hb5) | skip
      rw [csB_zero] at hb5; cases hb5
    · -- g3F
     first | with_reducible (replace hb4 := nb_nf hb4) | with_reducible (replace hb4 := nb_tf hb4) | with_reducible (replace hb4 := nb_bf hb4) | skip
     rw [csB_take hcs] at hb4; cases hb4

end Go.Proofs.Ytikgflhepclfgaa
