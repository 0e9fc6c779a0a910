/-
  The law FnCommandValid returns true.
  Conditions: those that each theorem states.
-/
import Derived.Test.YtikgflhepclfgaaQa5
set_option linter.unusedVariables false
set_option linter.unusedSimpArgs false
namespace Go.Proofs.Ytikgflhepclfgaa
open Go Go.RowKit
attribute [local irreducible] wpList wpAnyH Code.wp dOp

set_option maxHeartbeats 400000 in
set_option maxRecDepth 20000 in
theorem laws_FnCommandValid_c (Pr : Nat → Prop) (A : Option Addr) (xs : List Int) (c : Nat) (w : World) (hA : R1 Pr w A (u8s xs)) (hn : xs.length ≤ 9223372036854775807) (hcap : xs.length ≤ c) (hrg : ∀ y ∈ xs, 0 ≤ y ∧ y ≤ 255) :
    Calls Try.prog 3 #[.slice A xs.length c] w (Ret fun v w' => v = .bool true ∧ Grow w w') := by
 refine enter Try.func3 rfl Try.ntmps3 (L := [_,_,_,_,_,_,_,_,_,_,_,_,_,_,_,_,_,_,_,_,_,_,_,_,_,_,_,_,_,_,_,_,_]) rfl ?_
 have G := Mod.refl No w
 have hA0 := hA
 refine wp_seq_k fun K1 hK1 => ?_
 refine Sb 33 rfl ?_  -- 0
 refine S_val (Y_assign rfl) ?_
 refine S_nl rfl rfl ?_
 refine th_n (hK1 _ _ ?_)
 clear hK1 K1
 refine wp_seq_k fun K2 hK2 => ?_
 refine wp_seq_k fun K3 hK3 => ?_
 refine Sb 33 rfl ?_  -- 1
 refine S_val (Y_move rfl) ?_
 refine S_val (Y_len Try.underlying22 rfl) ?_
 refine S_val (Y_gtr rfl rfl) ?_
 refine S_nl rfl rfl ?_
 refine th_n (hK3 _ _ ?_)
 clear hK3 K3
 refine S_if rfl (fun hb1 => ?_) (fun hb1 => ?_)  -- c1
 · -- c1T
  replace hb1 := nb_tt hb1
  refine wp_seq_k fun K4 hK4 => ?_
  refine Sb 33 rfl ?_  -- 2
  refine S_val (Y_assign rfl) ?_
  refine S_nl rfl rfl ?_
  refine th_n (hK4 _ _ ?_)
  clear hK4 K4
  refine wp_ret ?_
  refine th_r ?_
  clear hK2 K2
  refine ret_r1 rfl rfl ?_  -- r1
  exact ⟨rfl, G⟩
 · -- c1F
  replace hb1 := nb_tf hb1
  have hx : xs.length ≤ 1048576 := by omega
  refine wp_skip ?_
  refine th_n (hK2 _ _ ?_)
  clear hK2 K2
  refine wp_seq_k fun K5 hK5 => ?_
  refine Sb 33 rfl ?_  -- 3
  refine S_val (Y_move rfl) ?_
  refine S_call rfl en15 (spec_DrawCommandValid_c _ _ _ _ _ (by assumption) (by omega) (by omega) (by assumption)) ?_  -- k1 spec.DrawCommandValid
  rintro v1 w1 ⟨o1, rfl, g1⟩
  replace hA := hA.grow g1
  replace G := G.grow g1
  have zg1 := g1.size
  obtain ⟨o, rfl⟩ : ∃ x, x = o1 := ⟨_, rfl⟩
  refine S_alloc (cs := [_, _, _, _]) zr24 rfl ?_
  intro b2 w2 fb2 g2 B2
  have lb2 := B2.lt
  replace hA := hA.grow g2
  replace G := G.grow g2
  have zg2 := g2.size
  refine S_stM (pre := []) (old := [_, _, _, _]) (post := []) (vs := [_, _, _, _]) sz24 rfl rfl rfl (by first | rfl | assumption) B2 rfl rfl ?_
  intro w3 m3 X3
  replace B2 := Blk.eq (ys := [_, _, _, _]) X3 rfl
  clear X3
  replace G := G.abv m3
  replace hA := hA0.grow G
  have zm3 := m3.size
  refine S_nl rfl rfl ?_
  refine th_n (hK5 _ _ ?_)
  clear hK5 K5
  refine wp_seq_k fun K6 hK6 => ?_
  refine Sb 33 rfl ?_  -- 4
  refine S_val (Y_loadS Try.underlying24 rfl sz24 rfl (B2.row (by rfl))) ?_  -- l1
  refine S_call rfl en16 (impl_CommandValid_c _ _ _ _ _) ?_  -- k2 impl.CommandValid
  rintro v4 w4 ⟨rfl, g4⟩
  replace hA := hA.grow g4
  replace G := G.grow g4
  replace B2 := B2.grow g4
  have zg4 := g4.size
  refine S_val (Y_assign rfl) ?_
  refine S_nl rfl rfl ?_
  refine th_n (hK6 _ _ ?_)
  clear hK6 K6
  refine wp_seq_k fun K7 hK7 => ?_
  refine wp_seq_k fun K8 hK8 => ?_
  refine Sb 33 rfl ?_  -- 5
  refine S_val (Y_move rfl) ?_
  refine S_val (Y_loadS Try.underlying24 rfl sz24 rfl (B2.row (by rfl))) ?_  -- l2
  refine S_call rfl en17 (spec_CommandValid_c _ _ _ _ _) ?_  -- k3 spec.CommandValid
  rintro v5 w5 ⟨rfl, g5⟩
  replace hA := hA.grow g5
  replace G := G.grow g5
  replace B2 := B2.grow g5
  have zg5 := g5.size
  refine S_val (Y_neb Try.underlying4 rfl rfl) ?_
  refine S_nl rfl rfl ?_
  refine th_n (hK8 _ _ ?_)
  clear hK8 K8
  refine S_if rfl (fun hb2 => ?_) (fun hb2 => ?_)  -- c2
  · -- c2T
   replace hb2 := nb_nt hb2
   exact absurd rfl hb2
  · -- c2F
   replace hb2 := nb_nf hb2
   refine wp_skip ?_
   refine th_n (hK7 _ _ ?_)
   clear hK7 K7
   refine wp_seq_k fun K9 hK9 => ?_
   refine Sb 33 rfl ?_  -- 7
   refine S_val (Y_loadS Try.underlying24 rfl sz24 rfl (B2.row (by rfl))) ?_  -- l3
   refine S_alloc (cs := [_, _, _, _]) zr24 rfl ?_
   intro b6 w6 fb6 g6 B6
   have lb6 := B6.lt
   replace hA := hA.grow g6
   replace G := G.grow g6
   replace B2 := B2.grow g6
   have zg6 := g6.size
   refine S_stM (pre := []) (old := [_, _, _, _]) (post := []) (vs := [_, _, _, _]) sz24 rfl rfl rfl (by first | rfl | assumption) B6 rfl rfl ?_
   intro w7 m7 X7
   replace B6 := Blk.eq (ys := [_, _, _, _]) X7 rfl
   clear X7
   replace G := G.abv m7
   replace hA := hA0.grow G
   replace B2 := B2.md m7
   have zm7 := m7.size
   refine S_nl rfl rfl ?_
   refine th_n (hK9 _ _ ?_)
   clear hK9 K9
   refine wp_seq_k fun K10 hK10 => ?_
   refine Sb 33 rfl ?_  -- 8
   refine S_val (Y_field Try.underlying24 rfl fz24_1 (by decide) rfl) ?_
   refine S_stM (pre := [_]) (old := [_]) (post := [_, _]) (vs := [_]) sz3 rfl rfl rfl (by first | rfl | assumption) B6 rfl rfl ?_
   intro w8 m8 X8
   replace B6 := Blk.eq (ys := [_, _, _, _]) X8 rfl
   clear X8
   replace G := G.abv m8
   replace hA := hA0.grow G
   replace B2 := B2.md m8
   have zm8 := m8.size
   refine S_nl rfl rfl ?_
   refine th_n (hK10 _ _ ?_)
   clear hK10 K10
   refine wp_seq_k fun K11 hK11 => ?_
   refine Sb 33 rfl ?_  -- 9
   refine S_val (Y_loadS Try.underlying24 rfl sz24 rfl (B2.row (by rfl))) ?_  -- l4
   refine S_alloc (cs := [_, _, _, _]) zr24 rfl ?_
   intro b9 w9 fb9 g9 B9
   have lb9 := B9.lt
   replace hA := hA.grow g9
   replace G := G.grow g9
   replace B2 := B2.grow g9
   replace B6 := B6.grow g9
   have zg9 := g9.size
   refine S_stM (pre := []) (old := [_, _, _, _]) (post := []) (vs := [_, _, _, _]) sz24 rfl rfl rfl (by first | rfl | assumption) B9 rfl rfl ?_
   intro w10 m10 X10
   replace B9 := Blk.eq (ys := [_, _, _, _]) X10 rfl
   clear X10
   replace G := G.abv m10
   replace hA := hA0.grow G
   replace B2 := B2.md m10
   replace B6 := B6.md m10
   have zm10 := m10.size
   refine S_nl rfl rfl ?_
   refine th_n (hK11 _ _ ?_)
   clear hK11 K11
   refine wp_seq_k fun K12 hK12 => ?_
   refine Sb 33 rfl ?_  -- 10
   refine S_val (Y_field Try.underlying24 rfl fz24_0 (by decide) rfl) ?_
   refine S_stM (pre := []) (old := [_]) (post := [_, _, _]) (vs := [_]) sz3 rfl rfl rfl (by first | rfl | assumption) B9 rfl rfl ?_
   intro w11 m11 X11
   replace B9 := Blk.eq (ys := [_, _, _, _]) X11 rfl
   clear X11
   replace G := G.abv m11
   replace hA := hA0.grow G
   replace B2 := B2.md m11
   replace B6 := B6.md m11
   have zm11 := m11.size
   refine S_nl rfl rfl ?_
   refine th_n (hK12 _ _ ?_)
   clear hK12 K12
   refine wp_seq_k fun K13 hK13 => ?_
   refine Sb 33 rfl ?_  -- 11
   refine S_val (Y_loadS Try.underlying24 rfl sz24 rfl (B6.row (by rfl))) ?_  -- l5
   refine S_call rfl en16 (impl_CommandValid_c _ _ _ _ _) ?_  -- k4 impl.CommandValid
   rintro v12 w12 ⟨rfl, g12⟩
   replace hA := hA.grow g12
   replace G := G.grow g12
   replace B2 := B2.grow g12
   replace B6 := B6.grow g12
   replace B9 := B9.grow g12
   have zg12 := g12.size
   refine S_val (Y_not rfl) ?_
   refine S_val (Y_move rfl) ?_
   refine S_g 25 rfl (fun hb3 => ?_) (fun hb3 => ?_)  -- g1
   · -- g1T
    first | with_reducible (replace hb3 := nb_nt hb3) | with_reducible (replace hb3 := nb_tt hb3) | with_reducible (replace hb3 := nb_bt hb3) | skip
    refine S_on rfl rfl ?_
    refine S_val (Y_loadS Try.underlying24 rfl sz24 rfl (B9.row (by rfl))) ?_  -- l6
    refine S_on rfl rfl ?_
    refine S_call rfl en16 (impl_CommandValid_c _ _ _ _ _) ?_  -- k5 impl.CommandValid
    rintro v13 w13 ⟨rfl, g13⟩
    replace hA := hA.grow g13
    replace G := G.grow g13
    replace B2 := B2.grow g13
    replace B6 := B6.grow g13
    replace B9 := B9.grow g13
    have zg13 := g13.size
    refine S_on rfl rfl ?_
    refine S_val (Y_not rfl) ?_
    refine S_val (Y_pickT rfl rfl) ?_
    refine S_val (Y_move rfl) ?_
    refine S_g 30 rfl (fun hb4 => ?_) (fun hb4 => ?_)  -- g2
    · -- g2T
     first | with_reducible (replace hb4 := nb_nt hb4) | with_reducible (replace hb4 := nb_tt hb4) | with_reducible (replace hb4 := nb_bt hb4) | skip
     refine S_on rfl rfl ?_
     refine S_call rfl en18 (laws_alive_c _) ?_  -- k6 laws.alive
     rintro v14 w14 ⟨rfl, g14⟩
     replace hA := hA.grow g14
     replace G := G.grow g14
     replace B2 := B2.grow g14
     replace B6 := B6.grow g14
     replace B9 := B9.grow g14
     have zg14 := g14.size
     refine S_val (Y_pickT rfl rfl) ?_
     refine S_val (Y_assign rfl) ?_
     refine S_nl rfl rfl ?_
     refine th_n (hK13 _ _ ?_)
     clear hK13 K13
     refine wp_ret ?_
     refine ret_r1 rfl rfl ?_  -- r2
     exact ⟨rfl, G⟩
    · -- g2F
     first | with_reducible (replace hb4 := nb_nf hb4) | with_reducible (replace hb4 := nb_tf hb4) | with_reducible (replace hb4 := nb_bf hb4) | skip
     rw [cv_op7] at hb4; cases hb4
   · -- g1F
    first | with_reducible (replace hb3 := nb_nf hb3) | with_reducible (replace hb3 := nb_tf hb3) | with_reducible (replace hb3 := nb_bf hb3) | skip
    rw [cv_root] at hb3; cases hb3

end Go.Proofs.Ytikgflhepclfgaa
