/-
  Walks through functions of the program and the reference, and the plain laws behind them: what one claim needs of them.
  Conditions: those that each theorem states.
-/
import Derived.ProofKit
import Derived.Deep.Slices
import Derived.Deep.Fields
import Derived.Deep.Grids
import Derived.ChangeSame
import Derived.Lib.SmallJoins
import Derived.Below
import Derived.Carry
import Derived.Test.YtikgflhepclfgacQb5
set_option linter.unusedVariables false
set_option linter.unusedSimpArgs false
namespace Go.Proofs.Ytikgflhepclfgac
/-! WalkX -/
section
open Go Go.RowKit
attribute [local irreducible] wpList wpAnyH Code.wp dOp
set_option maxHeartbeats 400000 in
set_option maxRecDepth 20000 in
theorem impl_isTotal_c (n : Int) (w : World) :
    Calls Try.prog 122 #[.int .i64 n] w (Ret fun v w' => v = .bool (decide (1 ≤ n ∧ n ≤ 256)) ∧ Grow w w') := by
 refine enter Try.func122 rfl Try.ntmps122 (L := [_,_,_,_,_,_,_,_,_]) rfl ?_
 have G := Mod.refl No w
 refine wp_seq_k fun K1 hK1 => ?_
 refine Sb 9 rfl ?_  -- 0
 refine S_val (Y_assign rfl) ?_
 refine S_nl rfl rfl ?_
 refine th_n (hK1 _ _ ?_)
 clear hK1 K1
 refine wp_seq_k fun K2 hK2 => ?_
 refine Sb 9 rfl ?_  -- 1
 refine S_val (Y_move rfl) ?_
 refine S_val (Y_geq rfl rfl) ?_
 refine S_val (Y_move rfl) ?_
 refine S_g 5 rfl (fun hb1 => ?_) (fun hb1 => ?_)  -- g1
 · -- g1T
  replace hb1 := nb_tt hb1
  refine S_on rfl rfl ?_
  refine S_val (Y_move rfl) ?_
  refine S_on rfl rfl ?_
  refine S_val (Y_leq rfl rfl) ?_
  refine S_val (Y_pickT rfl rfl) ?_
  refine S_val (Y_assign rfl) ?_
  refine S_nl rfl rfl ?_
  refine th_n (hK2 _ _ ?_)
  clear hK2 K2
  refine wp_ret ?_
  refine ret_r1 rfl rfl ?_  -- r1
  exact ⟨by first | exact bF (by omega) | exact bI (by omega), G⟩
 · -- g1F
  replace hb1 := nb_tf hb1
  refine S_off rfl rfl ?_
  refine S_off rfl rfl ?_
  refine S_val (Y_pickF rfl rfl) ?_
  refine S_val (Y_assign rfl) ?_
  refine S_nl rfl rfl ?_
  refine th_n (hK2 _ _ ?_)
  clear hK2 K2
  refine wp_ret ?_
  refine ret_r1 rfl rfl ?_  -- r2
  exact ⟨by first | exact bF (by omega) | exact bI (by omega), G⟩
set_option maxHeartbeats 400000 in
set_option maxRecDepth 20000 in
theorem impl_BlocksValid_c (b : Nat) (w : World) (B : Blk w b 92 [.int .i64 0, .int .i64 3, .bool false].toArray) :
    Calls Try.prog 107 #[.slice (some ⟨b, 0, none⟩) 1 1, .int .i64 3] w (Ret fun v w' => v = .bool true ∧ Grow w w') := by
 refine enter Try.func107 rfl Try.ntmps107 (L := [_,_,_,_,_,_,_,_,_,_,_,_,_,_,_,_,_,_,_,_,_,_,_,_,_,_,_,_,_,_,_,_,_,_,_,_,_,_,_,_,_,_,_,_,_,_,_,_,_,_,_,_,_,_,_,_,_,_,_,_,_]) rfl ?_
 have G := Mod.refl No w
 have B0 := B
 refine wp_seq_k fun K1 hK1 => ?_
 refine Sb 61 rfl ?_  -- 0
 refine S_val (Y_assign rfl) ?_
 refine S_nl rfl rfl ?_
 refine th_n (hK1 _ _ ?_)
 clear hK1 K1
 refine wp_seq_k fun K2 hK2 => ?_
 refine wp_seq_k fun K3 hK3 => ?_
 refine Sb 61 rfl ?_  -- 1
 refine S_val (Y_move rfl) ?_
 refine S_call rfl en122 (impl_isTotal_c _ _) ?_  -- k1 impl.isTotal
 rintro v1 w1 ⟨rfl, g1⟩
 replace B := B.grow g1
 replace G := G.grow g1
 have zg1 := g1.size
 refine S_val (Y_not rfl) ?_
 refine S_nl rfl rfl ?_
 refine th_n (hK3 _ _ ?_)
 clear hK3 K3
 refine S_if rfl (fun hb1 => ?_) (fun hb1 => ?_)  -- c1
 · -- c1T
  first | with_reducible (replace hb1 := nb_nt hb1) | with_reducible (replace hb1 := nb_tt hb1) | with_reducible (replace hb1 := nb_bt hb1) | skip
  exact absurd hb1 (by decide)
 · -- c1F
  first | with_reducible (replace hb1 := nb_nf hb1) | with_reducible (replace hb1 := nb_tf hb1) | with_reducible (replace hb1 := nb_bf hb1) | skip
  refine wp_skip ?_
  refine th_n (hK2 _ _ ?_)
  clear hK2 K2
  refine wp_seq_k fun K4 hK4 => ?_
  refine Sb 61 rfl ?_  -- 3
  refine S_val (Y_assign rfl) ?_
  refine S_nl rfl rfl ?_
  refine th_n (hK4 _ _ ?_)
  clear hK4 K4
  refine wp_seq_k fun K5 hK5 => ?_
  refine wp_seq_k fun K6 hK6 => ?_
  refine Sb 61 rfl ?_  -- 4
  refine S_val (Y_move rfl) ?_
  refine S_val (Y_len Try.underlying93 rfl) ?_
  refine S_val (Y_move rfl) ?_
  refine S_nl rfl rfl ?_
  refine th_n (hK6 _ _ ?_)
  clear hK6 K6
  refine wp_block ?_
  go_loopw [5, 13] (fun u5 u13 wr => (∃ k e : Nat, u13 = .int .i64 k ∧ u5 = .int .i64 e ∧ ((k = 0 ∧ e = 0) ∨ (k = 1 ∧ e = 3))) ∧ Mod No w1 wr) (fun u5 u13 wr => 1 - (intOf u13).toNat)  -- L1
  case atStart =>
   refine ⟨?_, Mod.refl _ _⟩
   exact ⟨0, 0, rfl, rfl, by omega⟩
  case round =>
   obtain ⟨w2, rfl⟩ : ∃ x : World, x = wr := ⟨_, rfl⟩
   obtain ⟨hrel, g2⟩ := hrel
   replace B := B.grow g2
   replace G := G.grow g2
   have zg2 := g2.size
   obtain ⟨k, e, rfl, rfl, hke0⟩ := hrel
   have GL2 := g2
   refine wp_seq_k fun K7 hK7 => ?_
   refine Sb 61 rfl ?_  -- 5
   refine S_val (Y_lss rfl rfl) ?_
   refine S_nl rfl rfl ?_
   refine th_n (hK7 _ _ ?_)
   clear hK7 K7
   refine wp_seq_k fun K8 hK8 => ?_
   refine S_if rfl (fun hb2 => ?_) (fun hb2 => ?_)  -- c2
   · -- c2T
    replace hb2 := nb_tt hb2
    have hke : k = 0 ∧ e = 0 := by omega
    obtain ⟨rfl, rfl⟩ := hke
    have cc9 : CellsAt w2 b (0 + 0 * 3) [.int .i64 0, .int .i64 3, .bool false] := B.row rfl
    refine wp_skip ?_
    refine th_n (hK8 _ _ ?_)
    clear hK8 K8
    refine wp_seq_k fun K9 hK9 => ?_
    refine wp_block ?_
    refine wp_seq_k fun K10 hK10 => ?_
    refine Sb 61 rfl ?_  -- 6
    refine S_val (Y_move rfl) ?_
    refine S_val (Y_index Try.underlying93 sz92 rfl rfl (by first | assumption | omega)) ?_
    refine S_val (Y_loadS Try.underlying92 rfl sz92 rfl (by first | assumption | skip)) ?_  -- l1
    refine S_alloc (cs := [_, _, _]) zr92 rfl ?_
    intro b3 w3 fb3 g3 B3
    have lb3 := B3.lt
    replace B := B.grow g3
    replace G := G.grow g3
    replace GL2 := GL2.grow g3
    replace cc9 := cc9.grow g3
    have zg3 := g3.size
    refine S_val (Y_assign rfl) ?_
    refine S_stM (pre := []) (old := [_, _, _]) (post := []) (vs := [_, _, _]) sz92 rfl rfl rfl (by first | rfl | assumption) B3 rfl rfl ?_
    intro w4 m4 X4
    replace B3 := Blk.eq (ys := [_, _, _]) X4 rfl
    clear X4
    replace G := G.abv m4
    first | replace GL2 := GL2.abv m4 | clear GL2
    replace B := B0.grow G
    clear cc9
    have zm4 := m4.size
    refine S_nl rfl rfl ?_
    refine th_n (hK10 _ _ ?_)
    clear hK10 K10
    refine wp_seq_k fun K11 hK11 => ?_
    refine wp_seq_k fun K12 hK12 => ?_
    refine Sb 61 rfl ?_  -- 7
    refine S_val (Y_field Try.underlying92 rfl fz92_0 (by decide) rfl) ?_
    refine S_val (Y_load Try.underlying3 rfl rfl (B3.at (by rfl))) ?_  -- l2
    refine S_val (Y_move rfl) ?_
    refine S_val (Y_neq rfl rfl) ?_
    refine S_val (Y_move rfl) ?_
    refine S_g 22 rfl (fun hb3 => ?_) (fun hb3 => ?_)  -- g1
    · -- g1T
     replace hb3 := nb_nt hb3
     exact absurd rfl hb3
    · -- g1F
     replace hb3 := nb_nf hb3
     refine S_on rfl rfl ?_
     refine S_val (Y_field Try.underlying92 rfl fz92_1 (by decide) rfl) ?_
     refine S_on rfl rfl ?_
     refine S_val (Y_load Try.underlying3 rfl rfl (B3.at (by rfl))) ?_  -- l3
     refine S_on rfl rfl ?_
     refine S_val (Y_lss rfl rfl) ?_
     refine S_val (Y_pickF rfl rfl) ?_
     refine S_val (Y_move rfl) ?_
     refine S_g 27 rfl (fun hb4 => ?_) (fun hb4 => ?_)  -- g2
     · -- g2T
      first | with_reducible (replace hb4 := nb_nt hb4) | with_reducible (replace hb4 := nb_tt hb4) | with_reducible (replace hb4 := nb_bt hb4) | skip
      exact absurd hb4 (by decide)
     · -- g2F
      first | with_reducible (replace hb4 := nb_nf hb4) | with_reducible (replace hb4 := nb_tf hb4) | with_reducible (replace hb4 := nb_bf hb4) | skip
      refine S_on rfl rfl ?_
      refine S_val (Y_field Try.underlying92 rfl fz92_1 (by decide) rfl) ?_
      refine S_on rfl rfl ?_
      refine S_val (Y_load Try.underlying3 rfl rfl (B3.at (by rfl))) ?_  -- l4
      refine S_on rfl rfl ?_
      refine S_val (Y_move rfl) ?_
      refine S_on rfl rfl ?_
      refine S_val (Y_move rfl) ?_
      refine S_on rfl rfl ?_
      refine S_val (Y_sub rfl rfl rfl (by omega) (by omega)) ?_
      refine S_on rfl rfl ?_
      refine S_val (Y_gtr rfl rfl) ?_
      refine S_val (Y_pickF rfl rfl) ?_
      refine S_val (Y_move rfl) ?_
      refine S_g 35 rfl (fun hb5 => ?_) (fun hb5 => ?_)  -- g3
      · -- g3T
       first | with_reducible (replace hb5 := nb_nt hb5) | with_reducible (replace hb5 := nb_tt hb5) | with_reducible (replace hb5 := nb_bt hb5) | skip
       exact absurd hb5 (by decide)
      · -- g3F
       first | with_reducible (replace hb5 := nb_nf hb5) | with_reducible (replace hb5 := nb_tf hb5) | with_reducible (replace hb5 := nb_bf hb5) | skip
       refine S_on rfl rfl ?_
       refine S_val (Y_move rfl) ?_
       refine S_on rfl rfl ?_
       refine S_val (Y_gtr rfl rfl) ?_
       refine S_on rfl rfl ?_
       refine S_val (Y_move rfl) ?_
       refine S_g 38 rfl (fun hb6 => ?_) (fun hb6 => ?_)  -- g4
       · -- g4T
        replace hb6 := nb_tt hb6
        exact absurd hb6 (by decide)
       · -- g4F
        replace hb6 := nb_tf hb6
        refine S_off rfl rfl ?_
        refine S_off rfl rfl ?_
        refine S_off rfl rfl ?_
        refine S_on rfl rfl ?_
        refine S_val (Y_pickF rfl rfl) ?_
        refine S_on rfl rfl ?_
        refine S_val (Y_move rfl) ?_
        refine S_off rfl rfl ?_
        refine S_off rfl rfl ?_
        refine S_off rfl rfl ?_
        refine S_off rfl rfl ?_
        refine S_off rfl rfl ?_
        refine S_off rfl rfl ?_
        refine S_off rfl rfl ?_
        refine S_on rfl rfl ?_
        refine S_val (Y_pickF rfl rfl) ?_
        refine S_val (Y_pickF rfl rfl) ?_
        refine S_nl rfl rfl ?_
        refine th_n (hK12 _ _ ?_)
        clear hK12 K12
        refine S_ifF rfl ?_
        refine wp_skip ?_
        refine th_n (hK11 _ _ ?_)
        clear hK11 K11
        refine Sb 61 rfl ?_  -- 9
        refine S_val (Y_move rfl) ?_
        refine S_val (Y_field Try.underlying92 rfl fz92_1 (by decide) rfl) ?_
        refine S_val (Y_load Try.underlying3 rfl rfl (B3.at (by rfl))) ?_  -- l5
        refine S_val (Y_add rfl rfl rfl (by omega) (by omega)) ?_
        refine S_val (Y_assign rfl) ?_
        refine S_nl rfl rfl ?_
        refine ib_n ?_
        refine th_n (hK9 _ _ ?_)
        clear hK9 K9
        refine Sb 61 rfl ?_  -- 10
        refine S_val (Y_inc rfl rfl (by omega)) ?_
        refine S_val (Y_move rfl) ?_
        refine S_nl rfl rfl ?_
        refine th_n ?_
        go_roundw  -- e1 of L1
        case rel =>
         refine ⟨?_, GL2⟩
         exact ⟨1, 3, rfl, rfl, by omega⟩
        case measure =>
         exact dec_nat (by omega)
   · -- c2F
    replace hb2 := nb_tf hb2
    refine wp_exit ?_
    refine th_x ?_
    try clear GL2
    refine th_x ?_
    refine ib_e ?_
    refine th_n (hK5 _ _ ?_)
    clear hK8 K8 hK5 K5
    refine wp_seq_k fun K13 hK13 => ?_
    refine Sb 61 rfl ?_  -- 11
    refine S_val (Y_move rfl) ?_
    refine S_val (Y_move rfl) ?_
    refine S_val (Y_eql rfl rfl) ?_
    refine S_val (Y_assign rfl) ?_
    refine S_nl rfl rfl ?_
    refine th_n (hK13 _ _ ?_)
    clear hK13 K13
    refine wp_ret ?_
    refine ret_r1 rfl rfl ?_  -- r1
    have hke : k = 1 ∧ e = 3 := by omega
    obtain ⟨rfl, rfl⟩ := hke
    exact ⟨rfl, G⟩
set_option maxHeartbeats 400000 in
set_option maxRecDepth 20000 in
theorem impl_FreeWords_c (b : Nat) (w : World) (B : Blk w b 92 [.int .i64 0, .int .i64 3, .bool false].toArray) :
    Calls Try.prog 70 #[.slice (some ⟨b, 0, none⟩) 1 1, .int .i64 3] w (Ret fun v w' => v = .int .i64 3 ∧ Grow w w') := by
 refine enter Try.func70 rfl Try.ntmps70 (L := [_,_,_,_,_,_,_,_,_,_,_,_,_,_,_,_,_,_,_,_,_,_,_,_,_,_,_]) rfl ?_
 have G := Mod.refl No w
 have B0 := B
 refine wp_seq_k fun K1 hK1 => ?_
 refine Sb 27 rfl ?_  -- 0
 refine S_val (Y_assign rfl) ?_
 refine S_nl rfl rfl ?_
 refine th_n (hK1 _ _ ?_)
 clear hK1 K1
 refine wp_seq_k fun K2 hK2 => ?_
 refine wp_seq_k fun K3 hK3 => ?_
 refine Sb 27 rfl ?_  -- 1
 refine S_val (Y_move rfl) ?_
 refine S_val (Y_move rfl) ?_
 refine S_call rfl en107 (impl_BlocksValid_c _ _ (by assumption)) ?_  -- k1 impl.BlocksValid
 rintro v1 w1 ⟨rfl, g1⟩
 replace B := B.grow g1
 replace G := G.grow g1
 have zg1 := g1.size
 refine S_val (Y_not rfl) ?_
 refine S_nl rfl rfl ?_
 refine th_n (hK3 _ _ ?_)
 clear hK3 K3
 refine S_if rfl (fun hb1 => ?_) (fun hb1 => ?_)  -- c1
 · -- c1T
  first | with_reducible (replace hb1 := nb_nt hb1) | with_reducible (replace hb1 := nb_tt hb1) | with_reducible (replace hb1 := nb_bt hb1) | skip
  exact absurd hb1 (by decide)
 · -- c1F
  first | with_reducible (replace hb1 := nb_nf hb1) | with_reducible (replace hb1 := nb_tf hb1) | with_reducible (replace hb1 := nb_bf hb1) | skip
  refine wp_skip ?_
  refine th_n (hK2 _ _ ?_)
  clear hK2 K2
  refine wp_seq_k fun K4 hK4 => ?_
  refine Sb 27 rfl ?_  -- 3
  refine S_val (Y_assign rfl) ?_
  refine S_nl rfl rfl ?_
  refine th_n (hK4 _ _ ?_)
  clear hK4 K4
  refine wp_seq_k fun K5 hK5 => ?_
  refine wp_seq_k fun K6 hK6 => ?_
  refine Sb 27 rfl ?_  -- 4
  refine S_val (Y_move rfl) ?_
  refine S_val (Y_len Try.underlying93 rfl) ?_
  refine S_val (Y_move rfl) ?_
  refine S_nl rfl rfl ?_
  refine th_n (hK6 _ _ ?_)
  clear hK6 K6
  refine wp_block ?_
  go_loopw [5, 14] (fun u5 u14 wr => (∃ k e : Nat, u14 = .int .i64 k ∧ u5 = .int .i64 e ∧ ((k = 0 ∧ e = 0) ∨ (k = 1 ∧ e = 3))) ∧ Mod No w1 wr) (fun u5 u14 wr => 1 - (intOf u14).toNat)  -- L1
  case atStart =>
   refine ⟨?_, Mod.refl _ _⟩
   exact ⟨0, 0, rfl, rfl, by omega⟩
  case round =>
   obtain ⟨w2, rfl⟩ : ∃ x : World, x = wr := ⟨_, rfl⟩
   obtain ⟨hrel, g2⟩ := hrel
   replace B := B.grow g2
   replace G := G.grow g2
   have zg2 := g2.size
   obtain ⟨k, e, rfl, rfl, hke0⟩ := hrel
   have GL2 := g2
   refine wp_seq_k fun K7 hK7 => ?_
   refine Sb 27 rfl ?_  -- 5
   refine S_val (Y_lss rfl rfl) ?_
   refine S_nl rfl rfl ?_
   refine th_n (hK7 _ _ ?_)
   clear hK7 K7
   refine wp_seq_k fun K8 hK8 => ?_
   refine S_if rfl (fun hb2 => ?_) (fun hb2 => ?_)  -- c2
   · -- c2T
    replace hb2 := nb_tt hb2
    have hke : k = 0 ∧ e = 0 := by omega
    obtain ⟨rfl, rfl⟩ := hke
    have cc9 : CellsAt w2 b (0 + 0 * 3) [.int .i64 0, .int .i64 3, .bool false] := B.row rfl
    refine wp_skip ?_
    refine th_n (hK8 _ _ ?_)
    clear hK8 K8
    refine wp_seq_k fun K9 hK9 => ?_
    refine wp_block ?_
    refine wp_seq_k fun K10 hK10 => ?_
    refine Sb 27 rfl ?_  -- 6
    refine S_val (Y_index Try.underlying93 sz92 rfl rfl (by first | assumption | omega)) ?_
    refine S_val (Y_loadS Try.underlying92 rfl sz92 rfl (by first | assumption | skip)) ?_  -- l1
    refine S_alloc (cs := [_, _, _]) zr92 rfl ?_
    intro b3 w3 fb3 g3 B3
    have lb3 := B3.lt
    replace B := B.grow g3
    replace G := G.grow g3
    replace GL2 := GL2.grow g3
    replace cc9 := cc9.grow g3
    have zg3 := g3.size
    refine S_stM (pre := []) (old := [_, _, _]) (post := []) (vs := [_, _, _]) sz92 rfl rfl rfl (by first | rfl | assumption) B3 rfl rfl ?_
    intro w4 m4 X4
    replace B3 := Blk.eq (ys := [_, _, _]) X4 rfl
    clear X4
    replace G := G.abv m4
    first | replace GL2 := GL2.abv m4 | clear GL2
    replace B := B0.grow G
    clear cc9
    have zm4 := m4.size
    refine S_nl rfl rfl ?_
    refine th_n (hK10 _ _ ?_)
    clear hK10 K10
    refine wp_seq_k fun K11 hK11 => ?_
    refine Sb 27 rfl ?_  -- 7
    refine S_val (Y_field Try.underlying92 rfl fz92_2 (by decide) rfl) ?_
    refine S_val (Y_load Try.underlying4 rfl rfl (B3.at (by rfl))) ?_  -- l2
    refine S_val (Y_not rfl) ?_
    refine S_nl rfl rfl ?_
    refine th_n (hK11 _ _ ?_)
    clear hK11 K11
    refine S_if rfl (fun hb3 => ?_) (fun hb3 => ?_)  -- c3
    · -- c3T
     first | with_reducible (replace hb3 := nb_nt hb3) | with_reducible (replace hb3 := nb_tt hb3) | with_reducible (replace hb3 := nb_bt hb3) | skip
     refine Sb 27 rfl ?_  -- 8
     refine S_val (Y_move rfl) ?_
     refine S_val (Y_field Try.underlying92 rfl fz92_1 (by decide) rfl) ?_
     refine S_val (Y_load Try.underlying3 rfl rfl (B3.at (by rfl))) ?_  -- l3
     refine S_val (Y_add rfl rfl rfl (by omega) (by omega)) ?_
     refine S_val (Y_assign rfl) ?_
     refine S_nl rfl rfl ?_
     refine ib_n ?_
     refine th_n (hK9 _ _ ?_)
     clear hK9 K9
     refine Sb 27 rfl ?_  -- 9
     refine S_val (Y_inc rfl rfl (by omega)) ?_
     refine S_val (Y_move rfl) ?_
     refine S_nl rfl rfl ?_
     refine th_n ?_
     go_roundw  -- e1 of L1
     case rel =>
      refine ⟨?_, GL2⟩
      exact ⟨1, 3, rfl, rfl, by omega⟩
     case measure =>
      exact dec_nat (by omega)
    · -- c3F
     first | with_reducible (replace hb3 := nb_nf hb3) | with_reducible (replace hb3 := nb_tf hb3) | with_reducible (replace hb3 := nb_bf hb3) | skip
     exact absurd hb3 (by decide)
   · -- c2F
    replace hb2 := nb_tf hb2
    refine wp_exit ?_
    refine th_x ?_
    try clear GL2
    refine th_x ?_
    refine ib_e ?_
    refine th_n (hK5 _ _ ?_)
    clear hK8 K8 hK5 K5
    refine wp_seq_k fun K12 hK12 => ?_
    refine Sb 27 rfl ?_  -- 10
    refine S_val (Y_move rfl) ?_
    refine S_val (Y_assign rfl) ?_
    refine S_nl rfl rfl ?_
    refine th_n (hK12 _ _ ?_)
    clear hK12 K12
    refine wp_ret ?_
    refine ret_r1 rfl rfl ?_  -- r1
    have hke : k = 1 ∧ e = 3 := by omega
    obtain ⟨rfl, rfl⟩ := hke
    exact ⟨rfl, G⟩
set_option maxHeartbeats 400000 in
set_option maxRecDepth 20000 in
theorem laws_alive_c (w : World) :
    Calls Try.prog 22 #[] w (Ret fun v w' => v = .bool true ∧ Grow w w') := by
 refine enter Try.func22 rfl Try.ntmps22 (L := [_,_,_,_,_]) rfl ?_
 have G := Mod.refl No w
 refine wp_seq_k fun K1 hK1 => ?_
 refine Sb 5 rfl ?_  -- 0
 refine S_val (Y_assign rfl) ?_
 refine S_nl rfl rfl ?_
 refine th_n (hK1 _ _ ?_)
 clear hK1 K1
 refine wp_seq_k fun K2 hK2 => ?_
 refine Sb 5 rfl ?_  -- 1
 refine S_val (Y_build (cs := [_, _, _]) zr92 pc92 rfl rfl) ?_
 refine S_bs1 (cs := [_, _, _]) Try.underlying93 zr92 sz92 rfl rfl rfl ?_
 intro b1 w1 fb1 g1 B1
 have lb1 := B1.lt
 replace G := G.grow g1
 have zg1 := g1.size
 refine S_call rfl en70 (impl_FreeWords_c _ _ (by assumption)) ?_  -- k1 impl.FreeWords
 rintro v2 w2 ⟨rfl, g2⟩
 replace G := G.grow g2
 replace B1 := B1.grow g2
 have zg2 := g2.size
 refine S_val (Y_eql rfl rfl) ?_
 refine S_val (Y_assign rfl) ?_
 refine S_nl rfl rfl ?_
 refine th_n (hK2 _ _ ?_)
 clear hK2 K2
 refine wp_ret ?_
 refine ret_r1 rfl rfl ?_  -- r1
 exact ⟨rfl, G⟩
set_option maxHeartbeats 400000 in
set_option maxRecDepth 20000 in
theorem laws_sameInts_c (P1 P2 : Nat → Prop) (A B : Option Addr) (xs ys : List Int) (c d : Nat) (w : World) (hA : R1 P1 w A (ints xs)) (hB : R1 P2 w B (ints ys)) (hx : xs.length ≤ 9223372036854775807) :
    Calls Try.prog 29 #[.slice A xs.length c, .slice B ys.length d] w (Ret fun v w' => v = .bool (decide (xs = ys)) ∧ Grow w w') := by
 refine enter Try.func29 rfl Try.ntmps29 (L := [_,_,_,_,_,_,_,_,_,_,_,_,_,_,_,_,_,_,_,_,_,_,_,_,_,_]) rfl ?_
 have G := Mod.refl No w
 have hA0 := hA
 have hB0 := hB
 refine wp_seq_k fun K1 hK1 => ?_
 refine Sb 26 rfl ?_  -- 0
 refine S_val (Y_assign rfl) ?_
 refine S_nl rfl rfl ?_
 refine th_n (hK1 _ _ ?_)
 clear hK1 K1
 refine wp_seq_k fun K2 hK2 => ?_
 refine wp_seq_k fun K3 hK3 => ?_
 refine Sb 26 rfl ?_  -- 1
 refine S_val (Y_move rfl) ?_
 refine S_val (Y_len Try.underlying23 rfl) ?_
 refine S_val (Y_move rfl) ?_
 refine S_val (Y_len Try.underlying23 rfl) ?_
 refine S_val (Y_neq rfl rfl) ?_
 refine S_nl rfl rfl ?_
 refine th_n (hK3 _ _ ?_)
 clear hK3 K3
 refine S_if rfl (fun hb1 => ?_) (fun hb1 => ?_)  -- c1
 · -- c1T
  replace hb1 := nb_nt hb1
  refine wp_seq_k fun K4 hK4 => ?_
  refine Sb 26 rfl ?_  -- 2
  refine S_val (Y_assign rfl) ?_
  refine S_nl rfl rfl ?_
  refine th_n (hK4 _ _ ?_)
  clear hK4 K4
  refine wp_ret ?_
  refine th_r ?_
  clear hK2 K2
  refine ret_r1 rfl rfl ?_  -- r1
  exact ⟨bF (fun e => hb1 (by rw [e])), G⟩
 · -- c1F
  replace hb1 := nb_nf hb1
  refine wp_skip ?_
  refine th_n (hK2 _ _ ?_)
  clear hK2 K2
  refine wp_seq_k fun K5 hK5 => ?_
  refine wp_seq_k fun K6 hK6 => ?_
  refine Sb 26 rfl ?_  -- 3
  refine S_val (Y_assign rfl) ?_
  refine S_nl rfl rfl ?_
  refine th_n (hK6 _ _ ?_)
  clear hK6 K6
  refine wp_block ?_
  go_loopw [5] (fun u5 wr => (∃ k : Nat, u5 = .int .i64 k ∧ k ≤ xs.length ∧ xs.take k = ys.take k) ∧ Mod No w wr) (fun u5 wr => xs.length - (intOf u5).toNat)  -- L1
  case atStart =>
   refine ⟨?_, Mod.refl _ _⟩
   exact ⟨0, rfl, by omega, by simp⟩
  case round =>
   obtain ⟨w1, rfl⟩ : ∃ x : World, x = wr := ⟨_, rfl⟩
   obtain ⟨hrel, g1⟩ := hrel
   replace hA := hA.grow g1
   replace hB := hB.grow g1
   replace G := G.grow g1
   have zg1 := g1.size
   obtain ⟨k, rfl, hk, hs⟩ := hrel
   have GL1 := g1
   refine wp_seq_k fun K7 hK7 => ?_
   refine wp_seq_k fun K8 hK8 => ?_
   refine Sb 26 rfl ?_  -- 4
   refine S_val (Y_move rfl) ?_
   refine S_val (Y_move rfl) ?_
   refine S_val (Y_len Try.underlying23 rfl) ?_
   refine S_val (Y_lss rfl rfl) ?_
   refine S_nl rfl rfl ?_
   refine th_n (hK8 _ _ ?_)
   clear hK8 K8
   refine S_if rfl (fun hb2 => ?_) (fun hb2 => ?_)  -- c2
   · -- c2T
    replace hb2 := nb_tt hb2
    refine wp_skip ?_
    refine th_n (hK7 _ _ ?_)
    clear hK7 K7
    refine wp_seq_k fun K9 hK9 => ?_
    refine wp_block ?_
    refine wp_seq_k fun K10 hK10 => ?_
    refine D_start 9 26 (fun w => Mod (No) w) follows rfl rfl ?_  -- d1 r6
    intro w2 g2
    replace hA := hA.grow g2
    replace hB := hB.grow g2
    replace G := G.grow g2
    replace GL1 := GL1.grow g2
    have zg2 := g2.size
    have GS2 := Mod.refl (No) w2
    obtain ⟨g1, o1, rfl, hp1, hc1⟩ := hA.int (k := k) (by omega)
    obtain ⟨g2, o2, rfl, hp2, hc2⟩ := hB.int (k := k) (by omega)
    refine Dq (i := 0) rfl GS2 (fun _ _ => Y_move rfl) ?_
    refine Dq (i := 1) rfl GS2 (fun _ _ => Y_move rfl) ?_
    refine Dq (i := 2) rfl GS2 (fun _ _ => Y_index Try.underlying23 sz3 rfl rfl (by first | assumption | omega)) ?_
    refine Dq (i := 3) rfl GS2 (fun _ hs => Y_load Try.underlying3 rfl rfl (by first | exact hs.cell0 (by assumption))) ?_
    refine Dq (i := 4) rfl GS2 (fun _ _ => Y_move rfl) ?_
    refine Dq (i := 5) rfl GS2 (fun _ _ => Y_move rfl) ?_
    refine Dq (i := 6) rfl GS2 (fun _ _ => Y_index Try.underlying23 sz3 rfl rfl (by first | assumption | omega)) ?_
    refine Dq (i := 7) rfl GS2 (fun _ hs => Y_load Try.underlying3 rfl rfl (by first | exact hs.cell0 (by assumption))) ?_
    refine Dq (i := 8) rfl GS2 (fun _ _ => Y_neq rfl rfl) ?_
    refine D_en (by kernel_rfl) rfl rfl ?_
    refine th_n (hK10 _ _ ?_)
    clear hK10 K10
    refine S_if rfl (fun hb3 => ?_) (fun hb3 => ?_)  -- c3
    · -- c3T
     replace hb3 := nb_nt hb3
     refine wp_seq_k fun K11 hK11 => ?_
     refine Sb 26 rfl ?_  -- 7
     refine S_val (Y_assign rfl) ?_
     refine S_nl rfl rfl ?_
     refine th_n (hK11 _ _ ?_)
     clear hK11 K11
     refine wp_ret ?_
     refine ib_r ?_
     refine th_r ?_
     try clear GL1
     refine th_r ?_
     refine ib_r ?_
     refine th_r ?_
     clear hK9 K9 hK5 K5
     refine ret_r1 rfl rfl ?_  -- r2
     exact ⟨bF (fun e => hb3 (by subst e; rfl)), G⟩
    · -- c3F
     replace hb3 := nb_nf hb3
     refine wp_skip ?_
     refine ib_n ?_
     refine th_n (hK9 _ _ ?_)
     clear hK9 K9
     refine Sb 26 rfl ?_  -- 5
     refine S_val (Y_move rfl) ?_
     refine S_val (Y_inc rfl rfl (by omega)) ?_
     refine S_val (Y_assign rfl) ?_
     refine S_nl rfl rfl ?_
     refine th_n ?_
     go_roundw  -- e1 of L1
     case rel =>
      refine ⟨?_, GL1⟩
      exact ⟨k + 1, rfl, by omega, take_eq hs (by omega) (by omega) hb3⟩
     case measure =>
      exact dec_nat (by omega)
   · -- c2F
    replace hb2 := nb_tf hb2
    refine wp_exit ?_
    refine th_x ?_
    try clear GL1
    refine th_x ?_
    refine ib_e ?_
    refine th_n (hK5 _ _ ?_)
    clear hK7 K7 hK5 K5
    refine wp_seq_k fun K12 hK12 => ?_
    refine Sb 26 rfl ?_  -- 8
    refine S_val (Y_assign rfl) ?_
    refine S_nl rfl rfl ?_
    refine th_n (hK12 _ _ ?_)
    clear hK12 K12
    refine wp_ret ?_
    refine ret_r1 rfl rfl ?_  -- r3
    exact ⟨bT (take_all hs (by omega) (by omega)), G⟩
set_option maxHeartbeats 400000 in
set_option maxRecDepth 20000 in
theorem laws_sameHeap_c (P1 P2 : Nat → Prop) (A B Aq Bq : Option Addr) (x y : LH) (c d c2 d2 : Nat) (w : World) (hA : RC P1 w A x.cells) (hB : R1 P1 w B (ints x.roots)) (hA2 : RC P2 w Aq y.cells) (hB2 : R1 P2 w Bq (ints y.roots)) (hz : hsize x ≤ 9223372036854775807) :
    Calls Try.prog 27 #[.agg #[.slice A x.cells.length c, .slice B x.roots.length d], .agg #[.slice Aq y.cells.length c2, .slice Bq y.roots.length d2]] w (Ret fun v w' => v = .bool (decide (x = y)) ∧ Grow w w') := by
 have hz1 := hsize_cells x
 have hz2 := hsize_roots x
 have hz3 : ∀ k (hk : k < x.cells.length), x.cells[k].refs.length ≤ 9223372036854775807 := fun k hk => Nat.le_trans (hsize_refs x hk) hz
 refine enter Try.func27 rfl Try.ntmps27 (L := [_,_,_,_,_,_,_,_,_,_,_,_,_,_,_,_,_,_,_,_,_,_,_,_,_,_,_,_,_,_,_,_,_,_,_,_,_,_,_,_,_,_,_,_,_,_,_,_,_,_,_,_,_,_,_,_,_,_,_,_,_,_,_,_,_,_,_,_,_]) rfl ?_
 have G := Mod.refl No w
 have hA0 := hA
 have hB0 := hB
 have hA20 := hA2
 have hB20 := hB2
 refine wp_seq_k fun K1 hK1 => ?_
 refine Sb 69 rfl ?_  -- 0
 refine S_box (cs := [_, _]) rfl rfl ?_
 intro b1 w1 fb1 g1 B1
 have lb1 := B1.lt
 replace hA := hA.grow g1
 replace hB := hB.grow g1
 replace hA2 := hA2.grow g1
 replace hB2 := hB2.grow g1
 replace G := G.grow g1
 have zg1 := g1.size
 refine S_box (cs := [_, _]) rfl rfl ?_
 intro b2 w2 fb2 g2 B2
 have lb2 := B2.lt
 replace hA := hA.grow g2
 replace hB := hB.grow g2
 replace hA2 := hA2.grow g2
 replace hB2 := hB2.grow g2
 replace G := G.grow g2
 replace B1 := B1.grow g2
 have zg2 := g2.size
 refine S_val (Y_assign rfl) ?_
 refine S_nl rfl rfl ?_
 refine th_n (hK1 _ _ ?_)
 clear hK1 K1
 refine wp_seq_k fun K2 hK2 => ?_
 refine wp_seq_k fun K3 hK3 => ?_
 refine Sb 69 rfl ?_  -- 1
 refine S_val (Y_field Try.underlying32 rfl fz32_0 (by decide) rfl) ?_
 refine S_val (Y_load Try.underlying30 rfl rfl (B1.at (by rfl))) ?_  -- l1
 refine S_val (Y_len Try.underlying30 rfl) ?_
 refine S_val (Y_field Try.underlying32 rfl fz32_0 (by decide) rfl) ?_
 refine S_val (Y_load Try.underlying30 rfl rfl (B2.at (by rfl))) ?_  -- l2
 refine S_val (Y_len Try.underlying30 rfl) ?_
 refine S_val (Y_neq rfl rfl) ?_
 refine S_nl rfl rfl ?_
 refine th_n (hK3 _ _ ?_)
 clear hK3 K3
 refine S_if rfl (fun hb1 => ?_) (fun hb1 => ?_)  -- c1
 · -- c1T
  replace hb1 := nb_nt hb1
  refine wp_seq_k fun K4 hK4 => ?_
  refine Sb 69 rfl ?_  -- 2
  refine S_val (Y_assign rfl) ?_
  refine S_nl rfl rfl ?_
  refine th_n (hK4 _ _ ?_)
  clear hK4 K4
  refine wp_ret ?_
  refine th_r ?_
  clear hK2 K2
  refine ret_r1 rfl rfl ?_  -- r1
  exact ⟨bF (fun e => hb1 (by rw [e])), G⟩
 · -- c1F
  replace hb1 := nb_nf hb1
  refine wp_skip ?_
  refine th_n (hK2 _ _ ?_)
  clear hK2 K2
  refine wp_seq_k fun K5 hK5 => ?_
  refine wp_seq_k fun K6 hK6 => ?_
  refine Sb 69 rfl ?_  -- 3
  refine S_val (Y_assign rfl) ?_
  refine S_nl rfl rfl ?_
  refine th_n (hK6 _ _ ?_)
  clear hK6 K6
  refine wp_block ?_
  go_loopw [5] (fun u5 wr => (∃ k : Nat, u5 = .int .i64 k ∧ k ≤ x.cells.length ∧ x.cells.take k = y.cells.take k) ∧ Mod No w2 wr) (fun u5 wr => x.cells.length - (intOf u5).toNat)  -- L1
  case atStart =>
   refine ⟨?_, Mod.refl _ _⟩
   exact ⟨0, rfl, by omega, by simp⟩
  case round =>
   obtain ⟨w3, rfl⟩ : ∃ x : World, x = wr := ⟨_, rfl⟩
   obtain ⟨hrel, g3⟩ := hrel
   replace hA := hA.grow g3
   replace hB := hB.grow g3
   replace hA2 := hA2.grow g3
   replace hB2 := hB2.grow g3
   replace G := G.grow g3
   replace B1 := B1.grow g3
   replace B2 := B2.grow g3
   have zg3 := g3.size
   obtain ⟨k, rfl, hk, hs⟩ := hrel
   have GL3 := g3
   refine wp_seq_k fun K7 hK7 => ?_
   refine wp_seq_k fun K8 hK8 => ?_
   refine Sb 69 rfl ?_  -- 4
   refine S_val (Y_move rfl) ?_
   refine S_val (Y_field Try.underlying32 rfl fz32_0 (by decide) rfl) ?_
   refine S_val (Y_load Try.underlying30 rfl rfl (B1.at (by rfl))) ?_  -- l3
   refine S_val (Y_len Try.underlying30 rfl) ?_
   refine S_val (Y_lss rfl rfl) ?_
   refine S_nl rfl rfl ?_
   refine th_n (hK8 _ _ ?_)
   clear hK8 K8
   refine S_if rfl (fun hb2 => ?_) (fun hb2 => ?_)  -- c2
   · -- c2T
    replace hb2 := nb_tt hb2
    refine wp_skip ?_
    refine th_n (hK7 _ _ ?_)
    clear hK7 K7
    refine wp_seq_k fun K9 hK9 => ?_
    refine wp_block ?_
    refine wp_seq_k fun K10 hK10 => ?_
    refine D_start 44 69 (fun w => Mod (No) w) follows rfl rfl ?_  -- d1 r6
    intro w4 g4
    replace hA := hA.grow g4
    replace hB := hB.grow g4
    replace hA2 := hA2.grow g4
    replace hB2 := hB2.grow g4
    replace G := G.grow g4
    replace GL3 := GL3.grow g4
    replace B1 := B1.grow g4
    replace B2 := B2.grow g4
    have zg4 := g4.size
    have GS4 := Mod.refl (No) w4
    have hk1 : k < x.cells.length := by omega
    have hk2 : k < y.cells.length := by omega
    obtain ⟨g1, o1, E1, e1, rfl, hp1, cc1, hE1⟩ := hA.cell hk1
    obtain ⟨g2, o2, E2, e2, rfl, hp2, cc2, hE2⟩ := hA2.cell hk2
    have hr1 := hz3 k hk1
    have B1d4 := B1
    have B2d4 := B2
    refine Dq (i := 0) rfl GS4 (fun _ _ => Y_field Try.underlying32 rfl fz32_0 (by decide) rfl) ?_
    refine Dq (i := 1) rfl GS4 (fun _ hs => Y_load Try.underlying30 rfl rfl (hs.cell0 (B1.at (by rfl)))) ?_
    refine Dq (i := 2) rfl GS4 (fun _ _ => Y_move rfl) ?_
    refine Dq (i := 3) rfl GS4 (fun _ _ => Y_index Try.underlying30 sz63 rfl rfl (by first | assumption | omega)) ?_
    refine Dq (i := 4) rfl GS4 (fun _ _ => Y_field Try.underlying63 rfl fz63_0 (by decide) rfl) ?_
    refine Dq (i := 5) rfl GS4 (fun _ hs => Y_load Try.underlying4 rfl rfl (by first | exact hs.cell0 (by assumption) | exact hs.cell0 (cc1.at (by rfl)) | exact hs.cell0 (cc2.at (by rfl)) | exact hs.cell0 (B1.at (by rfl)) | exact hs.cell0 (B2.at (by rfl)))) ?_
    refine Dq (i := 6) rfl GS4 (fun _ _ => Y_field Try.underlying32 rfl fz32_0 (by decide) rfl) ?_
    refine Dq (i := 7) rfl GS4 (fun _ hs => Y_load Try.underlying30 rfl rfl (hs.cell0 (B2.at (by rfl)))) ?_
    refine Dq (i := 8) rfl GS4 (fun _ _ => Y_move rfl) ?_
    refine Dq (i := 9) rfl GS4 (fun _ _ => Y_index Try.underlying30 sz63 rfl rfl (by first | assumption | omega)) ?_
    refine Dq (i := 10) rfl GS4 (fun _ _ => Y_field Try.underlying63 rfl fz63_0 (by decide) rfl) ?_
    refine Dq (i := 11) rfl GS4 (fun _ hs => Y_load Try.underlying4 rfl rfl (by first | exact hs.cell0 (by assumption) | exact hs.cell0 (cc1.at (by rfl)) | exact hs.cell0 (cc2.at (by rfl)) | exact hs.cell0 (B1.at (by rfl)) | exact hs.cell0 (B2.at (by rfl)))) ?_
    refine Dq (i := 12) rfl GS4 (fun _ _ => Y_neb Try.underlying4 rfl rfl) ?_
    refine Dq (i := 13) rfl GS4 (fun _ _ => Y_move rfl) ?_
    refine D_g 33 rfl (fun hb3 => ?_) (fun hb3 => ?_)  -- g1
    · -- g1T
     replace hb3 := nb_nt hb3
     refine Dqoff (i := 14) rfl rfl rfl GS4 ?_
     refine Dqoff (i := 15) rfl rfl rfl GS4 ?_
     refine Dqoff (i := 16) rfl rfl rfl GS4 ?_
     refine Dqoff (i := 17) rfl rfl rfl GS4 ?_
     refine Dqoff (i := 18) rfl rfl rfl GS4 ?_
     refine Dqoff (i := 19) rfl rfl rfl GS4 ?_
     refine Dqoff (i := 20) rfl rfl rfl GS4 ?_
     refine Dqoff (i := 21) rfl rfl rfl GS4 ?_
     refine Dqoff (i := 22) rfl rfl rfl GS4 ?_
     refine Dqoff (i := 23) rfl rfl rfl GS4 ?_
     refine Dqoff (i := 24) rfl rfl rfl GS4 ?_
     refine Dqoff (i := 25) rfl rfl rfl GS4 ?_
     refine Dqoff (i := 26) rfl rfl rfl GS4 ?_
     refine Dq (i := 27) rfl GS4 (fun _ _ => Y_pickT rfl rfl) ?_
     refine Dq (i := 28) rfl GS4 (fun _ _ => Y_move rfl) ?_
     refine Dqoff (i := 29) rfl rfl rfl GS4 ?_
     refine Dqoff (i := 30) rfl rfl rfl GS4 ?_
     refine Dqoff (i := 31) rfl rfl rfl GS4 ?_
     refine Dqoff (i := 32) rfl rfl rfl GS4 ?_
     refine Dqoff (i := 33) rfl rfl rfl GS4 ?_
     refine Dqoff (i := 34) rfl rfl rfl GS4 ?_
     refine Dqoff (i := 35) rfl rfl rfl GS4 ?_
     refine Dqoff (i := 36) rfl rfl rfl GS4 ?_
     refine Dqoff (i := 37) rfl rfl rfl GS4 ?_
     refine Dqoff (i := 38) rfl rfl rfl GS4 ?_
     refine Dqoff (i := 39) rfl rfl rfl GS4 ?_
     refine Dqoff (i := 40) rfl rfl rfl GS4 ?_
     refine Dqoff (i := 41) rfl rfl rfl GS4 ?_
     refine Dqoff (i := 42) rfl rfl rfl GS4 ?_
     refine Dq (i := 43) rfl GS4 (fun _ _ => Y_pickT rfl rfl) ?_
     refine D_en (by kernel_rfl) rfl rfl ?_
     refine th_n (hK10 _ _ ?_)
     clear hK10 K10
     refine S_ifT rfl ?_
     refine wp_seq_k fun K11 hK11 => ?_
     refine Sb 69 rfl ?_  -- 7
     refine S_val (Y_assign rfl) ?_
     refine S_nl rfl rfl ?_
     refine th_n (hK11 _ _ ?_)
     clear hK11 K11
     refine wp_ret ?_
     refine ib_r ?_
     refine th_r ?_
     try clear GL3
     refine th_r ?_
     refine ib_r ?_
     refine th_r ?_
     clear hK9 K9 hK5 K5
     refine ret_r1 rfl rfl ?_  -- r2
     exact ⟨bF (fun e => hb3 (by subst e; rfl)), G⟩
    · -- g1F
     replace hb3 := nb_nf hb3
     refine Dqon (i := 14) rfl rfl rfl GS4 (fun _ _ => Y_field Try.underlying32 rfl fz32_0 (by decide) rfl) ?_
     refine Dqon (i := 15) rfl rfl rfl GS4 (fun _ hs => Y_load Try.underlying30 rfl rfl (hs.cell0 (B1.at (by rfl)))) ?_
     refine Dqon (i := 16) rfl rfl rfl GS4 (fun _ _ => Y_move rfl) ?_
     refine Dqon (i := 17) rfl rfl rfl GS4 (fun _ _ => Y_index Try.underlying30 sz63 rfl rfl (by first | assumption | omega)) ?_
     refine Dqon (i := 18) rfl rfl rfl GS4 (fun _ _ => Y_field Try.underlying63 rfl fz63_1 (by decide) rfl) ?_
     refine Dqon (i := 19) rfl rfl rfl GS4 (fun _ hs => Y_load Try.underlying3 rfl rfl (by first | exact hs.cell0 (by assumption) | exact hs.cell0 (cc1.at (by rfl)) | exact hs.cell0 (cc2.at (by rfl)) | exact hs.cell0 (B1.at (by rfl)) | exact hs.cell0 (B2.at (by rfl)))) ?_
     refine Dqon (i := 20) rfl rfl rfl GS4 (fun _ _ => Y_field Try.underlying32 rfl fz32_0 (by decide) rfl) ?_
     refine Dqon (i := 21) rfl rfl rfl GS4 (fun _ hs => Y_load Try.underlying30 rfl rfl (hs.cell0 (B2.at (by rfl)))) ?_
     refine Dqon (i := 22) rfl rfl rfl GS4 (fun _ _ => Y_move rfl) ?_
     refine Dqon (i := 23) rfl rfl rfl GS4 (fun _ _ => Y_index Try.underlying30 sz63 rfl rfl (by first | assumption | omega)) ?_
     refine Dqon (i := 24) rfl rfl rfl GS4 (fun _ _ => Y_field Try.underlying63 rfl fz63_1 (by decide) rfl) ?_
     refine Dqon (i := 25) rfl rfl rfl GS4 (fun _ hs => Y_load Try.underlying3 rfl rfl (by first | exact hs.cell0 (by assumption) | exact hs.cell0 (cc1.at (by rfl)) | exact hs.cell0 (cc2.at (by rfl)) | exact hs.cell0 (B1.at (by rfl)) | exact hs.cell0 (B2.at (by rfl)))) ?_
     refine Dqon (i := 26) rfl rfl rfl GS4 (fun _ _ => Y_neq rfl rfl) ?_
     refine Dq (i := 27) rfl GS4 (fun _ _ => Y_pickF rfl rfl) ?_
     refine Dq (i := 28) rfl GS4 (fun _ _ => Y_move rfl) ?_
     refine D_g 48 rfl (fun hb4 => ?_) (fun hb4 => ?_)  -- g2
     · -- g2T
      first | with_reducible (replace hb4 := nb_nt hb4) | with_reducible (replace hb4 := nb_tt hb4) | with_reducible (replace hb4 := nb_bt hb4) | skip
      refine Dqoff (i := 29) rfl rfl rfl GS4 ?_
      refine Dqoff (i := 30) rfl rfl rfl GS4 ?_
      refine Dqoff (i := 31) rfl rfl rfl GS4 ?_
      refine Dqoff (i := 32) rfl rfl rfl GS4 ?_
      refine Dqoff (i := 33) rfl rfl rfl GS4 ?_
      refine Dqoff (i := 34) rfl rfl rfl GS4 ?_
      refine Dqoff (i := 35) rfl rfl rfl GS4 ?_
      refine Dqoff (i := 36) rfl rfl rfl GS4 ?_
      refine Dqoff (i := 37) rfl rfl rfl GS4 ?_
      refine Dqoff (i := 38) rfl rfl rfl GS4 ?_
      refine Dqoff (i := 39) rfl rfl rfl GS4 ?_
      refine Dqoff (i := 40) rfl rfl rfl GS4 ?_
      refine Dqoff (i := 41) rfl rfl rfl GS4 ?_
      refine Dqoff (i := 42) rfl rfl rfl GS4 ?_
      refine Dq (i := 43) rfl GS4 (fun _ _ => Y_pickT rfl rfl) ?_
      refine D_en (by kernel_rfl) rfl rfl ?_
      refine th_n (hK10 _ _ ?_)
      clear hK10 K10
      refine S_ifT rfl ?_
      refine wp_seq_k fun K12 hK12 => ?_
      refine Sb 69 rfl ?_  -- 7
      refine S_val (Y_assign rfl) ?_
      refine S_nl rfl rfl ?_
      refine th_n (hK12 _ _ ?_)
      clear hK12 K12
      refine wp_ret ?_
      refine ib_r ?_
      refine th_r ?_
      try clear GL3
      refine th_r ?_
      refine ib_r ?_
      refine th_r ?_
      clear hK9 K9 hK5 K5
      refine ret_r1 rfl rfl ?_  -- r3
      exact ⟨bF (fun e => hb4 (by subst e; rfl)), G⟩
     · -- g2F
      first | with_reducible (replace hb4 := nb_nf hb4) | with_reducible (replace hb4 := nb_tf hb4) | with_reducible (replace hb4 := nb_bf hb4) | skip
      refine Dqon (i := 29) rfl rfl rfl GS4 (fun _ _ => Y_field Try.underlying32 rfl fz32_0 (by decide) rfl) ?_
      refine Dqon (i := 30) rfl rfl rfl GS4 (fun _ hs => Y_load Try.underlying30 rfl rfl (hs.cell0 (B1.at (by rfl)))) ?_
      refine Dqon (i := 31) rfl rfl rfl GS4 (fun _ _ => Y_move rfl) ?_
      refine Dqon (i := 32) rfl rfl rfl GS4 (fun _ _ => Y_index Try.underlying30 sz63 rfl rfl (by first | assumption | omega)) ?_
      refine Dqon (i := 33) rfl rfl rfl GS4 (fun _ _ => Y_field Try.underlying63 rfl fz63_2 (by decide) rfl) ?_
      refine Dqon (i := 34) rfl rfl rfl GS4 (fun _ hs => Y_load Try.underlying23 rfl rfl (by first | exact hs.cell0 (by assumption) | exact hs.cell0 (cc1.at (by rfl)) | exact hs.cell0 (cc2.at (by rfl)) | exact hs.cell0 (B1.at (by rfl)) | exact hs.cell0 (B2.at (by rfl)))) ?_
      refine Dqon (i := 35) rfl rfl rfl GS4 (fun _ _ => Y_field Try.underlying32 rfl fz32_0 (by decide) rfl) ?_
      refine Dqon (i := 36) rfl rfl rfl GS4 (fun _ hs => Y_load Try.underlying30 rfl rfl (hs.cell0 (B2.at (by rfl)))) ?_
      refine Dqon (i := 37) rfl rfl rfl GS4 (fun _ _ => Y_move rfl) ?_
      refine Dqon (i := 38) rfl rfl rfl GS4 (fun _ _ => Y_index Try.underlying30 sz63 rfl rfl (by first | assumption | omega)) ?_
      refine Dqon (i := 39) rfl rfl rfl GS4 (fun _ _ => Y_field Try.underlying63 rfl fz63_2 (by decide) rfl) ?_
      refine Dqon (i := 40) rfl rfl rfl GS4 (fun _ hs => Y_load Try.underlying23 rfl rfl (by first | exact hs.cell0 (by assumption) | exact hs.cell0 (cc1.at (by rfl)) | exact hs.cell0 (cc2.at (by rfl)) | exact hs.cell0 (B1.at (by rfl)) | exact hs.cell0 (B2.at (by rfl)))) ?_
      refine D_1 (i := 41) (by kernel_rfl) ?_
      refine E_calln rfl rfl rfl rfl en29 (laws_sameInts_c _ _ _ _ _ _ _ _ _ (by assumption) (by assumption) (by omega)) ?_  -- k1 laws.sameInts
      rintro v5 w5 ⟨rfl, g5⟩
      replace hA := hA.grow g5
      replace hB := hB.grow g5
      replace hA2 := hA2.grow g5
      replace hB2 := hB2.grow g5
      replace hE1 := hE1.grow g5
      replace hE2 := hE2.grow g5
      replace G := G.grow g5
      replace GL3 := GL3.grow g5
      replace GS4 := GS4.grow g5
      replace B1 := B1.grow g5
      replace B2 := B2.grow g5
      replace cc1 := cc1.grow g5
      replace cc2 := cc2.grow g5
      have zg5 := g5.size
      refine ⟨GS4, ?_⟩
      refine Dqon (i := 42) rfl rfl rfl GS4 (fun _ _ => Y_not rfl) ?_
      refine Dq (i := 43) rfl GS4 (fun _ _ => Y_pickF rfl rfl) ?_
      refine D_en (by kernel_rfl) rfl rfl ?_
      refine th_n (hK10 _ _ ?_)
      clear hK10 K10
      refine S_if rfl (fun hb5 => ?_) (fun hb5 => ?_)  -- c3
      · -- c3T
       first | with_reducible (replace hb5 := nb_nt hb5) | with_reducible (replace hb5 := nb_tt hb5) | with_reducible (replace hb5 := nb_bt hb5) | skip
       refine wp_seq_k fun K13 hK13 => ?_
       refine Sb 69 rfl ?_  -- 7
       refine S_val (Y_assign rfl) ?_
       refine S_nl rfl rfl ?_
       refine th_n (hK13 _ _ ?_)
       clear hK13 K13
       refine wp_ret ?_
       refine ib_r ?_
       refine th_r ?_
       try clear GL3
       refine th_r ?_
       refine ib_r ?_
       refine th_r ?_
       clear hK9 K9 hK5 K5
       refine ret_r1 rfl rfl ?_  -- r4
       exact ⟨bF (fun e => hb5 (by subst e; rfl)), G⟩
      · -- c3F
       first | with_reducible (replace hb5 := nb_nf hb5) | with_reducible (replace hb5 := nb_tf hb5) | with_reducible (replace hb5 := nb_bf hb5) | skip
       refine wp_skip ?_
       refine ib_n ?_
       refine th_n (hK9 _ _ ?_)
       clear hK9 K9
       refine Sb 69 rfl ?_  -- 5
       refine S_val (Y_move rfl) ?_
       refine S_val (Y_inc rfl rfl (by omega)) ?_
       refine S_val (Y_assign rfl) ?_
       refine S_nl rfl rfl ?_
       refine th_n ?_
       go_roundw  -- e1 of L1
       case rel =>
        refine ⟨?_, GL3⟩
        exact ⟨k + 1, rfl, by omega, take_eq hs (by omega) (by omega) (lc_ext hb3 hb4 hb5)⟩
       case measure =>
        exact dec_nat (by omega)
   · -- c2F
    replace hb2 := nb_tf hb2
    refine wp_exit ?_
    refine th_x ?_
    try clear GL3
    refine th_x ?_
    refine ib_e ?_
    refine th_n (hK5 _ _ ?_)
    clear hK7 K7 hK5 K5
    refine wp_seq_k fun K14 hK14 => ?_
    refine Sb 69 rfl ?_  -- 8
    refine S_val (Y_field Try.underlying32 rfl fz32_1 (by decide) rfl) ?_
    refine S_val (Y_load Try.underlying23 rfl rfl (B1.at (by rfl))) ?_  -- l16
    refine S_val (Y_field Try.underlying32 rfl fz32_1 (by decide) rfl) ?_
    refine S_val (Y_load Try.underlying23 rfl rfl (B2.at (by rfl))) ?_  -- l17
    refine S_call rfl en29 (laws_sameInts_c _ _ _ _ _ _ _ _ _ (by assumption) (by assumption) (by omega)) ?_  -- k2 laws.sameInts
    rintro v6 w6 ⟨rfl, g6⟩
    replace hA := hA.grow g6
    replace hB := hB.grow g6
    replace hA2 := hA2.grow g6
    replace hB2 := hB2.grow g6
    replace G := G.grow g6
    replace B1 := B1.grow g6
    replace B2 := B2.grow g6
    have zg6 := g6.size
    refine S_val (Y_assign rfl) ?_
    refine S_nl rfl rfl ?_
    refine th_n (hK14 _ _ ?_)
    clear hK14 K14
    refine wp_ret ?_
    refine ret_r1 rfl rfl ?_  -- r5
    rw [show decide (x = y) = decide (x.roots = y.roots) by rw [decide_eq_decide]; exact ⟨fun e => by rw [e], fun e => lh_ext (take_all hs (by omega) (by omega)) e⟩]
    exact ⟨rfl, G⟩
end
/-! WalkDw -/
section
open Go Go.RowKit
attribute [local irreducible] wpList wpAnyH Code.wp dOp
theorem RC.both {w w' : World} {A : Option Addr} {cs : List LC} {lo hi : Nat} (h1 : RC (fun i => w.heap.size ≤ i) w' A cs) (h2 : RC (fun i => i < w'.heap.size) w' A cs) (hl : lo = w.heap.size) (hh : hi = w'.heap.size) : RC (fun i => lo ≤ i ∧ i < hi) w' A cs := fun k c hc => by
  subst hl
  subst hh
  obtain ⟨g, o, B, d, hA, hp, h3, h4⟩ := h1 k c hc
  refine ⟨g, o, B, d, hA, ⟨hp, ?_⟩, h3, fun i u hu => ?_⟩
  · exact World.block_lt_of_cell? w' _ (h3.at (j := 0) rfl)
  · obtain ⟨g', o', e', hp', hc'⟩ := h4 i u hu
    exact ⟨g', o', e', ⟨hp', World.block_lt_of_cell? w' _ hc'⟩, hc'⟩
theorem R1.both {w w' : World} {A : Option Addr} {us : List Value} {lo hi : Nat} (h1 : R1 (fun i => w.heap.size ≤ i) w' A us) (h2 : R1 (fun i => i < w'.heap.size) w' A us) (hl : lo = w.heap.size) (hh : hi = w'.heap.size) : R1 (fun i => lo ≤ i ∧ i < hi) w' A us := fun k u hu => by
  subst hl
  subst hh
  obtain ⟨g, o, e, hp, hc⟩ := h1 k u hu
  exact ⟨g, o, e, ⟨hp, World.block_lt_of_cell? w' _ hc⟩, hc⟩
set_option maxHeartbeats 400000 in
set_option maxRecDepth 20000 in
theorem spec_DrawCopyHeap_c (Pr : Nat → Prop) (A : Option Addr) (xs : List Int) (c : Nat) (w : World) (hA : R1 Pr w A (u8s xs)) (hx : xs.length ≤ 1048576) (hc : xs.length ≤ c) (hr : ∀ x ∈ xs, 0 ≤ x ∧ x ≤ 255) :
    Calls Try.prog 46 #[.slice A xs.length c] w (Ret fun v w' => ∃ (hD : LH) (A1 B1 : Option Addr) (n1 c1 n2 c2 : Nat), v = .agg #[.slice A1 n1 c1, .slice B1 n2 c2] ∧ n1 = hD.cells.length ∧ n2 = hD.roots.length ∧ hsize hD ≤ 300 ∧ RC (fun i => w.heap.size ≤ i) w' A1 hD.cells ∧ R1 (fun i => w.heap.size ≤ i) w' B1 (ints hD.roots) ∧ Grow w w') := by
 refine enter Try.func46 rfl Try.ntmps46 (L := [_,_,_,_,_,_]) rfl ?_
 have G := Mod.refl No w
 have hA0 := hA
 refine wp_seq_k fun K1 hK1 => ?_
 refine Sb 6 rfl ?_  -- 0
 refine S_alloc (cs := [_, _]) zr32 rfl ?_
 intro b1 w1 fb1 g1 B1
 have lb1 := B1.lt
 replace hA := hA.grow g1
 replace G := G.grow g1
 have zg1 := g1.size
 refine S_nl rfl rfl ?_
 refine th_n (hK1 _ _ ?_)
 clear hK1 K1
 refine wp_seq_k fun K2 hK2 => ?_
 refine Sb 6 rfl ?_  -- 1
 refine S_val (Y_move rfl) ?_
 refine S_call rfl en67 (spec_l20Open_c _ _ _ _ _ (by assumption) (by omega) (by omega) (by assumption)) ?_  -- k1 spec.l20Open
 rintro v2 w2 ⟨b2, rfl, fb2, RD2, g2⟩
 replace hA := hA.grow g2
 replace G := G.grow g2
 replace B1 := B1.grow g2
 have zg2 := g2.size
 obtain ⟨bR, rfl⟩ : ∃ x, x = b2 := ⟨_, rfl⟩
 have RD := RD2
 have hbR := fb2
 refine S_call rfl en68 (spec_l20Heap_c _ _ _ _ RD (by omega) (by omega)) ?_  -- k2 spec.l20Heap
 rintro v3 w3 ⟨hD3, A3, B3, n13, c13, n23, c23, p3, rfl, hn13, hn23, hz3, hp3, RC3, RR3, RD3, m3⟩
 subst hn13
 subst hn23
 obtain ⟨h, rfl⟩ : ∃ x, x = hD3 := ⟨_, rfl⟩
 obtain ⟨AD, rfl⟩ : ∃ x, x = A3 := ⟨_, rfl⟩
 obtain ⟨BD, rfl⟩ : ∃ x, x = B3 := ⟨_, rfl⟩
 obtain ⟨cD, rfl⟩ : ∃ x, x = c13 := ⟨_, rfl⟩
 obtain ⟨dD, rfl⟩ : ∃ x, x = c23 := ⟨_, rfl⟩
 have hzD := hz3
 obtain ⟨pD, rfl⟩ : ∃ x, x = p3 := ⟨_, rfl⟩
 have hpD := hp3
 obtain ⟨loD, hloD⟩ : ∃ x, x = w2.heap.size := ⟨_, rfl⟩
 obtain ⟨hiD, hhiD⟩ : ∃ x, x = w3.heap.size := ⟨_, rfl⟩
 replace RD := RD3
 clear RD3
 replace G := G.abv m3
 replace hA := hA0.grow G
 replace B1 := B1.md m3
 have zm3 := m3.size
 have hDA : RC (fun k => loD ≤ k ∧ k < hiD) w3 AD h.cells := RC.both RC3 RC3.below hloD hhiD
 have hDB : R1 (fun k => loD ≤ k ∧ k < hiD) w3 BD (ints h.roots) := R1.both RR3 RR3.below hloD hhiD
 refine S_stM (pre := []) (old := [_, _]) (post := []) (vs := [_, _]) sz32 rfl rfl rfl (by first | rfl | assumption) B1 rfl rfl ?_
 intro w4 m4 X4
 replace B1 := Blk.eq (ys := [_, _]) X4 rfl
 clear X4
 replace G := G.abv m4
 replace hA := hA0.grow G
 replace hDA := hDA.md m4
 replace hDB := hDB.md m4
 have zm4 := m4.size
 refine S_nl rfl rfl ?_
 refine th_n (hK2 _ _ ?_)
 clear hK2 K2
 refine wp_ret ?_
 refine ret_rc (cs := [_, _]) Try.underlying32 rfl sz32 rfl rfl (B1.row (by rfl)) ?_  -- r1
 exact ⟨h, _, _, _, _, _, _, rfl, rfl, rfl, hzD, hDA.weak (fun i hi => by first | omega | (dsimp only at hi ⊢; omega)), hDB.weak (fun i hi => by first | omega | (dsimp only at hi ⊢; omega)), G⟩
set_option maxHeartbeats 400000 in
set_option maxRecDepth 20000 in
theorem spec_DrawCollectSweep_c (Pr : Nat → Prop) (A : Option Addr) (xs : List Int) (c : Nat) (w : World) (hA : R1 Pr w A (u8s xs)) (hx : xs.length ≤ 1048576) (hc : xs.length ≤ c) (hr : ∀ x ∈ xs, 0 ≤ x ∧ x ≤ 255) :
    Calls Try.prog 42 #[.slice A xs.length c] w (Ret fun v w' => ∃ (hD : LH) (A1 B1 : Option Addr) (n1 c1 n2 c2 : Nat), v = .agg #[.slice A1 n1 c1, .slice B1 n2 c2] ∧ n1 = hD.cells.length ∧ n2 = hD.roots.length ∧ hsize hD ≤ 300 ∧ RC (fun i => w.heap.size ≤ i) w' A1 hD.cells ∧ R1 (fun i => w.heap.size ≤ i) w' B1 (ints hD.roots) ∧ Grow w w') := by
 refine enter Try.func42 rfl Try.ntmps42 (L := [_,_,_,_,_,_]) rfl ?_
 have G := Mod.refl No w
 have hA0 := hA
 refine wp_seq_k fun K1 hK1 => ?_
 refine Sb 6 rfl ?_  -- 0
 refine S_alloc (cs := [_, _]) zr32 rfl ?_
 intro b1 w1 fb1 g1 B1
 have lb1 := B1.lt
 replace hA := hA.grow g1
 replace G := G.grow g1
 have zg1 := g1.size
 refine S_nl rfl rfl ?_
 refine th_n (hK1 _ _ ?_)
 clear hK1 K1
 refine wp_seq_k fun K2 hK2 => ?_
 refine Sb 6 rfl ?_  -- 1
 refine S_val (Y_move rfl) ?_
 refine S_call rfl en67 (spec_l20Open_c _ _ _ _ _ (by assumption) (by omega) (by omega) (by assumption)) ?_  -- k1 spec.l20Open
 rintro v2 w2 ⟨b2, rfl, fb2, RD2, g2⟩
 replace hA := hA.grow g2
 replace G := G.grow g2
 replace B1 := B1.grow g2
 have zg2 := g2.size
 obtain ⟨bR, rfl⟩ : ∃ x, x = b2 := ⟨_, rfl⟩
 have RD := RD2
 have hbR := fb2
 refine S_call rfl en68 (spec_l20Heap_c _ _ _ _ RD (by omega) (by omega)) ?_  -- k2 spec.l20Heap
 rintro v3 w3 ⟨hD3, A3, B3, n13, c13, n23, c23, p3, rfl, hn13, hn23, hz3, hp3, RC3, RR3, RD3, m3⟩
 subst hn13
 subst hn23
 obtain ⟨h, rfl⟩ : ∃ x, x = hD3 := ⟨_, rfl⟩
 obtain ⟨AD, rfl⟩ : ∃ x, x = A3 := ⟨_, rfl⟩
 obtain ⟨BD, rfl⟩ : ∃ x, x = B3 := ⟨_, rfl⟩
 obtain ⟨cD, rfl⟩ : ∃ x, x = c13 := ⟨_, rfl⟩
 obtain ⟨dD, rfl⟩ : ∃ x, x = c23 := ⟨_, rfl⟩
 have hzD := hz3
 obtain ⟨pD, rfl⟩ : ∃ x, x = p3 := ⟨_, rfl⟩
 have hpD := hp3
 obtain ⟨loD, hloD⟩ : ∃ x, x = w2.heap.size := ⟨_, rfl⟩
 obtain ⟨hiD, hhiD⟩ : ∃ x, x = w3.heap.size := ⟨_, rfl⟩
 replace RD := RD3
 clear RD3
 replace G := G.abv m3
 replace hA := hA0.grow G
 replace B1 := B1.md m3
 have zm3 := m3.size
 have hDA : RC (fun k => loD ≤ k ∧ k < hiD) w3 AD h.cells := RC.both RC3 RC3.below hloD hhiD
 have hDB : R1 (fun k => loD ≤ k ∧ k < hiD) w3 BD (ints h.roots) := R1.both RR3 RR3.below hloD hhiD
 refine S_stM (pre := []) (old := [_, _]) (post := []) (vs := [_, _]) sz32 rfl rfl rfl (by first | rfl | assumption) B1 rfl rfl ?_
 intro w4 m4 X4
 replace B1 := Blk.eq (ys := [_, _]) X4 rfl
 clear X4
 replace G := G.abv m4
 replace hA := hA0.grow G
 replace hDA := hDA.md m4
 replace hDB := hDB.md m4
 have zm4 := m4.size
 refine S_nl rfl rfl ?_
 refine th_n (hK2 _ _ ?_)
 clear hK2 K2
 refine wp_ret ?_
 refine ret_rc (cs := [_, _]) Try.underlying32 rfl sz32 rfl rfl (B1.row (by rfl)) ?_  -- r1
 exact ⟨h, _, _, _, _, _, _, rfl, rfl, rfl, hzD, hDA.weak (fun i hi => by first | omega | (dsimp only at hi ⊢; omega)), hDB.weak (fun i hi => by first | omega | (dsimp only at hi ⊢; omega)), G⟩
set_option maxHeartbeats 400000 in
set_option maxRecDepth 20000 in
theorem laws_sameFlags_c (P1 P2 : Nat → Prop) (A B : Option Addr) (xs ys : List Bool) (c d : Nat) (w : World) (hA : R1 P1 w A (bools xs)) (hB : R1 P2 w B (bools ys)) (hx : xs.length ≤ 9223372036854775807) :
    Calls Try.prog 21 #[.slice A xs.length c, .slice B ys.length d] w (Ret fun v w' => v = .bool (decide (xs = ys)) ∧ Grow w w') := by
 refine enter Try.func21 rfl Try.ntmps21 (L := [_,_,_,_,_,_,_,_,_,_,_,_,_,_,_,_,_,_,_,_,_,_,_,_,_,_]) rfl ?_
 have G := Mod.refl No w
 have hA0 := hA
 have hB0 := hB
 refine wp_seq_k fun K1 hK1 => ?_
 refine Sb 26 rfl ?_  -- 0
 refine S_val (Y_assign rfl) ?_
 refine S_nl rfl rfl ?_
 refine th_n (hK1 _ _ ?_)
 clear hK1 K1
 refine wp_seq_k fun K2 hK2 => ?_
 refine wp_seq_k fun K3 hK3 => ?_
 refine Sb 26 rfl ?_  -- 1
 refine S_val (Y_move rfl) ?_
 refine S_val (Y_len Try.underlying27 rfl) ?_
 refine S_val (Y_move rfl) ?_
 refine S_val (Y_len Try.underlying27 rfl) ?_
 refine S_val (Y_neq rfl rfl) ?_
 refine S_nl rfl rfl ?_
 refine th_n (hK3 _ _ ?_)
 clear hK3 K3
 refine S_if rfl (fun hb1 => ?_) (fun hb1 => ?_)  -- c1
 · -- c1T
  replace hb1 := nb_nt hb1
  refine wp_seq_k fun K4 hK4 => ?_
  refine Sb 26 rfl ?_  -- 2
  refine S_val (Y_assign rfl) ?_
  refine S_nl rfl rfl ?_
  refine th_n (hK4 _ _ ?_)
  clear hK4 K4
  refine wp_ret ?_
  refine th_r ?_
  clear hK2 K2
  refine ret_r1 rfl rfl ?_  -- r1
  exact ⟨bF (fun e => hb1 (by rw [e])), G⟩
 · -- c1F
  replace hb1 := nb_nf hb1
  refine wp_skip ?_
  refine th_n (hK2 _ _ ?_)
  clear hK2 K2
  refine wp_seq_k fun K5 hK5 => ?_
  refine wp_seq_k fun K6 hK6 => ?_
  refine Sb 26 rfl ?_  -- 3
  refine S_val (Y_assign rfl) ?_
  refine S_nl rfl rfl ?_
  refine th_n (hK6 _ _ ?_)
  clear hK6 K6
  refine wp_block ?_
  go_loopw [5] (fun u5 wr => (∃ k : Nat, u5 = .int .i64 k ∧ k ≤ xs.length ∧ xs.take k = ys.take k) ∧ Mod No w wr) (fun u5 wr => xs.length - (intOf u5).toNat)  -- L1
  case atStart =>
   refine ⟨?_, Mod.refl _ _⟩
   exact ⟨0, rfl, by omega, by simp⟩
  case round =>
   obtain ⟨w1, rfl⟩ : ∃ x : World, x = wr := ⟨_, rfl⟩
   obtain ⟨hrel, g1⟩ := hrel
   replace hA := hA.grow g1
   replace hB := hB.grow g1
   replace G := G.grow g1
   have zg1 := g1.size
   obtain ⟨k, rfl, hk, hs⟩ := hrel
   have GL1 := g1
   refine wp_seq_k fun K7 hK7 => ?_
   refine wp_seq_k fun K8 hK8 => ?_
   refine Sb 26 rfl ?_  -- 4
   refine S_val (Y_move rfl) ?_
   refine S_val (Y_move rfl) ?_
   refine S_val (Y_len Try.underlying27 rfl) ?_
   refine S_val (Y_lss rfl rfl) ?_
   refine S_nl rfl rfl ?_
   refine th_n (hK8 _ _ ?_)
   clear hK8 K8
   refine S_if rfl (fun hb2 => ?_) (fun hb2 => ?_)  -- c2
   · -- c2T
    replace hb2 := nb_tt hb2
    refine wp_skip ?_
    refine th_n (hK7 _ _ ?_)
    clear hK7 K7
    refine wp_seq_k fun K9 hK9 => ?_
    refine wp_block ?_
    refine wp_seq_k fun K10 hK10 => ?_
    refine D_start 9 26 (fun w => Mod (No) w) follows rfl rfl ?_  -- d1 r6
    intro w2 g2
    replace hA := hA.grow g2
    replace hB := hB.grow g2
    replace G := G.grow g2
    replace GL1 := GL1.grow g2
    have zg2 := g2.size
    have GS2 := Mod.refl (No) w2
    obtain ⟨g1, o1, rfl, hp1, hc1⟩ := hA.bool (k := k) (by omega)
    obtain ⟨g2, o2, rfl, hp2, hc2⟩ := hB.bool (k := k) (by omega)
    refine Dq (i := 0) rfl GS2 (fun _ _ => Y_move rfl) ?_
    refine Dq (i := 1) rfl GS2 (fun _ _ => Y_move rfl) ?_
    refine Dq (i := 2) rfl GS2 (fun _ _ => Y_index Try.underlying27 sz4 rfl rfl (by first | assumption | omega)) ?_
    refine Dq (i := 3) rfl GS2 (fun _ hs => Y_load Try.underlying4 rfl rfl (by first | exact hs.cell0 (by assumption))) ?_
    refine Dq (i := 4) rfl GS2 (fun _ _ => Y_move rfl) ?_
    refine Dq (i := 5) rfl GS2 (fun _ _ => Y_move rfl) ?_
    refine Dq (i := 6) rfl GS2 (fun _ _ => Y_index Try.underlying27 sz4 rfl rfl (by first | assumption | omega)) ?_
    refine Dq (i := 7) rfl GS2 (fun _ hs => Y_load Try.underlying4 rfl rfl (by first | exact hs.cell0 (by assumption))) ?_
    refine Dq (i := 8) rfl GS2 (fun _ _ => Y_neb Try.underlying4 rfl rfl) ?_
    refine D_en (by kernel_rfl) rfl rfl ?_
    refine th_n (hK10 _ _ ?_)
    clear hK10 K10
    refine S_if rfl (fun hb3 => ?_) (fun hb3 => ?_)  -- c3
    · -- c3T
     replace hb3 := nb_nt hb3
     refine wp_seq_k fun K11 hK11 => ?_
     refine Sb 26 rfl ?_  -- 7
     refine S_val (Y_assign rfl) ?_
     refine S_nl rfl rfl ?_
     refine th_n (hK11 _ _ ?_)
     clear hK11 K11
     refine wp_ret ?_
     refine ib_r ?_
     refine th_r ?_
     try clear GL1
     refine th_r ?_
     refine ib_r ?_
     refine th_r ?_
     clear hK9 K9 hK5 K5
     refine ret_r1 rfl rfl ?_  -- r2
     exact ⟨bF (fun e => hb3 (by subst e; rfl)), G⟩
    · -- c3F
     replace hb3 := nb_nf hb3
     refine wp_skip ?_
     refine ib_n ?_
     refine th_n (hK9 _ _ ?_)
     clear hK9 K9
     refine Sb 26 rfl ?_  -- 5
     refine S_val (Y_move rfl) ?_
     refine S_val (Y_inc rfl rfl (by omega)) ?_
     refine S_val (Y_assign rfl) ?_
     refine S_nl rfl rfl ?_
     refine th_n ?_
     go_roundw  -- e1 of L1
     case rel =>
      refine ⟨?_, GL1⟩
      exact ⟨k + 1, rfl, by omega, take_eq hs (by omega) (by omega) hb3⟩
     case measure =>
      exact dec_nat (by omega)
   · -- c2F
    replace hb2 := nb_tf hb2
    refine wp_exit ?_
    refine th_x ?_
    try clear GL1
    refine th_x ?_
    refine ib_e ?_
    refine th_n (hK5 _ _ ?_)
    clear hK7 K7 hK5 K5
    refine wp_seq_k fun K12 hK12 => ?_
    refine Sb 26 rfl ?_  -- 8
    refine S_val (Y_assign rfl) ?_
    refine S_nl rfl rfl ?_
    refine th_n (hK12 _ _ ?_)
    clear hK12 K12
    refine wp_ret ?_
    refine ret_r1 rfl rfl ?_  -- r3
    exact ⟨bT (take_all hs (by omega) (by omega)), G⟩
theorem sameFlags_p (P1 P2 : Nat → Prop) (A B : Option Addr) (xs ys : List Bool) (n m c d : Nat) (w : World) (hA : R1 P1 w A (bools xs)) (hB : R1 P2 w B (bools ys)) (hx : xs.length ≤ 9223372036854775807) (hn : n = xs.length) (hm : m = ys.length) :
    Calls Try.prog 21 #[.slice A n c, .slice B m d] w (Ret fun v w' => v = .bool (decide (xs = ys)) ∧ Grow w w') := by
  subst hn
  subst hm
  exact laws_sameFlags_c P1 P2 A B xs ys c d w hA hB hx
end
/-! Lw -/
section
open Go
theorem vT {p : Prop} [Decidable p] (h : p) : Value.bool (decide p) = .bool true := by simp [h]
theorem vN {b : Bool} (h : b = false) : Value.bool (!b) = .bool true := by rw [h]; rfl
/-- Rows of references that can be read. -/
structure RF (Pr : Nat → Prop) (w : World) (cs : List LC) (rs : List (Option Addr × Nat)) : Prop where
  len : rs.length = cs.length
  r1 : ∀ (i : Nat) (c : LC) (r : Option Addr × Nat), cs[i]? = some c → rs[i]? = some r → R1 Pr w r.1 (ints c.refs)
theorem RF.mod {Pr S : Nat → Prop} {w w' : World} {cs : List LC} {rs : List (Option Addr × Nat)} (h : RF Pr w cs rs) (m : Mod S w w') (hd : ∀ k, Pr k → ¬ S k) : RF Pr w' cs rs := ⟨h.len, fun i c r h1 h2 => (h.r1 i c r h1 h2).mod m hd⟩
theorem RF.md {Pr S : Nat → Prop} {w w' : World} {cs : List LC} {rs : List (Option Addr × Nat)} (h : RF Pr w cs rs) (m : Mod S w w') (hd : ∀ k, Pr k → ¬ S k := by intro k hk h; first | omega | (dsimp only at hk h; omega) | (dsimp only at hk; omega)) : RF Pr w' cs rs := h.mod m hd
theorem RF.grow {Pr : Nat → Prop} {w w' : World} {cs : List LC} {rs : List (Option Addr × Nat)} (h : RF Pr w cs rs) (m : Grow w w') : RF Pr w' cs rs := h.mod m (fun _ _ h => h)
theorem RF.snoc {Pr P2 : Nat → Prop} {w : World} {cs : List LC} {rs : List (Option Addr × Nat)} (h : RF Pr w cs rs) {c : LC} {B : Option Addr} {bc : Nat} (hB : R1 P2 w B (ints c.refs)) : RF (fun i => Pr i ∨ P2 i) w (cs ++ [c]) (rs ++ [(B, bc)]) := ⟨by simp [h.len], fun i x r hx hr => by
  by_cases hi : i < cs.length
  · rw [List.getElem?_append_left hi] at hx
    rw [List.getElem?_append_left (by rw [h.len]; exact hi)] at hr
    exact (h.r1 i x r hx hr).weak (fun _ => .inl)
  · have hlt := (List.getElem?_eq_some_iff.1 hx).1
    rw [List.length_append] at hlt
    simp only [List.length_cons, List.length_nil] at hlt
    have e0 : i = cs.length := by omega
    subst e0
    rw [List.getElem?_append_right (Nat.le_refl _)] at hx
    rw [List.getElem?_append_right (by rw [h.len]; exact Nat.le_refl _), h.len] at hr
    simp at hx hr
    subst hx
    subst hr
    exact hB.weak (fun _ => .inr)⟩
end
/-! Fn -/
section
open Go Go.RowKit
theorem sweep_ok {h : LH} {ms : List Bool} (hn : ¬ (sweepV h ms).2 < 0) : Valid h ∧ ms.length = h.cells.length ∧ Keeps h (sweepP ms) ∧ sweepV h ms = (dropH h (sweepP ms), ((cntP (sweepN h ms) h.cells.length : Nat) : Int)) := by
  cases ho : sweepOk h ms with
  | false =>
    unfold sweepV at hn
    rw [ho] at hn
    exact absurd (show (-1 : Int) < 0 by decide) hn
  | true =>
    have h1 := ho
    unfold sweepOk at h1
    rw [Bool.and_eq_true, Bool.and_eq_true, decide_eq_true_eq] at h1
    have v := valid_iff.1 h1.1
    exact ⟨v, h1.2.1, (valid_drop v _).1 h1.2.2, sweepV_t h1.1 h1.2.1 h1.2.2⟩
theorem sweep_neg {h : LH} {ms : List Bool} (hn : (sweepV h ms).2 < 0) : sweepV h ms = (nilH, -1) := by
  cases ho : sweepOk h ms with
  | false => unfold sweepV; rw [ho]; rfl
  | true =>
    unfold sweepV at hn
    rw [ho] at hn
    have : ((cntP (sweepN h ms) h.cells.length : Nat) : Int) < 0 := hn
    omega
end
/-! WalkCy -/
section
open Go Go.RowKit
attribute [local irreducible] wpList wpAnyH Code.wp dOp
set_option maxHeartbeats 400000 in
set_option maxRecDepth 20000 in
theorem impl_counted_c (Pr : Nat → Prop) (A B : Option Addr) (h : LH) (c d : Nat) (w : World) (hA : RC Pr w A h.cells) (hB : R1 Pr w B (ints h.roots)) (hz : hsize h ≤ 1048576) (hl : Leads h.cells h.roots nn) :
    Calls Try.prog 85 #[.agg #[.slice A h.cells.length c, .slice B h.roots.length d]] w (Ret fun v w' => ∃ b, v = .agg #[.slice A h.cells.length c, .slice B h.roots.length d, .slice (some ⟨b, 0, none⟩) h.cells.length h.cells.length] ∧ w.heap.size ≤ b ∧ Blk w' b 3 (ints (cntL h.cells.length (refsAll h fun _ => false))).toArray ∧ Grow w w') := by
 have hz1 := hsize_cells h
 have hz2 := hsize_roots h
 have hne : (63 : TypeId) ≠ 3 := by decide
 refine enter Try.func85 rfl Try.ntmps85 (L := [_,_,_,_,_,_,_]) rfl ?_
 have G := Mod.refl No w
 have hA0 := hA
 have hB0 := hB
 refine wp_seq_k fun K1 hK1 => ?_
 refine Sb 7 rfl ?_  -- 0
 refine S_box (cs := [_, _]) rfl rfl ?_
 intro b1 w1 fb1 g1 B1
 have lb1 := B1.lt
 replace hA := hA.grow g1
 replace hB := hB.grow g1
 replace G := G.grow g1
 have zg1 := g1.size
 refine S_alloc (cs := [_, _, _]) zr53 rfl ?_
 intro b2 w2 fb2 g2 B2
 have lb2 := B2.lt
 replace hA := hA.grow g2
 replace hB := hB.grow g2
 replace G := G.grow g2
 replace B1 := B1.grow g2
 have zg2 := g2.size
 refine S_nl rfl rfl ?_
 refine th_n (hK1 _ _ ?_)
 clear hK1 K1
 refine wp_seq_k fun K2 hK2 => ?_
 refine D_start 5 7 (fun w => Mod (fun i => i = b2) w) follows rfl rfl ?_  -- d1 r1
 intro w3 g3
 replace hA := hA.grow g3
 replace hB := hB.grow g3
 replace G := G.grow g3
 replace B1 := B1.grow g3
 replace B2 := B2.grow g3
 have zg3 := g3.size
 have GS3 := Mod.refl (fun i => i = b2) w3
 refine Dq (i := 0) rfl GS3 (fun _ hs => Y_loadS Try.underlying32 rfl sz32 rfl (by first | exact CellsAt.mod (B1.row (by rfl)) hs (by intro h; first | omega | (dsimp only at h; omega)))) ?_
 refine Dq (i := 1) rfl GS3 (fun _ hs => Y_loadS Try.underlying32 rfl sz32 rfl (by first | exact CellsAt.mod (B1.row (by rfl)) hs (by intro h; first | omega | (dsimp only at h; omega)))) ?_
 refine D_1 (i := 2) (by kernel_rfl) ?_
 refine E_call rfl rfl en91 (impl_refCounts_c _ _ _ h _ _ 0 _ hA hB (by omega) hl (by decide)) ?_  -- k1 impl.refCounts
 rintro v4 w4 ⟨b4, rfl, fb4, B4, g4⟩
 replace hA := hA.grow g4
 replace hB := hB.grow g4
 replace G := G.grow g4
 replace GS3 := GS3.grow g4
 replace B1 := B1.grow g4
 replace B2 := B2.grow g4
 have zg4 := g4.size
 have lb4 := B4.lt
 rw [show (fun i => Nat.testBit 0 i) = (fun _ => false) by funext i; simp] at B4
 have hfb := fb4
 obtain ⟨bC, rfl⟩ : ∃ x, x = b4 := ⟨_, rfl⟩
 have BC := B4
 refine ⟨GS3, ?_⟩
 refine Dq (i := 3) rfl GS3 (fun _ _ => Y_build (cs := [_, _, _]) zr53 pc53 rfl rfl) ?_
 refine D_1 (i := 4) (by kernel_rfl) ?_
 refine E_stM (pre := []) (old := [_, _, _]) (post := []) (vs := [_, _, _]) (i := 4) rfl sz53 rfl rfl rfl (by first | rfl | assumption) B2 rfl rfl ?_
 intro w5 m5 X5
 replace B2 := Blk.eq (ys := [_, _, _]) X5 rfl
 clear X5
 replace G := G.abv m5
 replace GS3 := GS3.trn m5
 replace hA := hA0.grow G
 replace hB := hB0.grow G
 replace B1 := B1.md m5
 replace BC := BC.md m5
 have zm5 := m5.size
 refine ⟨GS3, ?_⟩
 refine D_en (by kernel_rfl) rfl rfl ?_
 refine th_n (hK2 _ _ ?_)
 clear hK2 K2
 refine wp_ret ?_
 refine ret_rc (cs := [_, _, _]) Try.underlying53 rfl sz53 rfl rfl (B2.row (by rfl)) ?_  -- r1
 exact ⟨_, rfl, by omega, BC, G⟩
set_option maxHeartbeats 400000 in
set_option maxRecDepth 20000 in
theorem impl_CollectCycles_c (Pr : Nat → Prop) (A B C : Option Addr) (h : LH) (xs : List Int) (c d e : Nat) (w : World) (hA : RC Pr w A h.cells) (hB : R1 Pr w B (ints h.roots)) (hC : R1 Pr w C (ints xs)) (hz : hsize h ≤ 1048576) (hxz : xs.length ≤ 1048576) :
    Calls Try.prog 32 #[.agg #[.slice A h.cells.length c, .slice B h.roots.length d, .slice C xs.length e]] w (Ret fun v w' => ∃ A1 B1 C1 n1 c1 n2 c2 n3 c3 rs P1 P2, v = .tuple #[.agg #[.slice A1 n1 c1, .slice B1 n2 c2, .slice C1 n3 c3], .int .i64 (cycleV h xs).2] ∧ n1 = (cycleV h xs).1.1.cells.length ∧ n2 = (cycleV h xs).1.1.roots.length ∧ n3 = (cycleV h xs).1.2.length ∧ (∀ i : Nat, P1 i → w.heap.size ≤ i ∧ ¬ P2 i) ∧ (∀ i : Nat, P2 i → w.heap.size ≤ i) ∧ OH P1 w' 63 3 A1 B1 (cycleV h xs).1.1 rs ∧ OI P2 w' 3 C1 (ints (cycleV h xs).1.2) ∧ Grow w w') := by
 have hz1 := hsize_cells h
 have hz2 := hsize_roots h
 have hne : (63 : TypeId) ≠ 3 := by decide
 refine enter Try.func32 rfl Try.ntmps32 (L := [_,_,_,_,_,_,_,_,_,_,_,_,_,_,_,_,_,_,_,_,_,_,_,_,_,_,_,_,_,_,_,_,_,_,_,_]) rfl ?_
 have G := Mod.refl No w
 have hA0 := hA
 have hB0 := hB
 have hC0 := hC
 refine wp_seq_k fun K1 hK1 => ?_
 refine Sb 36 rfl ?_  -- 0
 refine S_box (cs := [_, _, _]) rfl rfl ?_
 intro b1 w1 fb1 g1 B1
 have lb1 := B1.lt
 replace hA := hA.grow g1
 replace hB := hB.grow g1
 replace hC := hC.grow g1
 replace G := G.grow g1
 have zg1 := g1.size
 refine S_alloc (cs := [_, _, _]) zr53 rfl ?_
 intro b2 w2 fb2 g2 B2
 have lb2 := B2.lt
 replace hA := hA.grow g2
 replace hB := hB.grow g2
 replace hC := hC.grow g2
 replace G := G.grow g2
 replace B1 := B1.grow g2
 have zg2 := g2.size
 refine S_val (Y_assign rfl) ?_
 refine S_nl rfl rfl ?_
 refine th_n (hK1 _ _ ?_)
 clear hK1 K1
 refine wp_seq_k fun K2 hK2 => ?_
 refine wp_seq_k fun K3 hK3 => ?_
 refine Sb 36 rfl ?_  -- 1
 refine S_val (Y_loadS Try.underlying53 rfl sz53 rfl (B1.row (by rfl))) ?_  -- l1
 refine S_call rfl en35 (impl_CountedValid_c _ _ _ _ _ _ _ _ _ _ (by assumption) (by assumption) (by assumption) (by omega) (by omega)) ?_  -- k1 impl.CountedValid
 rintro v3 w3 ⟨rfl, g3⟩
 replace hA := hA.grow g3
 replace hB := hB.grow g3
 replace hC := hC.grow g3
 replace G := G.grow g3
 replace B1 := B1.grow g3
 replace B2 := B2.grow g3
 have zg3 := g3.size
 refine S_val (Y_not rfl) ?_
 refine S_nl rfl rfl ?_
 refine th_n (hK3 _ _ ?_)
 clear hK3 K3
 refine S_if rfl (fun hb1 => ?_) (fun hb1 => ?_)  -- c1
 · -- c1T
  first | with_reducible (replace hb1 := nb_nt hb1) | with_reducible (replace hb1 := nb_tt hb1) | with_reducible (replace hb1 := nb_bt hb1) | skip
  refine wp_seq_k fun K4 hK4 => ?_
  refine Sb 36 rfl ?_  -- 2
  refine S_val (Y_build (cs := [_, _, _]) zr53 pc53 rfl rfl) ?_
  refine S_stM (pre := []) (old := [_, _, _]) (post := []) (vs := [_, _, _]) sz53 rfl rfl rfl (by first | rfl | assumption) B2 rfl rfl ?_
  intro w4 m4 X4
  replace B2 := Blk.eq (ys := [_, _, _]) X4 rfl
  clear X4
  replace G := G.abv m4
  replace hA := hA0.grow G
  replace hB := hB0.grow G
  replace hC := hC0.grow G
  replace B1 := B1.md m4
  have zm4 := m4.size
  refine S_val (Y_assign rfl) ?_
  refine S_nl rfl rfl ?_
  refine th_n (hK4 _ _ ?_)
  clear hK4 K4
  refine wp_ret ?_
  refine th_r ?_
  clear hK2 K2
  refine ret_rct (cs := [_, _, _]) Try.underlying53 rfl sz53 rfl rfl rfl (B2.row (by rfl)) ?_  -- r1
  have hsv := cycleV_f hb1
  exact ⟨_, _, _, _, _, _, _, _, _, [], No, No, by rw [hsv], by rw [hsv]; rfl, by rw [hsv]; rfl, by rw [hsv]; rfl, fun i h => h.elim, fun i h => h.elim, by rw [hsv]; exact OH.nil _ _ _ _ _ _, by rw [hsv]; exact OI.nil _ _ _ _, G⟩
 · -- c1F
  first | with_reducible (replace hb1 := nb_nf hb1) | with_reducible (replace hb1 := nb_tf hb1) | with_reducible (replace hb1 := nb_bf hb1) | skip
  have va := valid_iff.1 (cval_valid hb1)
  have h40 := va.le
  have hr4 := va.roots4
  refine wp_skip ?_
  refine th_n (hK2 _ _ ?_)
  clear hK2 K2
  refine wp_seq_k fun K5 hK5 => ?_
  refine Sb 36 rfl ?_  -- 3
  refine S_val (Y_field Try.underlying53 rfl fz53_0 (by decide) rfl) ?_
  refine S_val (Y_loadS Try.underlying32 rfl sz32 rfl (CellsAt.of_blk (pre := []) (us := [_, _]) (post := [_]) B1 rfl)) ?_  -- l2
  refine S_call rfl en82 (impl_copyHeap_c _ _ _ _ _ _ _ (by assumption) (by assumption) (by omega)) ?_  -- k2 impl.copyHeap
  rintro v5 w5 ⟨A5, B5, n15, c15, n25, c25, rs5, rfl, hn15, hn25, O5, g5⟩
  replace hA := hA.grow g5
  replace hB := hB.grow g5
  replace hC := hC.grow g5
  replace G := G.grow g5
  replace B1 := B1.grow g5
  replace B2 := B2.grow g5
  have zg5 := g5.size
  subst hn15
  subst hn25
  obtain ⟨AH, rfl⟩ : ∃ x, x = A5 := ⟨_, rfl⟩
  obtain ⟨BH, rfl⟩ : ∃ x, x = B5 := ⟨_, rfl⟩
  obtain ⟨cH, rfl⟩ : ∃ x, x = c15 := ⟨_, rfl⟩
  obtain ⟨dH, rfl⟩ : ∃ x, x = c25 := ⟨_, rfl⟩
  obtain ⟨rsH, rfl⟩ : ∃ x, x = rs5 := ⟨_, rfl⟩
  have OX := O5.lt
  refine S_alloc (cs := [_, _]) zr32 rfl ?_
  intro b6 w6 fb6 g6 B6
  have lb6 := B6.lt
  replace hA := hA.grow g6
  replace hB := hB.grow g6
  replace hC := hC.grow g6
  replace OX := OX.grow g6
  replace G := G.grow g6
  replace B1 := B1.grow g6
  replace B2 := B2.grow g6
  have zg6 := g6.size
  refine S_stM (pre := []) (old := [_, _]) (post := []) (vs := [_, _]) sz32 rfl rfl rfl (by first | rfl | assumption) B6 rfl rfl ?_
  intro w7 m7 X7
  replace B6 := Blk.eq (ys := [_, _]) X7 rfl
  clear X7
  replace G := G.abv m7
  replace hA := hA0.grow G
  replace hB := hB0.grow G
  replace hC := hC0.grow G
  replace OX := OX.md m7
  replace B1 := B1.md m7
  replace B2 := B2.md m7
  have zm7 := m7.size
  refine S_nl rfl rfl ?_
  refine th_n (hK5 _ _ ?_)
  clear hK5 K5
  refine wp_seq_k fun K6 hK6 => ?_
  refine Sb 36 rfl ?_  -- 4
  refine S_val (Y_assign rfl) ?_
  refine S_nl rfl rfl ?_
  refine th_n (hK6 _ _ ?_)
  clear hK6 K6
  refine wp_seq_k fun K7 hK7 => ?_
  refine wp_seq_k fun K8 hK8 => ?_
  refine Sb 36 rfl ?_  -- 5
  refine S_val (Y_field Try.underlying32 rfl fz32_0 (by decide) rfl) ?_
  refine S_val (Y_load Try.underlying30 rfl rfl (B6.at (by rfl))) ?_  -- l3
  refine S_val (Y_len Try.underlying30 rfl) ?_
  refine S_val (Y_move rfl) ?_
  refine S_nl rfl rfl ?_
  refine th_n (hK8 _ _ ?_)
  clear hK8 K8
  refine wp_block ?_
  have OC1 := OX.split hne
  have OR1 := OX.roots
  replace OC1 : OC (fun i => b2 < i ∧ i < b6 ∧ ¬ (BH = some ⟨i, 0, none⟩ ∧ h.roots ≠ [])) w7 63 3 AH h.cells rsH := OC1.weak (fun i h => by have h1 := h.1; have h2 := h.2; dsimp only at h1; exact ⟨by omega, by omega, h2⟩)
  replace OR1 := OR1.weak (Pr' := fun i => b2 < i ∧ i < b6) (fun i h => by omega)
  go_loopw [5, 17] (fun u5 u17 wr => (∃ (k : Nat) (rs1 : List (Option Addr × Nat)), u17 = .int .i64 k ∧ u5 = .int .i64 ((cycN h k : Nat) : Int) ∧ k ≤ h.cells.length ∧ OC (fun i => b2 < i ∧ i < b6 ∧ ¬ (BH = some ⟨i, 0, none⟩ ∧ h.roots ≠ [])) wr 63 3 AH (cycH h k).cells rs1 ∧ SubC (cycH h k).cells rs1 h.cells rsH ∧ OI (fun i => b2 < i ∧ i < b6) wr 3 BH (ints h.roots)) ∧ Mod (fun i => b2 < i ∧ i < b6) w7 wr) (fun u5 u17 wr => h.cells.length - (intOf u17).toNat)  -- L1
  case atStart =>
   refine ⟨?_, Mod.refl _ _⟩
   exact ⟨0, rsH, rfl, rfl, by omega, OC1, SubC.refl _ _, OR1⟩
  case round =>
   obtain ⟨w8, rfl⟩ : ∃ x : World, x = wr := ⟨_, rfl⟩
   obtain ⟨hrel, g8⟩ := hrel
   clear OC1
   clear OR1
   replace G := G.abv g8
   replace hA := hA0.grow G
   replace hB := hB0.grow G
   replace hC := hC0.grow G
   replace B1 := B1.md g8
   replace B2 := B2.md g8
   replace B6 := B6.md g8
   have zg8 := g8.size
   obtain ⟨k, rs1, rfl, rfl, hk, OC1, hsub, OR1⟩ := hrel
   have vk := cycH_valid va k
   have hlen := cycH_len h k
   have hrt := cycH_roots h k
   have GL8 := g8
   refine wp_seq_k fun K9 hK9 => ?_
   refine Sb 36 rfl ?_  -- 6
   refine S_val (Y_lss rfl rfl) ?_
   refine S_nl rfl rfl ?_
   refine th_n (hK9 _ _ ?_)
   clear hK9 K9
   refine wp_seq_k fun K10 hK10 => ?_
   refine S_if rfl (fun hb2 => ?_) (fun hb2 => ?_)  -- c2
   · -- c2T
    replace hb2 := nb_tt hb2
    have hk1 : k < h.cells.length := by omega
    have hRA := (OC1.weak (Pr' := fun i => b2 < i ∧ i < b6) (fun i h => ⟨h.1, h.2.1⟩)).rc
    have hRB : R1 (fun i => b2 < i ∧ i < b6) w8 BH (ints (cycH h k).roots) := by rw [hrt]; exact OR1.r1
    obtain ⟨g2, o2, E2, d2, rfl, hp2, cc2, _⟩ := hRA.cell (k := k) (by omega)
    have hcn := cycN_small va hk
    have hcn2 := cycN_small va (k := k + 1) hk1
    refine wp_skip ?_
    refine th_n (hK10 _ _ ?_)
    clear hK10 K10
    refine wp_seq_k fun K11 hK11 => ?_
    refine wp_block ?_
    refine wp_seq_k fun K12 hK12 => ?_
    refine Sb 36 rfl ?_  -- 7
    refine S_val (Y_move rfl) ?_
    refine S_val (Y_assign rfl) ?_
    refine S_nl rfl rfl ?_
    refine th_n (hK12 _ _ ?_)
    clear hK12 K12
    refine wp_seq_k fun K13 hK13 => ?_
    refine Sb 36 rfl ?_  -- 8
    refine S_val (Y_field Try.underlying32 rfl fz32_0 (by decide) rfl) ?_
    refine S_val (Y_load Try.underlying30 rfl rfl (B6.at (by rfl))) ?_  -- l4
    refine S_val (Y_move rfl) ?_
    refine S_val (Y_index Try.underlying30 sz63 rfl rfl (by first | assumption | omega)) ?_
    refine S_val (Y_field Try.underlying63 rfl fz63_0 (by decide) rfl) ?_
    refine S_val (Y_load Try.underlying4 rfl rfl (by first | assumption | exact cc2.at (by rfl) | exact B1.at (by rfl) | exact B2.at (by rfl) | exact B6.at (by rfl))) ?_  -- l5
    refine S_nl rfl rfl ?_
    refine th_n (hK13 _ _ ?_)
    clear hK13 K13
    refine S_if rfl (fun hb3 => ?_) (fun hb3 => ?_)  -- c3
    · -- c3T
     first | with_reducible (replace hb3 := nb_nt hb3) | with_reducible (replace hb3 := nb_tt hb3) | with_reducible (replace hb3 := nb_bt hb3) | skip
     have hu : usedAt (cycH h k).cells k = true := by rw [usedAt_at (by omega)]; exact hb3
     refine Sb 36 rfl ?_  -- 9
     refine S_val (Y_move rfl) ?_
     refine S_val (Y_loadS Try.underlying32 rfl sz32 rfl (B6.row (by rfl))) ?_  -- l6
     refine S_val (Y_move rfl) ?_
     refine S_call rfl en84 ((by have h0 := impl_deadCycle_c _ _ _ (cycH h k) k cH dH _ hRA hRB (by have := vk.small; omega) vk (by omega) hu; rw [hlen, hrt] at h0; exact h0)) ?_  -- k3 impl.deadCycle
     rintro v9 w9 ⟨m9, rfl, hs9, hr9, g9⟩
     replace hA := hA.grow g9
     replace hB := hB.grow g9
     replace hC := hC.grow g9
     replace OC1 := OC1.grow g9
     replace OR1 := OR1.grow g9
     replace G := G.grow g9
     replace GL8 := GL8.grow g9
     replace B1 := B1.grow g9
     replace B2 := B2.grow g9
     replace B6 := B6.grow g9
     replace cc2 := cc2.grow g9
     have zg9 := g9.size
     obtain ⟨m0, rfl⟩ : ∃ x, x = m9 := ⟨_, rfl⟩
     have hD0 := hs9
     have hD9 := hr9
     refine S_call rfl en83 (impl_freeCells_c _ b6 _ _ (cycH h k).cells rs1 cH m0 _ (by rw [hlen]; exact B6) OC1 hD0 (by omega) (fun hh => absurd hh.2.1 (by omega))) ?_  -- k4 impl.freeCells
     rintro v10 w10 ⟨rs9, hv10, OC9, sub9, mq10⟩
     rw [dead_all vk (by omega) hu hD9] at hv10 OC9 sub9
     rw [hlen] at hv10
     subst hv10
     have OR9 := OR1.keep mq10 (fun b e1 e2 e3 => e3.2.2 ⟨e1, ints_ne.1 e2⟩)
     have m10 := mq10.weak (T := fun i => b2 < i ∧ i < b6) (fun i h _ => ⟨h.1, h.2.1⟩)
     replace G := G.abv m10
     replace GL8 := GL8.trn m10
     replace hA := hA0.grow G
     replace hB := hB0.grow G
     replace hC := hC0.grow G
     replace B1 := B1.md m10
     replace B2 := B2.md m10
     replace B6 := B6.md m10
     clear cc2
     have zm10 := m10.size
     refine S_val (Y_add (c := ((cycN h (k + 1) : Nat) : Int)) rfl rfl (by rw [cycN_t hu]; omega) (by omega) (by omega)) ?_
     refine S_val (Y_assign rfl) ?_
     refine S_nl rfl rfl ?_
     refine ib_n ?_
     refine th_n (hK11 _ _ ?_)
     clear hK11 K11
     refine Sb 36 rfl ?_  -- 10
     refine S_val (Y_inc rfl rfl (by omega)) ?_
     refine S_val (Y_move rfl) ?_
     refine S_nl rfl rfl ?_
     refine th_n ?_
     go_roundw  -- e1 of L1
     case rel =>
      refine ⟨?_, GL8⟩
      first | exact ⟨k + 1, rs9, rfl, rfl, by omega, OC9.cast (by rw [cycH_t hu]; rfl), (sub9.trans hsub).cast (by rw [cycH_t hu]; rfl), OR9⟩ | exact ⟨k + 1, rs1, rfl, by rw [cycN_f hu], by omega, OC1.cast (by rw [cycH_f hu]), hsub.cast (by rw [cycH_f hu]), OR1⟩
     case measure =>
      exact dec_nat (by omega)
    · -- c3F
     first | with_reducible (replace hb3 := nb_nf hb3) | with_reducible (replace hb3 := nb_tf hb3) | with_reducible (replace hb3 := nb_bf hb3) | skip
     have hu : usedAt (cycH h k).cells k = false := by rw [usedAt_at (by omega)]; exact hb3
     refine wp_skip ?_
     refine ib_n ?_
     refine th_n (hK11 _ _ ?_)
     clear hK11 K11
     refine Sb 36 rfl ?_  -- 10
     refine S_val (Y_inc rfl rfl (by omega)) ?_
     refine S_val (Y_move rfl) ?_
     refine S_nl rfl rfl ?_
     refine th_n ?_
     go_roundw  -- e2 of L1
     case rel =>
      refine ⟨?_, GL8⟩
      first | exact ⟨k + 1, rs9, rfl, rfl, by omega, OC9.cast (by rw [cycH_t hu]; rfl), (sub9.trans hsub).cast (by rw [cycH_t hu]; rfl), OR9⟩ | exact ⟨k + 1, rs1, rfl, by rw [cycN_f hu], by omega, OC1.cast (by rw [cycH_f hu]), hsub.cast (by rw [cycH_f hu]), OR1⟩
     case measure =>
      exact dec_nat (by omega)
   · -- c2F
    replace hb2 := nb_tf hb2
    have hkN : k = h.cells.length := by omega
    have hRA := (OC1.weak (Pr' := fun i => b2 < i ∧ i < b6) (fun i h => ⟨h.1, h.2.1⟩)).rc
    have hRB : R1 (fun i => b2 < i ∧ i < b6) w8 BH (ints (cycH h k).roots) := by rw [hrt]; exact OR1.r1
    replace OC1 := OC1.weak (Pr' := fun i => b2 < i ∧ i < b6) (fun i h => ⟨h.1, h.2.1⟩)
    refine wp_exit ?_
    refine th_x ?_
    try clear GL8
    refine th_x ?_
    refine ib_e ?_
    refine th_n (hK7 _ _ ?_)
    clear hK10 K10 hK7 K7
    refine wp_seq_k fun K14 hK14 => ?_
    refine Sb 36 rfl ?_  -- 11
    refine S_val (Y_loadS Try.underlying32 rfl sz32 rfl (B6.row (by rfl))) ?_  -- l7
    refine S_call rfl en85 ((by have h0 := impl_counted_c _ _ _ (cycH h k) cH dH _ hRA hRB (by have := vk.small; omega) vk.leads; rw [hlen, hrt] at h0; exact h0)) ?_  -- k5 impl.counted
    rintro v11 w11 ⟨b11, rfl, fb11, B11, g11⟩
    replace hA := hA.grow g11
    replace hB := hB.grow g11
    replace hC := hC.grow g11
    replace OC1 := OC1.grow g11
    replace OR1 := OR1.grow g11
    replace G := G.grow g11
    replace B1 := B1.grow g11
    replace B2 := B2.grow g11
    replace B6 := B6.grow g11
    have zg11 := g11.size
    have lb11 := B11.lt
    have hfC := fb11
    obtain ⟨bC, rfl⟩ : ∃ x, x = b11 := ⟨_, rfl⟩
    have BC := B11
    refine S_val (Y_move rfl) ?_
    refine S_stM (pre := []) (old := [_, _, _]) (post := []) (vs := [_, _, _]) sz53 rfl rfl rfl (by first | rfl | assumption) B2 rfl rfl ?_
    intro w12 m12 X12
    replace B2 := Blk.eq (ys := [_, _, _]) X12 rfl
    clear X12
    replace G := G.abv m12
    replace hA := hA0.grow G
    replace hB := hB0.grow G
    replace hC := hC0.grow G
    replace OC1 := OC1.md m12
    replace OR1 := OR1.md m12
    replace B1 := B1.md m12
    replace B6 := B6.md m12
    replace BC := BC.md m12
    have zm12 := m12.size
    refine S_val (Y_assign rfl) ?_
    refine S_nl rfl rfl ?_
    refine th_n (hK14 _ _ ?_)
    clear hK14 K14
    refine wp_ret ?_
    refine ret_rct (cs := [_, _, _]) Try.underlying53 rfl sz53 rfl rfl rfl (B2.row (by rfl)) ?_  -- r2
    have hsv := cycleV_t hb1
    subst hkN
    refine ⟨_, _, _, _, _, _, _, _, _, rs1, fun i => b2 < i ∧ i < b6, fun i => i = bC, by rw [hsv], by rw [hsv]; exact hlen.symm, by rw [hsv]; exact congrArg List.length hrt.symm, by rw [hsv]; exact (cntL_len _ _).symm, fun i hi => ⟨by omega, by omega⟩, fun i hi => by omega, ?_, by rw [hsv]; exact OI.of_blk' BC rfl, G⟩
    rw [hsv]
    have OF := OH.freed (S := fun i => b2 < i ∧ i < b6) OX OC1 hsub OR1 (fun _ h => h) (fun _ h => h)
    rw [← hrt] at OF
    exact OF
end
/-! Open -/
section
open Go Go.ChangeShapes Go.WideShapes Go.ChangeAt Go.RowKit Go.Deep Go.Joins
section
variable {H : Type} {enc : TypeId × Value → H} {P : Program} {w : World} {base : Nat} {spare : Nat → Bool} {held : Bool}
theorem plain_of_cell {w : World} {a : Addr} {v : Value} (h : w.cell? a = some v) : ∃ g o, a = ⟨g, o, none⟩ := by
  obtain ⟨g, o, s⟩ := a
  have hs := World.cell?_spot h
  simp only at hs
  subst hs
  exact ⟨g, o, rfl⟩
theorem trod_top {t e : TypeId} {r : Reach} {b0 : Nat} {v : Value} {d : DataW H} {p : List MemPlace} (hu : P.underlying t = some (.slice e)) (hval : Value.okWide P w r b0 t v) (h : DataW.Trod enc P w base spare held t v d p) :
    ∃ fuel, DataW.trod enc P w base spare held fuel t [v] = some (d, p) := by
  obtain ⟨a, len, cap, rfl⟩ := okWide_slice hu hval
  obtain ⟨fuel, hf⟩ := h
  exact ⟨fuel, hf⟩
theorem open_ru {t e : TypeId} {fuel : Nat} {v : Value} {x : DataW H × List MemPlace} (ht : P.underlying t = some (.slice e)) (he : P.underlying e = some (.int .u8)) (hc : P.cellsOf e = 1)
    (h : DataW.trod enc P w base spare held fuel t [v] = some x) : ∃ (A : Option Addr) (xs : List Int) (c : Nat), v = .slice A xs.length c ∧ R1 (fun _ => True) w A (u8s xs) ∧ xs.length ≤ 9223372036854775807 ∧ xs.length ≤ c ∧ ∀ y ∈ xs, 0 ≤ y ∧ y ≤ 255 := by
  rcases open_ints ht he hc h with ⟨hcs, _⟩ | ⟨a, len, cap, zs, hcs, _, hl, hm, hz, _, hcell, hwz⟩
  · simp only [List.cons.injEq, and_true] at hcs
    subst hcs
    exact ⟨none, [], 0, rfl, R1.nil _ _ _, by simp, by simp, by simp⟩
  · simp only [List.cons.injEq, and_true] at hcs
    subst hcs
    have hlz : len ≤ zs.length := by
      rw [hz]
      split
      · exact hl
      · exact Nat.le_refl _
    have hlen : (zs.take len).length = len := by rw [List.length_take]; omega
    refine ⟨some a, zs.take len, cap, by rw [hlen], fun k u hu => ?_, by rw [hlen]; unfold maxLen at hm; omega, by rw [hlen]; exact hl, fun y hy => ?_⟩
    · have hk : k < len := by
        have := (List.getElem?_eq_some_iff.1 hu).1
        rw [u8s, List.length_map, hlen] at this
        exact this
      obtain ⟨g, o, rfl⟩ : ∃ g o, a = ⟨g, o, none⟩ := by
        have h0 := hcell 0 (by omega)
        rw [show a.add 0 = a by simp [Addr.add]] at h0
        exact plain_of_cell h0
      refine ⟨g, o, rfl, trivial, ?_⟩
      have hck := hcell k (by omega)
      rw [Addr.add_lit] at hck
      rw [Nat.mul_one, hck]
      have hu' : (u8s (zs.take len))[k]? = some (.int .u8 (zs.getD k 0)) := by
        unfold u8s
        rw [List.getElem?_map, List.getElem?_take, if_pos hk, List.getElem?_eq_getElem (show k < zs.length by omega)]
        simp [List.getD, List.getElem?_eq_getElem (show k < zs.length by omega)]
      rw [hu'] at hu
      exact hu
    · have hy' := List.mem_of_mem_take hy
      have := hwz y hy'
      simp [Lit.wf, IntKind.min, IntKind.max, IntKind.bits, IntKind.signed] at this
      omega
end
end
end Go.Proofs.Ytikgflhepclfgac
