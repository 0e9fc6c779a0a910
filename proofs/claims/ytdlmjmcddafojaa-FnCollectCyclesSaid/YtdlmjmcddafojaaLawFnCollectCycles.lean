/-
  The law FnCollectCycles returns true.
  Conditions: those that each theorem states.
-/
import Derived.Test.YtdlmjmcddafojaaQdS6
set_option linter.unusedVariables false
set_option linter.unusedSimpArgs false
namespace Go.Proofs.Ytdlmjmcddafojaa
open Go Go.RowKit
attribute [local irreducible] wpList wpAnyH Code.wp dOp

set_option maxHeartbeats 400000 in
set_option maxRecDepth 20000 in
theorem laws_FnCollectCycles_c (Pr : Nat → Prop) (A : Option Addr) (xs : List Int) (c : Nat) (w : World) (hA : R1 Pr w A (u8s xs)) (hn : xs.length ≤ 9223372036854775807) (hcap : xs.length ≤ c) (hrg : ∀ y ∈ xs, 0 ≤ y ∧ y ≤ 255) :
    Calls Try.prog 3 #[.slice A xs.length c] w (Ret fun v w' => v = .bool true ∧ Grow w w') := by
 refine enter Try.func3 rfl Try.ntmps3 (L := [_,_,_,_,_,_,_,_,_,_,_,_,_,_,_,_,_,_,_,_,_,_,_,_,_,_,_,_,_,_,_,_,_,_,_,_,_,_,_,_,_,_,_,_,_,_,_,_,_,_,_,_,_,_,_,_,_,_,_,_,_,_,_,_,_,_,_,_,_]) rfl ?_
 have G := Mod.refl No w
 have hA0 := hA
 refine wp_seq_k fun K1 hK1 => ?_
 refine Sb 69 rfl ?_  -- 0
 refine S_val (Y_assign rfl) ?_
 refine S_nl rfl rfl ?_
 refine th_n (hK1 _ _ ?_)
 clear hK1 K1
 refine wp_seq_k fun K2 hK2 => ?_
 refine wp_seq_k fun K3 hK3 => ?_
 refine Sb 69 rfl ?_  -- 1
 refine S_val (Y_move rfl) ?_
 refine S_val (Y_len Try.underlying22 rfl) ?_
 refine S_val (Y_gtr rfl rfl) ?_
 refine S_nl rfl rfl ?_
 refine th_n (hK3 _ _ ?_)
 clear hK3 K3
 refine S_if rfl (fun hb1 => ?_) (fun hb1 => ?_)  -- c1
 · -- c1T
  replace hb1 := nb_tt hb1
  refine wp_seq_k fun K4 hK4 => ?_
  refine Sb 69 rfl ?_  -- 2
  refine S_val (Y_assign rfl) ?_
  refine S_nl rfl rfl ?_
  refine th_n (hK4 _ _ ?_)
  clear hK4 K4
  refine wp_ret ?_
  refine th_r ?_
  clear hK2 K2
  refine ret_r1 rfl rfl ?_  -- r1
  first | exact ⟨rfl, G⟩ | exact ⟨vB (sameV_of hvX9 hv9 hview), G⟩
 · -- c1F
  replace hb1 := nb_tf hb1
  have hx : xs.length ≤ 1048576 := by omega
  refine wp_skip ?_
  refine th_n (hK2 _ _ ?_)
  clear hK2 K2
  refine wp_seq_k fun K5 hK5 => ?_
  refine Sb 69 rfl ?_  -- 3
  refine S_val (Y_move rfl) ?_
  refine S_call rfl en5 (spec_DrawCollectCycles_c _ _ _ _ _ (by assumption) (by omega) (by omega) (by assumption)) ?_  -- k1 spec.DrawCollectCycles
  rintro v1 w1 ⟨hD1, ys1, A1, B1, C1, n11, c11, n21, c21, n31, c31, rfl, hn11, hn21, hn31, hz1, hy1, RC1, RR1, RY1, g1⟩
  replace hA := hA.grow g1
  replace G := G.grow g1
  have zg1 := g1.size
  subst hn11
  subst hn21
  subst hn31
  obtain ⟨h, rfl⟩ : ∃ x, x = hD1 := ⟨_, rfl⟩
  obtain ⟨ys, rfl⟩ : ∃ x, x = ys1 := ⟨_, rfl⟩
  have hzD := hz1
  have hzcD := hsize_cells h
  have hyD := hy1
  have hDA := RC1.below
  have hDB := RR1.below
  have hDY := RY1.below
  have hrl := reachV_le h
  have hll := leakV_len h
  refine S_alloc (cs := [_, _, _]) zr28 rfl ?_
  intro b2 w2 fb2 g2 B2
  have lb2 := B2.lt
  replace hA := hA.grow g2
  replace hDA := hDA.grow g2
  replace hDB := hDB.grow g2
  replace hDY := hDY.grow g2
  replace G := G.grow g2
  have zg2 := g2.size
  refine S_stM (pre := []) (old := [_, _, _]) (post := []) (vs := [_, _, _]) sz28 rfl rfl rfl (by first | rfl | assumption) B2 rfl rfl ?_
  intro w3 m3 X3
  replace B2 := Blk.eq (ys := [_, _, _]) X3 rfl
  clear X3
  replace G := G.abv m3
  replace hA := hA0.grow G
  replace hDA := hDA.md m3
  replace hDB := hDB.md m3
  replace hDY := hDY.md m3
  have zm3 := m3.size
  refine S_nl rfl rfl ?_
  refine th_n (hK5 _ _ ?_)
  clear hK5 K5
  refine wp_seq_k fun K6 hK6 => ?_
  refine Sb 69 rfl ?_  -- 4
  refine S_val (Y_loadS Try.underlying28 rfl sz28 rfl (B2.row (by rfl))) ?_  -- l1
  refine S_call rfl en6 (impl_CollectCycles_c _ _ _ _ h ys _ _ _ _ hDA hDB hDY (by omega) (by omega)) ?_  -- k2 impl.CollectCycles
  rintro v4 w4 ⟨A4, B4, C4, n14, c14, n24, c24, n34, c34, rs4, P4, Q4, rfl, hn14, hn24, hn34, hPQ4, hQ4, O4, OM4, g4⟩
  replace hA := hA.grow g4
  replace hDA := hDA.grow g4
  replace hDB := hDB.grow g4
  replace hDY := hDY.grow g4
  replace G := G.grow g4
  replace B2 := B2.grow g4
  have zg4 := g4.size
  obtain ⟨hX, hXe⟩ : ∃ x, x = (cycleV h ys).1.1 := ⟨_, rfl⟩
  obtain ⟨zs, hzs⟩ : ∃ x, x = (cycleV h ys).1.2 := ⟨_, rfl⟩
  have hXz : hsize hX ≤ 200 := by rw [hXe]; exact (cycle_small h ys).1
  have hzl : zs.length ≤ 40 := by rw [hzs]; exact (cycle_small h ys).2
  rw [← hXe] at hn14 hn24 O4
  rw [← hzs] at hn34 OM4
  subst hn14
  subst hn24
  subst hn34
  obtain ⟨lo4, hlo4⟩ : ∃ x, x = w3.heap.size := ⟨_, rfl⟩
  obtain ⟨hi4, hhi4⟩ : ∃ x, x = w4.heap.size := ⟨_, rfl⟩
  have OX4 := (O4.lt).weak (Pr' := fun k => lo4 ≤ k ∧ k < hi4) (fun k hk => ⟨by have h8 := (hPQ4 k hk.1).1; omega, by have h8 := hk.2; omega⟩)
  have OMX4 := (OM4.lt).weak (Pr' := fun k => lo4 ≤ k ∧ k < hi4) (fun k hk => ⟨by have h8 := hQ4 k hk.1; omega, by have h8 := hk.2; omega⟩)
  have hXA := OX4.rc
  have hXB := OX4.r1
  have hXC := OMX4.r1
  refine S_val (Y_move rfl) ?_
  refine S_val (Y_extract rfl rfl) ?_
  refine S_val (Y_extract rfl rfl) ?_
  refine S_alloc (cs := [_, _, _]) zr28 rfl ?_
  intro b5 w5 fb5 g5 B5
  have lb5 := B5.lt
  replace hA := hA.grow g5
  replace hDA := hDA.grow g5
  replace hDB := hDB.grow g5
  replace hDY := hDY.grow g5
  replace hXA := hXA.grow g5
  replace hXB := hXB.grow g5
  replace hXC := hXC.grow g5
  replace G := G.grow g5
  replace B2 := B2.grow g5
  have zg5 := g5.size
  refine S_stM (pre := []) (old := [_, _, _]) (post := []) (vs := [_, _, _]) sz28 rfl rfl rfl (by first | rfl | assumption) B5 rfl rfl ?_
  intro w6 m6 X6
  replace B5 := Blk.eq (ys := [_, _, _]) X6 rfl
  clear X6
  replace G := G.abv m6
  replace hA := hA0.grow G
  replace hDA := hDA.md m6
  replace hDB := hDB.md m6
  replace hDY := hDY.md m6
  replace hXA := hXA.md m6
  replace hXB := hXB.md m6
  replace hXC := hXC.md m6
  replace B2 := B2.md m6
  have zm6 := m6.size
  refine S_val (Y_assign rfl) ?_
  refine S_nl rfl rfl ?_
  refine th_n (hK6 _ _ ?_)
  clear hK6 K6
  refine wp_seq_k fun K7 hK7 => ?_
  refine Sb 69 rfl ?_  -- 5
  refine S_val (Y_loadS Try.underlying28 rfl sz28 rfl (B2.row (by rfl))) ?_  -- l2
  refine S_call rfl en7 (spec_CollectCycles_c _ _ _ _ h ys _ _ _ _ hDA hDB hDY (by omega) (by omega)) ?_  -- k3 spec.CollectCycles
  rintro v7 w7 ⟨A7, B7, C7, n17, c17, n27, c27, n37, c37, rs7, P7, Q7, rfl, hn17, hn27, hn37, hPQ7, hQ7, O7, OM7, g7⟩
  replace hA := hA.grow g7
  replace hDA := hDA.grow g7
  replace hDB := hDB.grow g7
  replace hDY := hDY.grow g7
  replace hXA := hXA.grow g7
  replace hXB := hXB.grow g7
  replace hXC := hXC.grow g7
  replace G := G.grow g7
  replace B2 := B2.grow g7
  replace B5 := B5.grow g7
  have zg7 := g7.size
  rw [← hXe] at hn17 hn27 O7
  rw [← hzs] at hn37 OM7
  subst hn17
  subst hn27
  subst hn37
  obtain ⟨lo7, hlo7⟩ : ∃ x, x = w6.heap.size := ⟨_, rfl⟩
  obtain ⟨hi7, hhi7⟩ : ∃ x, x = w7.heap.size := ⟨_, rfl⟩
  have OX7 := (O7.lt).weak (Pr' := fun k => lo7 ≤ k ∧ k < hi7) (fun k hk => ⟨by have h8 := (hPQ7 k hk.1).1; omega, by have h8 := hk.2; omega⟩)
  have OMX7 := (OM7.lt).weak (Pr' := fun k => lo7 ≤ k ∧ k < hi7) (fun k hk => ⟨by have h8 := hQ7 k hk.1; omega, by have h8 := hk.2; omega⟩)
  have hYA := OX7.rc
  have hYB := OX7.r1
  have hYC := OMX7.r1
  refine S_val (Y_move rfl) ?_
  refine S_val (Y_extract rfl rfl) ?_
  refine S_val (Y_extract rfl rfl) ?_
  refine S_alloc (cs := [_, _, _]) zr28 rfl ?_
  intro b8 w8 fb8 g8 B8
  have lb8 := B8.lt
  replace hA := hA.grow g8
  replace hDA := hDA.grow g8
  replace hDB := hDB.grow g8
  replace hDY := hDY.grow g8
  replace hXA := hXA.grow g8
  replace hXB := hXB.grow g8
  replace hXC := hXC.grow g8
  replace hYA := hYA.grow g8
  replace hYB := hYB.grow g8
  replace hYC := hYC.grow g8
  replace G := G.grow g8
  replace B2 := B2.grow g8
  replace B5 := B5.grow g8
  have zg8 := g8.size
  refine S_stM (pre := []) (old := [_, _, _]) (post := []) (vs := [_, _, _]) sz28 rfl rfl rfl (by first | rfl | assumption) B8 rfl rfl ?_
  intro w9 m9 X9
  replace B8 := Blk.eq (ys := [_, _, _]) X9 rfl
  clear X9
  replace G := G.abv m9
  replace hA := hA0.grow G
  replace hDA := hDA.md m9
  replace hDB := hDB.md m9
  replace hDY := hDY.md m9
  replace hXA := hXA.md m9
  replace hXB := hXB.md m9
  replace hXC := hXC.md m9
  replace hYA := hYA.md m9
  replace hYB := hYB.md m9
  replace hYC := hYC.md m9
  replace B2 := B2.md m9
  replace B5 := B5.md m9
  have zm9 := m9.size
  refine S_val (Y_assign rfl) ?_
  refine S_nl rfl rfl ?_
  refine th_n (hK7 _ _ ?_)
  clear hK7 K7
  refine wp_seq_k fun K8 hK8 => ?_
  refine wp_seq_k fun K9 hK9 => ?_
  refine Sb 69 rfl ?_  -- 6
  refine S_val (Y_loadS Try.underlying28 rfl sz28 rfl (B5.row (by rfl))) ?_  -- l3
  refine S_val (Y_loadS Try.underlying28 rfl sz28 rfl (B8.row (by rfl))) ?_  -- l4
  refine S_call rfl en8 (laws_sameCounted_c _ _ _ _ _ _ _ _ _ _ hX hX zs zs _ _ _ _ _ _ _ hXA hXB hXC hYA hYB hYC (by omega) (by omega)) ?_  -- k4 laws.sameCounted
  rintro v10 w10 ⟨rfl, g10⟩
  replace hA := hA.grow g10
  replace hDA := hDA.grow g10
  replace hDB := hDB.grow g10
  replace hDY := hDY.grow g10
  replace hXA := hXA.grow g10
  replace hXB := hXB.grow g10
  replace hXC := hXC.grow g10
  replace hYA := hYA.grow g10
  replace hYB := hYB.grow g10
  replace hYC := hYC.grow g10
  replace G := G.grow g10
  replace B2 := B2.grow g10
  replace B5 := B5.grow g10
  replace B8 := B8.grow g10
  have zg10 := g10.size
  refine S_val (Y_not rfl) ?_
  refine S_val (Y_move rfl) ?_
  refine S_g 29 rfl (fun hb2 => ?_) (fun hb2 => ?_)  -- g1
  · -- g1T
   first | with_reducible (replace hb2 := nb_nt hb2) | with_reducible (replace hb2 := nb_tt hb2) | with_reducible (replace hb2 := nb_bt hb2) | skip
   simp at hb2
  · -- g1F
   first | with_reducible (replace hb2 := nb_nf hb2) | with_reducible (replace hb2 := nb_tf hb2) | with_reducible (replace hb2 := nb_bf hb2) | skip
   refine S_on rfl rfl ?_
   refine S_val (Y_move rfl) ?_
   refine S_on rfl rfl ?_
   refine S_val (Y_move rfl) ?_
   refine S_on rfl rfl ?_
   refine S_val (Y_neq rfl rfl) ?_
   refine S_val (Y_pickF rfl rfl) ?_
   refine S_nl rfl rfl ?_
   refine th_n (hK9 _ _ ?_)
   clear hK9 K9
   refine S_if rfl (fun hb3 => ?_) (fun hb3 => ?_)  -- c2
   · -- c2T
    first | with_reducible (replace hb3 := nb_nt hb3) | with_reducible (replace hb3 := nb_tt hb3) | with_reducible (replace hb3 := nb_bt hb3) | skip
    exact absurd rfl hb3
   · -- c2F
    first | with_reducible (replace hb3 := nb_nf hb3) | with_reducible (replace hb3 := nb_tf hb3) | with_reducible (replace hb3 := nb_bf hb3) | skip
    refine wp_skip ?_
    refine th_n (hK8 _ _ ?_)
    clear hK8 K8
    refine wp_seq_k fun K10 hK10 => ?_
    refine wp_seq_k fun K11 hK11 => ?_
    refine Sb 69 rfl ?_  -- 8
    refine S_val (Y_move rfl) ?_
    refine S_val (Y_lss rfl rfl) ?_
    refine S_nl rfl rfl ?_
    refine th_n (hK11 _ _ ?_)
    clear hK11 K11
    refine S_if rfl (fun hb4 => ?_) (fun hb4 => ?_)  -- c3
    · -- c3T
     replace hb4 := nb_tt hb4
     have hcn : (cycleV h ys).2 = -1 := by
       cases hv : cvalB h ys with
       | false => rw [cycleV_f hv]
       | true => rw [cycleV_t hv] at hb4; have h9 : ((cycN h h.cells.length : Nat) : Int) < 0 := hb4; omega
     rw [hcn]
     refine wp_seq_k fun K12 hK12 => ?_
     refine Sb 69 rfl ?_  -- 9
     refine S_val (Y_move rfl) ?_
     refine S_val (Y_eql rfl rfl) ?_
     refine S_val (Y_move rfl) ?_
     refine S_g 38 rfl (fun hb5 => ?_) (fun hb5 => ?_)  -- g2
     · -- g2T
      replace hb5 := nb_tt hb5
      refine S_on rfl rfl ?_
      refine S_call rfl en9 (laws_alive_c _) ?_  -- k5 laws.alive
      rintro v11 w11 ⟨rfl, g11⟩
      replace hA := hA.grow g11
      replace hDA := hDA.grow g11
      replace hDB := hDB.grow g11
      replace hDY := hDY.grow g11
      replace hXA := hXA.grow g11
      replace hXB := hXB.grow g11
      replace hXC := hXC.grow g11
      replace hYA := hYA.grow g11
      replace hYB := hYB.grow g11
      replace hYC := hYC.grow g11
      replace G := G.grow g11
      replace B2 := B2.grow g11
      replace B5 := B5.grow g11
      replace B8 := B8.grow g11
      have zg11 := g11.size
      refine S_val (Y_pickT rfl rfl) ?_
      refine S_val (Y_assign rfl) ?_
      refine S_nl rfl rfl ?_
      refine th_n (hK12 _ _ ?_)
      clear hK12 K12
      refine wp_ret ?_
      refine th_r ?_
      clear hK10 K10
      refine ret_r1 rfl rfl ?_  -- r2
      first | exact ⟨rfl, G⟩ | exact ⟨vB (sameV_of hvX9 hv9 hview), G⟩
     · -- g2F
      replace hb5 := nb_tf hb5
      exact absurd rfl hb5
    · -- c3F
     replace hb4 := nb_tf hb4
     have hcv : cvalB h ys = true := by
       cases hv : cvalB h ys with
       | true => rfl
       | false => rw [cycleV_f hv] at hb4; exact absurd (show (-1 : Int) < 0 by decide) hb4
     have hv9 := cval_valid hcv
     have va := valid_iff.1 hv9
     have hcy := cycleV_t hcv
     have hXs : hX = cycH h h.cells.length := by rw [hXe, hcy]
     have hvX : Valid hX := by rw [hXs]; exact cycH_valid va _
     have hvX9 := valid_iff.2 hvX
     have hzz : zs = countsV hX := by rw [hzs, hcy, countsV_t hvX9, hXs]; dsimp only; rw [cycH_len]
     have hnX : ∀ i, ¬ Lost hX i := fun i => by rw [hXs]; exact cyc_none va i
     have hus := used_live hvX hnX
     have hcx : cvalB hX zs = true := by rw [cvalB_t hvX9, hzz]; exact decide_eq_true rfl
     have hview : viewV hX = viewV h := by rw [hXs]; exact cyc_view va _
     have h2n : (cycleV h ys).2 = (((leakV h).length : Nat) : Int) := by rw [hcy, leakV_eq va, ← cyc_len va]
     refine wp_skip ?_
     refine th_n (hK10 _ _ ?_)
     clear hK10 K10
     refine wp_seq_k fun K13 hK13 => ?_
     refine Sb 69 rfl ?_  -- 10
     refine S_val (Y_field Try.underlying28 rfl fz28_0 (by decide) rfl) ?_
     refine S_val (Y_loadS Try.underlying26 rfl sz26 rfl (CellsAt.of_blk (pre := []) (us := [_, _]) (post := [_]) B5 rfl)) ?_  -- l5
     refine S_call rfl en10 (impl_UsedCells_c _ _ _ hX _ _ _ hXA hXB (by omega)) ?_  -- k6 impl.UsedCells
     rintro v12 w12 ⟨rfl, g12⟩
     replace hA := hA.grow g12
     replace hDA := hDA.grow g12
     replace hDB := hDB.grow g12
     replace hDY := hDY.grow g12
     replace hXA := hXA.grow g12
     replace hXB := hXB.grow g12
     replace hXC := hXC.grow g12
     replace hYA := hYA.grow g12
     replace hYB := hYB.grow g12
     replace hYC := hYC.grow g12
     replace G := G.grow g12
     replace B2 := B2.grow g12
     replace B5 := B5.grow g12
     replace B8 := B8.grow g12
     have zg12 := g12.size
     refine S_val (Y_move rfl) ?_
     refine S_val (Y_extract rfl rfl) ?_
     refine S_val (Y_extract rfl rfl) ?_
     refine S_val (Y_assign rfl) ?_
     refine S_val (Y_assign rfl) ?_
     refine S_nl rfl rfl ?_
     refine th_n (hK13 _ _ ?_)
     clear hK13 K13
     refine wp_seq_k fun K14 hK14 => ?_
     refine Sb 69 rfl ?_  -- 11
     refine S_val (Y_loadS Try.underlying28 rfl sz28 rfl (B5.row (by rfl))) ?_  -- l6
     refine S_call rfl en11 (impl_CountedValid_c _ _ _ _ hX zs _ _ _ _ hXA hXB hXC (by omega) (by omega)) ?_  -- k7 impl.CountedValid
     rintro v13 w13 ⟨rfl, g13⟩
     replace hA := hA.grow g13
     replace hDA := hDA.grow g13
     replace hDB := hDB.grow g13
     replace hDY := hDY.grow g13
     replace hXA := hXA.grow g13
     replace hXB := hXB.grow g13
     replace hXC := hXC.grow g13
     replace hYA := hYA.grow g13
     replace hYB := hYB.grow g13
     replace hYC := hYC.grow g13
     replace G := G.grow g13
     replace B2 := B2.grow g13
     replace B5 := B5.grow g13
     replace B8 := B8.grow g13
     have zg13 := g13.size
     refine S_val (Y_move rfl) ?_
     refine S_g 49 rfl (fun hb5 => ?_) (fun hb5 => ?_)  -- g3
     · -- g3T
      first | with_reducible (replace hb5 := nb_nt hb5) | with_reducible (replace hb5 := nb_tt hb5) | with_reducible (replace hb5 := nb_bt hb5) | skip
      refine S_on rfl rfl ?_
      refine S_val (Y_move rfl) ?_
      refine S_on rfl rfl ?_
      refine S_val (Y_move rfl) ?_
      refine S_on rfl rfl ?_
      refine S_val (Y_eql rfl rfl) ?_
      refine S_val (Y_pickT rfl rfl) ?_
      refine S_val (Y_move rfl) ?_
      refine S_g 54 rfl (fun hb6 => ?_) (fun hb6 => ?_)  -- g4
      · -- g4T
       first | with_reducible (replace hb6 := nb_nt hb6) | with_reducible (replace hb6 := nb_tt hb6) | with_reducible (replace hb6 := nb_bt hb6) | skip
       refine S_on rfl rfl ?_
       refine S_val (Y_move rfl) ?_
       refine S_on rfl rfl ?_
       refine S_val (Y_field Try.underlying28 rfl fz28_0 (by decide) rfl) ?_
       refine S_on rfl rfl ?_
       refine S_val (Y_loadS Try.underlying26 rfl sz26 rfl (CellsAt.of_blk (pre := []) (us := [_, _]) (post := [_]) B2 rfl)) ?_  -- l7
       refine S_on rfl rfl ?_
       refine S_call rfl en12 (impl_LeakedCells_c _ _ _ _ _ _ _ (by assumption) (by assumption) (by omega)) ?_  -- k8 impl.LeakedCells
       rintro v14 w14 ⟨A14, q14, cap14, rfl, hq14, O14, g14⟩
       replace hA := hA.grow g14
       replace hDA := hDA.grow g14
       replace hDB := hDB.grow g14
       replace hDY := hDY.grow g14
       replace hXA := hXA.grow g14
       replace hXB := hXB.grow g14
       replace hXC := hXC.grow g14
       replace hYA := hYA.grow g14
       replace hYB := hYB.grow g14
       replace hYC := hYC.grow g14
       replace G := G.grow g14
       replace B2 := B2.grow g14
       replace B5 := B5.grow g14
       replace B8 := B8.grow g14
       have zg14 := g14.size
       subst hq14
       refine S_on rfl rfl ?_
       refine S_val (Y_len Try.underlying24 rfl) ?_
       refine S_on rfl rfl ?_
       refine S_val (Y_eql rfl rfl) ?_
       refine S_val (Y_pickT rfl rfl) ?_
       refine S_val (Y_move rfl) ?_
       refine S_g 62 rfl (fun hb7 => ?_) (fun hb7 => ?_)  -- g5
       · -- g5T
        first | with_reducible (replace hb7 := nb_nt hb7) | with_reducible (replace hb7 := nb_tt hb7) | with_reducible (replace hb7 := nb_bt hb7) | skip
        refine S_on rfl rfl ?_
        refine S_val (Y_field Try.underlying28 rfl fz28_0 (by decide) rfl) ?_
        refine S_on rfl rfl ?_
        refine S_val (Y_loadS Try.underlying26 rfl sz26 rfl (CellsAt.of_blk (pre := []) (us := [_, _]) (post := [_]) B5 rfl)) ?_  -- l8
        refine S_on rfl rfl ?_
        refine S_val (Y_field Try.underlying28 rfl fz28_0 (by decide) rfl) ?_
        refine S_on rfl rfl ?_
        refine S_val (Y_loadS Try.underlying26 rfl sz26 rfl (CellsAt.of_blk (pre := []) (us := [_, _]) (post := [_]) B2 rfl)) ?_  -- l9
        refine S_on rfl rfl ?_
        refine S_call rfl en13 (impl_SameView_c _ _ _ _ _ _ hX h _ _ _ _ _ hXA hXB hDA hDB (by omega) (by omega)) ?_  -- k9 impl.SameView
        rintro v15 w15 ⟨rfl, g15⟩
        replace hA := hA.grow g15
        replace hDA := hDA.grow g15
        replace hDB := hDB.grow g15
        replace hDY := hDY.grow g15
        replace hXA := hXA.grow g15
        replace hXB := hXB.grow g15
        replace hXC := hXC.grow g15
        replace hYA := hYA.grow g15
        replace hYB := hYB.grow g15
        replace hYC := hYC.grow g15
        replace G := G.grow g15
        replace B2 := B2.grow g15
        replace B5 := B5.grow g15
        replace B8 := B8.grow g15
        have zg15 := g15.size
        refine S_val (Y_pickT rfl rfl) ?_
        refine S_val (Y_assign rfl) ?_
        refine S_nl rfl rfl ?_
        refine th_n (hK14 _ _ ?_)
        clear hK14 K14
        refine wp_ret ?_
        refine ret_r1 rfl rfl ?_  -- r3
        first | exact ⟨rfl, G⟩ | exact ⟨vB (sameV_of hvX9 hv9 hview), G⟩
       · -- g5F
        first | with_reducible (replace hb7 := nb_nf hb7) | with_reducible (replace hb7 := nb_tf hb7) | with_reducible (replace hb7 := nb_bf hb7) | skip
        exact absurd h2n hb7
      · -- g4F
       first | with_reducible (replace hb6 := nb_nf hb6) | with_reducible (replace hb6 := nb_tf hb6) | with_reducible (replace hb6 := nb_bf hb6) | skip
       exact absurd hus hb6
     · -- g3F
      first | with_reducible (replace hb5 := nb_nf hb5) | with_reducible (replace hb5 := nb_tf hb5) | with_reducible (replace hb5 := nb_bf hb5) | skip
      rw [hcx] at hb5; cases hb5

end Go.Proofs.Ytdlmjmcddafojaa
