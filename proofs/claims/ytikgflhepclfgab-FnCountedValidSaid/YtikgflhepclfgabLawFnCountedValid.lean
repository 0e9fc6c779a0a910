/-
  The law FnCountedValid returns true.
  Conditions: those that each theorem states.
-/
import Derived.Test.YtikgflhepclfgabQe5
set_option linter.unusedVariables false
set_option linter.unusedSimpArgs false
namespace Go.Proofs.Ytikgflhepclfgab
open Go Go.RowKit
attribute [local irreducible] wpList wpAnyH Code.wp dOp

theorem CountedValid_p (Pr : Nat → Prop) (A B C : Option Addr) (h : LH) (xs : List Int) (c d e n : Nat) (w : World) (hA : RC Pr w A h.cells) (hB : R1 Pr w B (ints h.roots)) (hC : R1 Pr w C (ints xs)) (hz : hsize h ≤ 1048576) (hxz : xs.length ≤ 1048576) (hn : n = xs.length) :
    Calls Try.prog 35 #[.agg #[.slice A h.cells.length c, .slice B h.roots.length d, .slice C n e]] w (Ret fun v w' => v = .bool (cvalB h xs) ∧ Grow w w') := by
  subst hn
  exact impl_CountedValid_c Pr A B C h xs c d e w hA hB hC hz hxz
theorem counts_more {h : LH} {ys : List Int} (hc : cvalB h ys = true) (h0 : 0 < ys.length) : cvalB h (ys.set 0 (ys[0] + 1)) = false := by
  have hv : validB h = true := by
    cases hv : validB h with
    | true => rfl
    | false => rw [cvalB_f hv] at hc; cases hc
  rw [cvalB_t hv] at hc
  refine cvalB_ne (fun e => ?_)
  have e2 := e.trans (of_decide_eq_true hc).symm
  have e3 : (ys.set 0 (ys[0] + 1))[0]? = ys[0]? := by rw [e2]
  rw [List.getElem?_set_self h0, List.getElem?_eq_getElem h0] at e3
  have := Option.some.inj e3
  omega


set_option maxHeartbeats 2000000 in
set_option maxRecDepth 20000 in
theorem laws_FnCountedValid_c (Pr : Nat → Prop) (A : Option Addr) (xs : List Int) (c : Nat) (w : World) (hA : R1 Pr w A (u8s xs)) (hn : xs.length ≤ 9223372036854775807) (hcap : xs.length ≤ c) (hrg : ∀ y ∈ xs, 0 ≤ y ∧ y ≤ 255) :
    Calls Try.prog 6 #[.slice A xs.length c] w (Ret fun v w' => v = .bool true ∧ Grow w w') := by
 refine enter Try.func6 rfl Try.ntmps6 (L := [_,_,_,_,_,_,_,_,_,_,_,_,_,_,_,_,_,_,_,_,_,_,_,_,_,_,_,_,_,_,_,_,_,_,_,_,_,_,_,_,_,_,_,_]) rfl ?_
 have G := Mod.refl No w
 have hA0 := hA
 refine wp_seq_k fun K1 hK1 => ?_
 refine Sb 44 rfl ?_  -- 0
 refine S_val (Y_assign rfl) ?_
 refine S_nl rfl rfl ?_
 refine th_n (hK1 _ _ ?_)
 clear hK1 K1
 refine wp_seq_k fun K2 hK2 => ?_
 refine wp_seq_k fun K3 hK3 => ?_
 refine Sb 44 rfl ?_  -- 1
 refine S_val (Y_move rfl) ?_
 refine S_val (Y_len Try.underlying22 rfl) ?_
 refine S_val (Y_gtr rfl rfl) ?_
 refine S_nl rfl rfl ?_
 refine th_n (hK3 _ _ ?_)
 clear hK3 K3
 refine S_if rfl (fun hb1 => ?_) (fun hb1 => ?_)  -- c1
 · -- c1T
  replace hb1 := nb_tt hb1
  refine wp_seq_k fun K4 hK4 => ?_
  refine Sb 44 rfl ?_  -- 2
  refine S_val (Y_assign rfl) ?_
  refine S_nl rfl rfl ?_
  refine th_n (hK4 _ _ ?_)
  clear hK4 K4
  refine wp_ret ?_
  refine th_r ?_
  clear hK2 K2
  refine ret_r1 rfl rfl ?_  -- r1
  first | exact ⟨rfl, G⟩ | exact ⟨vN (counts_more hcv h0), G⟩
 · -- c1F
  replace hb1 := nb_tf hb1
  have hx : xs.length ≤ 1048576 := by omega
  refine wp_skip ?_
  refine th_n (hK2 _ _ ?_)
  clear hK2 K2
  refine wp_seq_k fun K5 hK5 => ?_
  refine Sb 44 rfl ?_  -- 3
  refine S_val (Y_move rfl) ?_
  refine S_call rfl en34 (spec_DrawCountedValid_c _ _ _ _ _ (by assumption) (by omega) (by omega) (by assumption)) ?_  -- k1 spec.DrawCountedValid
  rintro v1 w1 ⟨hD1, ys1, A1, B1, C1, n11, c11, n21, c21, n31, c31, rfl, hn11, hn21, hn31, hz1, hy1, RC1, RR1, RY1, g1⟩
  replace hA := hA.grow g1
  replace G := G.grow g1
  have zg1 := g1.size
  subst hn11
  subst hn21
  subst hn31
  obtain ⟨h, rfl⟩ : ∃ x, x = hD1 := ⟨_, rfl⟩
  obtain ⟨ys, rfl⟩ : ∃ x, x = ys1 := ⟨_, rfl⟩
  have hzD := hz1
  have hzcD := hsize_cells h
  have hyD := hy1
  have hDA := RC1.below
  have hDB := RR1.below
  have hDY := RY1.below
  have hcl := countsV_len h
  refine S_alloc (cs := [_, _, _]) zr46 rfl ?_
  intro b2 w2 fb2 g2 B2
  have lb2 := B2.lt
  replace hA := hA.grow g2
  replace hDA := hDA.grow g2
  replace hDB := hDB.grow g2
  replace hDY := hDY.grow g2
  replace G := G.grow g2
  have zg2 := g2.size
  refine S_stM (pre := []) (old := [_, _, _]) (post := []) (vs := [_, _, _]) sz46 rfl rfl rfl (by first | rfl | assumption) B2 rfl rfl ?_
  intro w3 m3 X3
  replace B2 := Blk.eq (ys := [_, _, _]) X3 rfl
  clear X3
  replace G := G.abv m3
  replace hA := hA0.grow G
  replace hDA := hDA.md m3
  replace hDB := hDB.md m3
  replace hDY := hDY.md m3
  have zm3 := m3.size
  refine S_nl rfl rfl ?_
  refine th_n (hK5 _ _ ?_)
  clear hK5 K5
  refine wp_seq_k fun K6 hK6 => ?_
  refine Sb 44 rfl ?_  -- 4
  refine S_val (Y_loadS Try.underlying46 rfl sz46 rfl (B2.row (by rfl))) ?_  -- l1
  refine S_call rfl en35 (impl_CountedValid_c _ _ _ _ h ys _ _ _ _ hDA hDB hDY (by omega) (by omega)) ?_  -- k2 impl.CountedValid
  rintro v4 w4 ⟨rfl, g4⟩
  replace hA := hA.grow g4
  replace hDA := hDA.grow g4
  replace hDB := hDB.grow g4
  replace hDY := hDY.grow g4
  replace G := G.grow g4
  replace B2 := B2.grow g4
  have zg4 := g4.size
  refine S_val (Y_assign rfl) ?_
  refine S_nl rfl rfl ?_
  refine th_n (hK6 _ _ ?_)
  clear hK6 K6
  refine wp_seq_k fun K7 hK7 => ?_
  refine wp_seq_k fun K8 hK8 => ?_
  refine Sb 44 rfl ?_  -- 5
  refine S_val (Y_move rfl) ?_
  refine S_val (Y_loadS Try.underlying46 rfl sz46 rfl (B2.row (by rfl))) ?_  -- l2
  refine S_call rfl en36 (spec_CountedValid_c _ _ _ _ h ys _ _ _ _ hDA hDB hDY (by omega) (by omega)) ?_  -- k3 spec.CountedValid
  rintro v5 w5 ⟨rfl, g5⟩
  replace hA := hA.grow g5
  replace hDA := hDA.grow g5
  replace hDB := hDB.grow g5
  replace hDY := hDY.grow g5
  replace G := G.grow g5
  replace B2 := B2.grow g5
  have zg5 := g5.size
  refine S_val (Y_neb Try.underlying4 rfl rfl) ?_
  refine S_nl rfl rfl ?_
  refine th_n (hK8 _ _ ?_)
  clear hK8 K8
  refine S_if rfl (fun hb2 => ?_) (fun hb2 => ?_)  -- c2
  · -- c2T
   replace hb2 := nb_nt hb2
   first | exact absurd rfl hb2 | (simp at hb2; done)
  · -- c2F
   replace hb2 := nb_nf hb2
   refine wp_skip ?_
   refine th_n (hK7 _ _ ?_)
   clear hK7 K7
   refine wp_seq_k fun K9 hK9 => ?_
   refine wp_seq_k fun K10 hK10 => ?_
   refine Sb 44 rfl ?_  -- 7
   refine S_val (Y_move rfl) ?_
   refine S_val (Y_not rfl) ?_
   refine S_val (Y_move rfl) ?_
   refine S_g 19 rfl (fun hb3 => ?_) (fun hb3 => ?_)  -- g1
   · -- g1T
    first | with_reducible (replace hb3 := nb_nt hb3) | with_reducible (replace hb3 := nb_tt hb3) | with_reducible (replace hb3 := nb_bt hb3) | skip
    refine S_off rfl rfl ?_
    refine S_off rfl rfl ?_
    refine S_off rfl rfl ?_
    refine S_off rfl rfl ?_
    refine S_val (Y_pickT rfl rfl) ?_
    refine S_nl rfl rfl ?_
    refine th_n (hK10 _ _ ?_)
    clear hK10 K10
    refine S_ifT rfl ?_
    refine wp_seq_k fun K11 hK11 => ?_
    refine Sb 44 rfl ?_  -- 8
    refine S_call rfl en20 (laws_alive_c _) ?_  -- k4 laws.alive
    rintro v6 w6 ⟨rfl, g6⟩
    replace hA := hA.grow g6
    replace hDA := hDA.grow g6
    replace hDB := hDB.grow g6
    replace hDY := hDY.grow g6
    replace G := G.grow g6
    replace B2 := B2.grow g6
    have zg6 := g6.size
    refine S_val (Y_assign rfl) ?_
    refine S_nl rfl rfl ?_
    refine th_n (hK11 _ _ ?_)
    clear hK11 K11
    refine wp_ret ?_
    refine th_r ?_
    clear hK9 K9
    refine ret_r1 rfl rfl ?_  -- r2
    first | exact ⟨rfl, G⟩ | exact ⟨vN (counts_more hcv h0), G⟩
   · -- g1F
    first | with_reducible (replace hb3 := nb_nf hb3) | with_reducible (replace hb3 := nb_tf hb3) | with_reducible (replace hb3 := nb_bf hb3) | skip
    have hcv : cvalB h ys = true := by first | assumption | simpa using hb3
    refine S_on rfl rfl ?_
    refine S_val (Y_field Try.underlying46 rfl fz46_1 (by decide) rfl) ?_
    refine S_on rfl rfl ?_
    refine S_val (Y_load Try.underlying24 rfl rfl (B2.at (by rfl))) ?_  -- l3
    refine S_on rfl rfl ?_
    refine S_val (Y_len Try.underlying24 rfl) ?_
    refine S_on rfl rfl ?_
    refine S_val (Y_eql rfl rfl) ?_
    refine S_val (Y_pickF rfl rfl) ?_
    refine S_nl rfl rfl ?_
    refine th_n (hK10 _ _ ?_)
    clear hK10 K10
    refine S_if rfl (fun hb4 => ?_) (fun hb4 => ?_)  -- c3
    · -- c3T
     first | with_reducible (replace hb4 := nb_nt hb4) | with_reducible (replace hb4 := nb_tt hb4) | with_reducible (replace hb4 := nb_bt hb4) | skip
     refine wp_seq_k fun K12 hK12 => ?_
     refine Sb 44 rfl ?_  -- 8
     refine S_call rfl en20 (laws_alive_c _) ?_  -- k5 laws.alive
     rintro v7 w7 ⟨rfl, g7⟩
     replace hA := hA.grow g7
     replace hDA := hDA.grow g7
     replace hDB := hDB.grow g7
     replace hDY := hDY.grow g7
     replace G := G.grow g7
     replace B2 := B2.grow g7
     have zg7 := g7.size
     refine S_val (Y_assign rfl) ?_
     refine S_nl rfl rfl ?_
     refine th_n (hK12 _ _ ?_)
     clear hK12 K12
     refine wp_ret ?_
     refine th_r ?_
     clear hK9 K9
     refine ret_r1 rfl rfl ?_  -- r3
     first | exact ⟨rfl, G⟩ | exact ⟨vN (counts_more hcv h0), G⟩
    · -- c3F
     first | with_reducible (replace hb4 := nb_nf hb4) | with_reducible (replace hb4 := nb_tf hb4) | with_reducible (replace hb4 := nb_bf hb4) | skip
     have h0 : 0 < ys.length := by omega
     have hyr : 0 ≤ ys[0] ∧ ys[0] ≤ 124 := countsV_rg (h := h) _ (by have h9 := hcv; rw [cvalB_t (cval_valid hcv)] at h9; rw [← of_decide_eq_true h9]; exact List.getElem_mem h0)
     refine wp_skip ?_
     refine th_n (hK9 _ _ ?_)
     clear hK9 K9
     refine wp_seq_k fun K13 hK13 => ?_
     refine D_start 9 44 (fun w => Mod (No) w) follows rfl rfl ?_  -- d1 r9
     intro w8 g8
     replace hA := hA.grow g8
     replace hDA := hDA.grow g8
     replace hDB := hDB.grow g8
     replace hDY := hDY.grow g8
     replace G := G.grow g8
     replace B2 := B2.grow g8
     have zg8 := g8.size
     have GS8 := Mod.refl (No) w8
     have B2d8 := B2
     refine Dq (i := 0) rfl GS8 (fun _ _ => Y_field Try.underlying46 rfl fz46_0 (by decide) rfl) ?_
     refine Dq (i := 1) rfl GS8 (fun _ hs => Y_loadS Try.underlying26 rfl sz26 rfl (by first | exact hs.cells0 ((CellsAt.of_blk (pre := []) (us := [_, _]) (post := [_]) B2 rfl)))) ?_
     refine Dq (i := 3) rfl GS8 (fun _ _ => Y_field Try.underlying46 rfl fz46_1 (by decide) rfl) ?_
     refine Dq (i := 4) rfl GS8 (fun _ hs => Y_load Try.underlying24 rfl rfl (hs.cell0 (B2.at (by rfl)))) ?_
     refine D_2 (i := 2) (j := 7) (by kernel_rfl) ?_ ?_
     · -- operation 2 comes up
      refine E_bs0 (i := 2) rfl Try.underlying24 sz3 ?_
      intro b9 w9 fb9 g9 B9
      refine ⟨GS8.grow g9, ?_⟩
      have lb9 := B9.lt
      replace hA := hA.grow g9
      replace hDA := hDA.grow g9
      replace hDB := hDB.grow g9
      replace hDY := hDY.grow g9
      replace G := G.grow g9
      replace GS8 := GS8.grow g9
      replace B2 := B2.grow g9
      have zg9 := g9.size
      refine D_2 (i := 5) (j := 7) (by kernel_rfl) ?_ ?_
      · -- operation 5 comes up
       obtain ⟨loZ, hloZ⟩ : ∃ x, x = w9.heap.size := ⟨_, rfl⟩
       have OY : OW (fun i => i = b9) w9 3 1 (some ⟨b9, 0, none⟩) 0 0 [] := OW.of_blk B9 rfl (by decide) rfl
       refine E_app0 (i := 5) rfl (news := ints ys) Try.underlying24 zr3 sz3 by3 rfl rfl OY (by rw [ints_len]; omega) (by have hsr := Src.r1 hDY; rw [ints_len] at hsr; exact hsr) ints_one (by omega) (Pr' := fun i => i = b9 ∨ loZ ≤ i) (fun i hi => .inl hi) (by first | omega | (dsimp only; omega)) ?_
       intro A10 cap10 w10 X10 m10
       obtain ⟨hiZ, hhiZ⟩ : ∃ x, x = w10.heap.size := ⟨_, rfl⟩
       replace OY := (X10.oi.lt).weak (Pr' := fun i => (i = b9 ∨ loZ ≤ i) ∧ i < hiZ) (fun i hi => ⟨hi.1, by have h9 := hi.2; omega⟩)
       clear X10
       replace G := G.abv m10
       replace GS8 := GS8.abv m10
       replace hA := hA0.grow G
       replace hDA := hDA.md m10
       replace hDB := hDB.md m10
       replace hDY := hDY.md m10
       replace B2 := B2.md m10
       have zm10 := m10.size
       obtain ⟨bS, postS, eS, hpS, _⟩ := OY (ints_nz h0)
       subst eS
       try dsimp only at hpS
       refine ⟨GS8, ?_⟩
       refine Dq (i := 6) rfl GS8 (fun _ _ => Y_build (cs := [_, _, _]) zr46 pc46 rfl rfl) ?_
       refine D_1 (i := 7) (by kernel_rfl) ?_
       refine E_alloc (cs := [_, _, _]) rfl zr46 rfl (fun b11 w11 fb11 g11 B11 => ⟨GS8.grow g11, ?_⟩)
       have lb11 := B11.lt
       replace hA := hA.grow g11
       replace hDA := hDA.grow g11
       replace hDB := hDB.grow g11
       replace hDY := hDY.grow g11
       replace OY := OY.grow g11
       replace G := G.grow g11
       replace GS8 := GS8.grow g11
       replace B2 := B2.grow g11
       have zg11 := g11.size
       refine D_1 (i := 8) (by kernel_rfl) ?_
       refine E_stM (pre := []) (old := [_, _, _]) (post := []) (vs := [_, _, _]) (i := 8) rfl sz46 rfl rfl rfl (by first | rfl | assumption) B11 rfl rfl ?_
       intro w12 m12 X12
       replace B11 := Blk.eq (ys := [_, _, _]) X12 rfl
       clear X12
       replace G := G.abv m12
       replace GS8 := GS8.abv m12
       replace hA := hA0.grow G
       replace hDA := hDA.md m12
       replace hDB := hDB.md m12
       replace hDY := hDY.md m12
       replace OY := OY.md m12
       replace B2 := B2.md m12
       have zm12 := m12.size
       refine ⟨GS8, ?_⟩
       refine D_en (by kernel_rfl) rfl rfl ?_
       refine th_n (hK13 _ _ ?_)
       clear hK13 K13
       refine wp_seq_k fun K14 hK14 => ?_
       refine D_start 9 44 (fun w => Mod (fun i => i = bS) w) follows rfl rfl ?_  -- d2 r10
       intro w13 g13
       replace hA := hA.grow g13
       replace hDA := hDA.grow g13
       replace hDB := hDB.grow g13
       replace hDY := hDY.grow g13
       replace OY := OY.grow g13
       replace G := G.grow g13
       replace B2 := B2.grow g13
       replace B11 := B11.grow g13
       have zg13 := g13.size
       have GS13 := Mod.refl (fun i => i = bS) w13
       obtain ⟨g5, o5, e5, hp5, hc5⟩ := OY.r1.int (k := 0) h0
       cases e5
       refine Dq (i := 0) rfl GS13 (fun _ _ => Y_field Try.underlying46 rfl fz46_1 (by decide) rfl) ?_
       refine Dq (i := 1) rfl GS13 (fun _ hs => Y_load Try.underlying24 rfl rfl (by first | exact hs.cell (B11.at (by rfl)) (by intro h; first | omega | (dsimp only at h; omega)))) ?_
       refine Dq (i := 2) rfl GS13 (fun _ _ => Y_field Try.underlying46 rfl fz46_1 (by decide) rfl) ?_
       refine Dq (i := 3) rfl GS13 (fun _ hs => Y_load Try.underlying24 rfl rfl (by first | exact hs.cell (B11.at (by rfl)) (by intro h; first | omega | (dsimp only at h; omega)))) ?_
       refine Dq (i := 4) rfl GS13 (fun _ _ => Y_index (i := 0) Try.underlying24 sz3 rfl rfl (by first | assumption | omega)) ?_
       refine D_1 (i := 5) (by kernel_rfl) ?_
       refine E_val (i := 5) rfl (Y_load Try.underlying3 rfl rfl hc5) GS13 ?_
       refine Dq (i := 6) rfl GS13 (fun _ _ => Y_add (c := ys[0] + 1) rfl rfl rfl (by omega) (by omega)) ?_
       refine Dq (i := 7) rfl GS13 (fun _ _ => Y_index (i := 0) Try.underlying24 sz3 rfl rfl (by first | assumption | omega)) ?_
       refine D_1 (i := 8) (by kernel_rfl) ?_
       refine E_of (i := 8) rfl (Ys_row sz3 OY (k := 0) (by rw [ints_len]; omega) rfl rfl rfl rfl) ?_
       rintro w15 ⟨m15, hp15, OZ⟩
       try dsimp only at hp15
       replace G := G.abv m15
       replace GS13 := GS13.trn m15
       replace hA := hA0.grow G
       replace hDA := hDA.md m15
       replace hDB := hDB.md m15
       replace hDY := hDY.md m15
       replace B2 := B2.md m15
       replace B11 := B11.md m15
       have zm15 := m15.size
       rw [ints_set] at OZ
       replace OY := OZ
       clear OZ
       refine ⟨GS13, ?_⟩
       refine D_en (by kernel_rfl) rfl rfl ?_
       refine th_n (hK14 _ _ ?_)
       clear hK14 K14
       refine wp_seq_k fun K15 hK15 => ?_
       refine Sb 44 rfl ?_  -- 11
       refine S_val (Y_loadS Try.underlying46 rfl sz46 rfl (B11.row (by rfl))) ?_  -- l8
       refine S_call rfl en35 (CountedValid_p (fun _ => True) _ _ _ h (ys.set 0 (ys[0] + 1)) _ _ _ _ _ (hDA.weak (fun _ _ => trivial)) (hDB.weak (fun _ _ => trivial)) (OY.r1.weak (fun _ _ => trivial)) (by omega) (by rw [List.length_set]; omega) (by rw [List.length_set])) ?_  -- k6 impl.CountedValid
       rintro v16 w16 ⟨rfl, g16⟩
       replace hA := hA.grow g16
       replace hDA := hDA.grow g16
       replace hDB := hDB.grow g16
       replace hDY := hDY.grow g16
       replace OY := OY.grow g16
       replace G := G.grow g16
       replace B2 := B2.grow g16
       replace B11 := B11.grow g16
       have zg16 := g16.size
       refine S_val (Y_not rfl) ?_
       refine S_val (Y_assign rfl) ?_
       refine S_nl rfl rfl ?_
       refine th_n (hK15 _ _ ?_)
       clear hK15 K15
       refine wp_ret ?_
       refine ret_r1 rfl rfl ?_  -- r4
       first | exact ⟨rfl, G⟩ | exact ⟨vN (counts_more hcv h0), G⟩
      · -- operation 7 comes up
       refine E_alloc (cs := [_, _, _]) rfl zr46 rfl (fun b17 w17 fb17 g17 B17 => ⟨GS8.grow g17, ?_⟩)
       have lb17 := B17.lt
       replace hA := hA.grow g17
       replace hDA := hDA.grow g17
       replace hDB := hDB.grow g17
       replace hDY := hDY.grow g17
       replace G := G.grow g17
       replace GS8 := GS8.grow g17
       replace B2 := B2.grow g17
       replace B9 := B9.grow g17
       have zg17 := g17.size
       refine D_1 (i := 5) (by kernel_rfl) ?_
       obtain ⟨loZ, hloZ⟩ : ∃ x, x = w17.heap.size := ⟨_, rfl⟩
       have OY : OW (fun i => i = b9) w17 3 1 (some ⟨b9, 0, none⟩) 0 0 [] := OW.of_blk B9 rfl (by decide) rfl
       refine E_app0 (i := 5) rfl (news := ints ys) Try.underlying24 zr3 sz3 by3 rfl rfl OY (by rw [ints_len]; omega) (by have hsr := Src.r1 hDY; rw [ints_len] at hsr; exact hsr) ints_one (by omega) (Pr' := fun i => i = b9 ∨ loZ ≤ i) (fun i hi => .inl hi) (by first | omega | (dsimp only; omega)) ?_
       intro A18 cap18 w18 X18 m18
       obtain ⟨hiZ, hhiZ⟩ : ∃ x, x = w18.heap.size := ⟨_, rfl⟩
       replace OY := (X18.oi.lt).weak (Pr' := fun i => (i = b9 ∨ loZ ≤ i) ∧ i < hiZ) (fun i hi => ⟨hi.1, by have h9 := hi.2; omega⟩)
       clear X18
       replace G := G.abv m18
       replace GS8 := GS8.abv m18
       replace hA := hA0.grow G
       replace hDA := hDA.md m18
       replace hDB := hDB.md m18
       replace hDY := hDY.md m18
       replace B2 := B2.md m18
       replace B17 := B17.md m18
       have zm18 := m18.size
       obtain ⟨bS, postS, eS, hpS, _⟩ := OY (ints_nz h0)
       subst eS
       try dsimp only at hpS
       refine ⟨GS8, ?_⟩
       refine Dq (i := 6) rfl GS8 (fun _ _ => Y_build (cs := [_, _, _]) zr46 pc46 rfl rfl) ?_
       refine D_1 (i := 8) (by kernel_rfl) ?_
       refine E_stM (pre := []) (old := [_, _, _]) (post := []) (vs := [_, _, _]) (i := 8) rfl sz46 rfl rfl rfl (by first | rfl | assumption) B17 rfl rfl ?_
       intro w19 m19 X19
       replace B17 := Blk.eq (ys := [_, _, _]) X19 rfl
       clear X19
       replace G := G.abv m19
       replace GS8 := GS8.abv m19
       replace hA := hA0.grow G
       replace hDA := hDA.md m19
       replace hDB := hDB.md m19
       replace hDY := hDY.md m19
       replace OY := OY.md m19
       replace B2 := B2.md m19
       have zm19 := m19.size
       refine ⟨GS8, ?_⟩
       refine D_en (by kernel_rfl) rfl rfl ?_
       refine th_n (hK13 _ _ ?_)
       clear hK13 K13
       refine wp_seq_k fun K16 hK16 => ?_
       refine D_start 9 44 (fun w => Mod (fun i => i = bS) w) follows rfl rfl ?_  -- d3 r10
       intro w20 g20
       replace hA := hA.grow g20
       replace hDA := hDA.grow g20
       replace hDB := hDB.grow g20
       replace hDY := hDY.grow g20
       replace OY := OY.grow g20
       replace G := G.grow g20
       replace B2 := B2.grow g20
       replace B17 := B17.grow g20
       have zg20 := g20.size
       have GS20 := Mod.refl (fun i => i = bS) w20
       obtain ⟨g5, o5, e5, hp5, hc5⟩ := OY.r1.int (k := 0) h0
       cases e5
       refine Dq (i := 0) rfl GS20 (fun _ _ => Y_field Try.underlying46 rfl fz46_1 (by decide) rfl) ?_
       refine Dq (i := 1) rfl GS20 (fun _ hs => Y_load Try.underlying24 rfl rfl (by first | exact hs.cell (B17.at (by rfl)) (by intro h; first | omega | (dsimp only at h; omega)))) ?_
       refine Dq (i := 2) rfl GS20 (fun _ _ => Y_field Try.underlying46 rfl fz46_1 (by decide) rfl) ?_
       refine Dq (i := 3) rfl GS20 (fun _ hs => Y_load Try.underlying24 rfl rfl (by first | exact hs.cell (B17.at (by rfl)) (by intro h; first | omega | (dsimp only at h; omega)))) ?_
       refine Dq (i := 4) rfl GS20 (fun _ _ => Y_index (i := 0) Try.underlying24 sz3 rfl rfl (by first | assumption | omega)) ?_
       refine D_1 (i := 5) (by kernel_rfl) ?_
       refine E_val (i := 5) rfl (Y_load Try.underlying3 rfl rfl hc5) GS20 ?_
       refine Dq (i := 6) rfl GS20 (fun _ _ => Y_add (c := ys[0] + 1) rfl rfl rfl (by omega) (by omega)) ?_
       refine Dq (i := 7) rfl GS20 (fun _ _ => Y_index (i := 0) Try.underlying24 sz3 rfl rfl (by first | assumption | omega)) ?_
       refine D_1 (i := 8) (by kernel_rfl) ?_
       refine E_of (i := 8) rfl (Ys_row sz3 OY (k := 0) (by rw [ints_len]; omega) rfl rfl rfl rfl) ?_
       rintro w22 ⟨m22, hp22, OZ⟩
       try dsimp only at hp22
       replace G := G.abv m22
       replace GS20 := GS20.trn m22
       replace hA := hA0.grow G
       replace hDA := hDA.md m22
       replace hDB := hDB.md m22
       replace hDY := hDY.md m22
       replace B2 := B2.md m22
       replace B17 := B17.md m22
       have zm22 := m22.size
       rw [ints_set] at OZ
       replace OY := OZ
       clear OZ
       refine ⟨GS20, ?_⟩
       refine D_en (by kernel_rfl) rfl rfl ?_
       refine th_n (hK16 _ _ ?_)
       clear hK16 K16
       refine wp_seq_k fun K17 hK17 => ?_
       refine Sb 44 rfl ?_  -- 11
       refine S_val (Y_loadS Try.underlying46 rfl sz46 rfl (B17.row (by rfl))) ?_  -- l11
       refine S_call rfl en35 (CountedValid_p (fun _ => True) _ _ _ h (ys.set 0 (ys[0] + 1)) _ _ _ _ _ (hDA.weak (fun _ _ => trivial)) (hDB.weak (fun _ _ => trivial)) (OY.r1.weak (fun _ _ => trivial)) (by omega) (by rw [List.length_set]; omega) (by rw [List.length_set])) ?_  -- k7 impl.CountedValid
       rintro v23 w23 ⟨rfl, g23⟩
       replace hA := hA.grow g23
       replace hDA := hDA.grow g23
       replace hDB := hDB.grow g23
       replace hDY := hDY.grow g23
       replace OY := OY.grow g23
       replace G := G.grow g23
       replace B2 := B2.grow g23
       replace B17 := B17.grow g23
       have zg23 := g23.size
       refine S_val (Y_not rfl) ?_
       refine S_val (Y_assign rfl) ?_
       refine S_nl rfl rfl ?_
       refine th_n (hK17 _ _ ?_)
       clear hK17 K17
       refine wp_ret ?_
       refine ret_r1 rfl rfl ?_  -- r5
       first | exact ⟨rfl, G⟩ | exact ⟨vN (counts_more hcv h0), G⟩
     · -- operation 7 comes up
      refine E_alloc (cs := [_, _, _]) rfl zr46 rfl (fun b24 w24 fb24 g24 B24 => ⟨GS8.grow g24, ?_⟩)
      have lb24 := B24.lt
      replace hA := hA.grow g24
      replace hDA := hDA.grow g24
      replace hDB := hDB.grow g24
      replace hDY := hDY.grow g24
      replace G := G.grow g24
      replace GS8 := GS8.grow g24
      replace B2 := B2.grow g24
      have zg24 := g24.size
      refine D_1 (i := 2) (by kernel_rfl) ?_
      refine E_bs0 (i := 2) rfl Try.underlying24 sz3 ?_
      intro b25 w25 fb25 g25 B25
      refine ⟨GS8.grow g25, ?_⟩
      have lb25 := B25.lt
      replace hA := hA.grow g25
      replace hDA := hDA.grow g25
      replace hDB := hDB.grow g25
      replace hDY := hDY.grow g25
      replace G := G.grow g25
      replace GS8 := GS8.grow g25
      replace B2 := B2.grow g25
      replace B24 := B24.grow g25
      have zg25 := g25.size
      refine D_1 (i := 5) (by kernel_rfl) ?_
      obtain ⟨loZ, hloZ⟩ : ∃ x, x = w25.heap.size := ⟨_, rfl⟩
      have OY : OW (fun i => i = b25) w25 3 1 (some ⟨b25, 0, none⟩) 0 0 [] := OW.of_blk B25 rfl (by decide) rfl
      refine E_app0 (i := 5) rfl (news := ints ys) Try.underlying24 zr3 sz3 by3 rfl rfl OY (by rw [ints_len]; omega) (by have hsr := Src.r1 hDY; rw [ints_len] at hsr; exact hsr) ints_one (by omega) (Pr' := fun i => i = b25 ∨ loZ ≤ i) (fun i hi => .inl hi) (by first | omega | (dsimp only; omega)) ?_
      intro A26 cap26 w26 X26 m26
      obtain ⟨hiZ, hhiZ⟩ : ∃ x, x = w26.heap.size := ⟨_, rfl⟩
      replace OY := (X26.oi.lt).weak (Pr' := fun i => (i = b25 ∨ loZ ≤ i) ∧ i < hiZ) (fun i hi => ⟨hi.1, by have h9 := hi.2; omega⟩)
      clear X26
      replace G := G.abv m26
      replace GS8 := GS8.abv m26
      replace hA := hA0.grow G
      replace hDA := hDA.md m26
      replace hDB := hDB.md m26
      replace hDY := hDY.md m26
      replace B2 := B2.md m26
      replace B24 := B24.md m26
      have zm26 := m26.size
      obtain ⟨bS, postS, eS, hpS, _⟩ := OY (ints_nz h0)
      subst eS
      try dsimp only at hpS
      refine ⟨GS8, ?_⟩
      refine Dq (i := 6) rfl GS8 (fun _ _ => Y_build (cs := [_, _, _]) zr46 pc46 rfl rfl) ?_
      refine D_1 (i := 8) (by kernel_rfl) ?_
      refine E_stM (pre := []) (old := [_, _, _]) (post := []) (vs := [_, _, _]) (i := 8) rfl sz46 rfl rfl rfl (by first | rfl | assumption) B24 rfl rfl ?_
      intro w27 m27 X27
      replace B24 := Blk.eq (ys := [_, _, _]) X27 rfl
      clear X27
      replace G := G.abv m27
      replace GS8 := GS8.abv m27
      replace hA := hA0.grow G
      replace hDA := hDA.md m27
      replace hDB := hDB.md m27
      replace hDY := hDY.md m27
      replace OY := OY.md m27
      replace B2 := B2.md m27
      have zm27 := m27.size
      refine ⟨GS8, ?_⟩
      refine D_en (by kernel_rfl) rfl rfl ?_
      refine th_n (hK13 _ _ ?_)
      clear hK13 K13
      refine wp_seq_k fun K18 hK18 => ?_
      refine D_start 9 44 (fun w => Mod (fun i => i = bS) w) follows rfl rfl ?_  -- d4 r10
      intro w28 g28
      replace hA := hA.grow g28
      replace hDA := hDA.grow g28
      replace hDB := hDB.grow g28
      replace hDY := hDY.grow g28
      replace OY := OY.grow g28
      replace G := G.grow g28
      replace B2 := B2.grow g28
      replace B24 := B24.grow g28
      have zg28 := g28.size
      have GS28 := Mod.refl (fun i => i = bS) w28
      obtain ⟨g5, o5, e5, hp5, hc5⟩ := OY.r1.int (k := 0) h0
      cases e5
      refine Dq (i := 0) rfl GS28 (fun _ _ => Y_field Try.underlying46 rfl fz46_1 (by decide) rfl) ?_
      refine Dq (i := 1) rfl GS28 (fun _ hs => Y_load Try.underlying24 rfl rfl (by first | exact hs.cell (B24.at (by rfl)) (by intro h; first | omega | (dsimp only at h; omega)))) ?_
      refine Dq (i := 2) rfl GS28 (fun _ _ => Y_field Try.underlying46 rfl fz46_1 (by decide) rfl) ?_
      refine Dq (i := 3) rfl GS28 (fun _ hs => Y_load Try.underlying24 rfl rfl (by first | exact hs.cell (B24.at (by rfl)) (by intro h; first | omega | (dsimp only at h; omega)))) ?_
      refine Dq (i := 4) rfl GS28 (fun _ _ => Y_index (i := 0) Try.underlying24 sz3 rfl rfl (by first | assumption | omega)) ?_
      refine D_1 (i := 5) (by kernel_rfl) ?_
      refine E_val (i := 5) rfl (Y_load Try.underlying3 rfl rfl hc5) GS28 ?_
      refine Dq (i := 6) rfl GS28 (fun _ _ => Y_add (c := ys[0] + 1) rfl rfl rfl (by omega) (by omega)) ?_
      refine Dq (i := 7) rfl GS28 (fun _ _ => Y_index (i := 0) Try.underlying24 sz3 rfl rfl (by first | assumption | omega)) ?_
      refine D_1 (i := 8) (by kernel_rfl) ?_
      refine E_of (i := 8) rfl (Ys_row sz3 OY (k := 0) (by rw [ints_len]; omega) rfl rfl rfl rfl) ?_
      rintro w30 ⟨m30, hp30, OZ⟩
      try dsimp only at hp30
      replace G := G.abv m30
      replace GS28 := GS28.trn m30
      replace hA := hA0.grow G
      replace hDA := hDA.md m30
      replace hDB := hDB.md m30
      replace hDY := hDY.md m30
      replace B2 := B2.md m30
      replace B24 := B24.md m30
      have zm30 := m30.size
      rw [ints_set] at OZ
      replace OY := OZ
      clear OZ
      refine ⟨GS28, ?_⟩
      refine D_en (by kernel_rfl) rfl rfl ?_
      refine th_n (hK18 _ _ ?_)
      clear hK18 K18
      refine wp_seq_k fun K19 hK19 => ?_
      refine Sb 44 rfl ?_  -- 11
      refine S_val (Y_loadS Try.underlying46 rfl sz46 rfl (B24.row (by rfl))) ?_  -- l14
      refine S_call rfl en35 (CountedValid_p (fun _ => True) _ _ _ h (ys.set 0 (ys[0] + 1)) _ _ _ _ _ (hDA.weak (fun _ _ => trivial)) (hDB.weak (fun _ _ => trivial)) (OY.r1.weak (fun _ _ => trivial)) (by omega) (by rw [List.length_set]; omega) (by rw [List.length_set])) ?_  -- k8 impl.CountedValid
      rintro v31 w31 ⟨rfl, g31⟩
      replace hA := hA.grow g31
      replace hDA := hDA.grow g31
      replace hDB := hDB.grow g31
      replace hDY := hDY.grow g31
      replace OY := OY.grow g31
      replace G := G.grow g31
      replace B2 := B2.grow g31
      replace B24 := B24.grow g31
      have zg31 := g31.size
      refine S_val (Y_not rfl) ?_
      refine S_val (Y_assign rfl) ?_
      refine S_nl rfl rfl ?_
      refine th_n (hK19 _ _ ?_)
      clear hK19 K19
      refine wp_ret ?_
      refine ret_r1 rfl rfl ?_  -- r6
      first | exact ⟨rfl, G⟩ | exact ⟨vN (counts_more hcv h0), G⟩

end Go.Proofs.Ytikgflhepclfgab
