/-
  The law FnHeapValid returns true.
  Conditions: those that each theorem states.
-/
import Derived.Test.YtikgflhepclfgaaQb5
set_option linter.unusedVariables false
set_option linter.unusedSimpArgs false
namespace Go.Proofs.Ytikgflhepclfgaa
open Go Go.RowKit
attribute [local irreducible] wpList wpAnyH Code.wp dOp

theorem HeapValid_p (Pr : Nat → Prop) (A B : Option Addr) (h : LH) (n m c d : Nat) (w : World) (hA : RC Pr w A h.cells) (hB : R1 Pr w B (ints h.roots)) (hz : hsize h ≤ 1048576) (hn : n = h.cells.length) (hm : m = h.roots.length) :
    Calls Try.prog 50 #[.agg #[.slice A n c, .slice B m d]] w (Ret fun v w' => v = .bool (validB h) ∧ Grow w w') := by
  subst hn
  subst hm
  exact impl_HeapValid_c Pr A B h c d w hA hB hz


set_option maxHeartbeats 4000000 in
set_option maxRecDepth 20000 in
theorem laws_FnHeapValid_c (Pr : Nat → Prop) (A : Option Addr) (xs : List Int) (c : Nat) (w : World) (hA : R1 Pr w A (u8s xs)) (hn : xs.length ≤ 9223372036854775807) (hcap : xs.length ≤ c) (hrg : ∀ y ∈ xs, 0 ≤ y ∧ y ≤ 255) :
    Calls Try.prog 12 #[.slice A xs.length c] w (Ret fun v w' => v = .bool true ∧ Grow w w') := by
 refine enter Try.func12 rfl Try.ntmps12 (L := [_,_,_,_,_,_,_,_,_,_,_,_,_,_,_,_,_,_,_,_,_,_,_,_,_,_,_,_,_,_,_,_,_,_,_,_,_,_,_,_,_,_,_,_,_,_,_,_,_,_,_,_,_,_,_,_,_,_,_]) rfl ?_
 have G := Mod.refl No w
 have hA0 := hA
 refine wp_seq_k fun K1 hK1 => ?_
 refine Sb 59 rfl ?_  -- 0
 refine S_val (Y_assign rfl) ?_
 refine S_nl rfl rfl ?_
 refine th_n (hK1 _ _ ?_)
 clear hK1 K1
 refine wp_seq_k fun K2 hK2 => ?_
 refine wp_seq_k fun K3 hK3 => ?_
 refine Sb 59 rfl ?_  -- 1
 refine S_val (Y_move rfl) ?_
 refine S_val (Y_len Try.underlying22 rfl) ?_
 refine S_val (Y_gtr rfl rfl) ?_
 refine S_nl rfl rfl ?_
 refine th_n (hK3 _ _ ?_)
 clear hK3 K3
 refine S_if rfl (fun hb1 => ?_) (fun hb1 => ?_)  -- c1
 · -- c1T
  replace hb1 := nb_tt hb1
  refine wp_seq_k fun K4 hK4 => ?_
  refine Sb 59 rfl ?_  -- 2
  refine S_val (Y_assign rfl) ?_
  refine S_nl rfl rfl ?_
  refine th_n (hK4 _ _ ?_)
  clear hK4 K4
  refine wp_ret ?_
  refine th_r ?_
  clear hK2 K2
  refine ret_r1 rfl rfl ?_  -- r1
  first | exact ⟨rfl, G⟩ | exact ⟨vB (free_roots va), G⟩
 · -- c1F
  replace hb1 := nb_tf hb1
  have hx : xs.length ≤ 1048576 := by omega
  refine wp_skip ?_
  refine th_n (hK2 _ _ ?_)
  clear hK2 K2
  refine wp_seq_k fun K5 hK5 => ?_
  refine Sb 59 rfl ?_  -- 3
  refine S_val (Y_move rfl) ?_
  refine S_call rfl en49 (spec_DrawHeapValid_c _ _ _ _ _ (by assumption) (by omega) (by omega) (by assumption)) ?_  -- k1 spec.DrawHeapValid
  rintro v1 w1 ⟨hD1, A1, B1, n11, c11, n21, c21, rfl, hn11, hn21, hz1, RC1, RR1, g1⟩
  replace hA := hA.grow g1
  replace G := G.grow g1
  have zg1 := g1.size
  subst hn11
  subst hn21
  obtain ⟨h, rfl⟩ : ∃ x, x = hD1 := ⟨_, rfl⟩
  obtain ⟨AD, rfl⟩ : ∃ x, x = A1 := ⟨_, rfl⟩
  obtain ⟨BD, rfl⟩ : ∃ x, x = B1 := ⟨_, rfl⟩
  obtain ⟨cD, rfl⟩ : ∃ x, x = c11 := ⟨_, rfl⟩
  obtain ⟨dD, rfl⟩ : ∃ x, x = c21 := ⟨_, rfl⟩
  have hzD := hz1
  have hzcD := hsize_cells h
  have hzrD := hsize_roots h
  have hDA := RC1.below
  have hDB := RR1.below
  refine S_alloc (cs := [_, _]) zr35 rfl ?_
  intro b2 w2 fb2 g2 B2
  have lb2 := B2.lt
  replace hA := hA.grow g2
  replace hDA := hDA.grow g2
  replace hDB := hDB.grow g2
  replace G := G.grow g2
  have zg2 := g2.size
  refine S_stM (pre := []) (old := [_, _]) (post := []) (vs := [_, _]) sz35 rfl rfl rfl (by first | rfl | assumption) B2 rfl rfl ?_
  intro w3 m3 X3
  replace B2 := Blk.eq (ys := [_, _]) X3 rfl
  clear X3
  replace G := G.abv m3
  replace hA := hA0.grow G
  replace hDA := hDA.md m3
  replace hDB := hDB.md m3
  have zm3 := m3.size
  refine S_nl rfl rfl ?_
  refine th_n (hK5 _ _ ?_)
  clear hK5 K5
  refine wp_seq_k fun K6 hK6 => ?_
  refine Sb 59 rfl ?_  -- 4
  refine S_val (Y_loadS Try.underlying35 rfl sz35 rfl (B2.row (by rfl))) ?_  -- l1
  refine S_call rfl en50 (impl_HeapValid_c _ _ _ _ _ _ _ (by assumption) (by assumption) (by omega)) ?_  -- k2 impl.HeapValid
  rintro v4 w4 ⟨rfl, g4⟩
  replace hA := hA.grow g4
  replace hDA := hDA.grow g4
  replace hDB := hDB.grow g4
  replace G := G.grow g4
  replace B2 := B2.grow g4
  have zg4 := g4.size
  refine S_val (Y_assign rfl) ?_
  refine S_nl rfl rfl ?_
  refine th_n (hK6 _ _ ?_)
  clear hK6 K6
  refine wp_seq_k fun K7 hK7 => ?_
  refine wp_seq_k fun K8 hK8 => ?_
  refine Sb 59 rfl ?_  -- 5
  refine S_val (Y_move rfl) ?_
  refine S_val (Y_loadS Try.underlying35 rfl sz35 rfl (B2.row (by rfl))) ?_  -- l2
  refine S_call rfl en34 (spec_HeapValid_c _ _ _ _ _ _ _ (by assumption) (by assumption) (by omega)) ?_  -- k3 spec.HeapValid
  rintro v5 w5 ⟨rfl, g5⟩
  replace hA := hA.grow g5
  replace hDA := hDA.grow g5
  replace hDB := hDB.grow g5
  replace G := G.grow g5
  replace B2 := B2.grow g5
  have zg5 := g5.size
  refine S_val (Y_neb Try.underlying4 rfl rfl) ?_
  refine S_nl rfl rfl ?_
  refine th_n (hK8 _ _ ?_)
  clear hK8 K8
  refine S_if rfl (fun hb2 => ?_) (fun hb2 => ?_)  -- c2
  · -- c2T
   replace hb2 := nb_nt hb2
   exact absurd rfl hb2
  · -- c2F
   replace hb2 := nb_nf hb2
   refine wp_skip ?_
   refine th_n (hK7 _ _ ?_)
   clear hK7 K7
   refine wp_seq_k fun K9 hK9 => ?_
   refine wp_seq_k fun K10 hK10 => ?_
   refine Sb 59 rfl ?_  -- 7
   refine S_val (Y_move rfl) ?_
   refine S_val (Y_not rfl) ?_
   refine S_nl rfl rfl ?_
   refine th_n (hK10 _ _ ?_)
   clear hK10 K10
   refine S_if rfl (fun hb3 => ?_) (fun hb3 => ?_)  -- c3
   · -- c3T
    first | with_reducible (replace hb3 := nb_nt hb3) | with_reducible (replace hb3 := nb_tt hb3) | with_reducible (replace hb3 := nb_bt hb3) | skip
    refine wp_seq_k fun K11 hK11 => ?_
    refine Sb 59 rfl ?_  -- 8
    refine S_call rfl en18 (laws_alive_c _) ?_  -- k4 laws.alive
    rintro v6 w6 ⟨rfl, g6⟩
    replace hA := hA.grow g6
    replace hDA := hDA.grow g6
    replace hDB := hDB.grow g6
    replace G := G.grow g6
    replace B2 := B2.grow g6
    have zg6 := g6.size
    refine S_val (Y_assign rfl) ?_
    refine S_nl rfl rfl ?_
    refine th_n (hK11 _ _ ?_)
    clear hK11 K11
    refine wp_ret ?_
    refine th_r ?_
    clear hK9 K9
    refine ret_r1 rfl rfl ?_  -- r2
    first | exact ⟨rfl, G⟩ | exact ⟨vB (free_roots va), G⟩
   · -- c3F
    first | with_reducible (replace hb3 := nb_nf hb3) | with_reducible (replace hb3 := nb_tf hb3) | with_reducible (replace hb3 := nb_bf hb3) | skip
    have va := valid_iff.1 hb3
    have hv9 := hb3
    have h40 := va.le
    have hr4 := va.roots4
    have hsm := va.sm
    have hDA2 : RC (fun _ => True) w5 AD h.cells := hDA.weak (fun _ _ => trivial)
    have hDB2 : R1 (fun _ => True) w5 BD (ints h.roots) := hDB.weak (fun _ _ => trivial)
    refine wp_skip ?_
    refine th_n (hK9 _ _ ?_)
    clear hK9 K9
    refine wp_seq_k fun K12 hK12 => ?_
    refine Sb 59 rfl ?_  -- 9
    refine S_val (Y_field Try.underlying35 rfl fz35_0 (by decide) rfl) ?_
    refine S_val (Y_load Try.underlying32 rfl rfl (B2.at (by rfl))) ?_  -- l3
    refine S_val (Y_field Try.underlying35 rfl fz35_0 (by decide) rfl) ?_
    refine S_val (Y_load Try.underlying32 rfl rfl (B2.at (by rfl))) ?_  -- l4
    refine S_val (Y_len Try.underlying32 rfl) ?_
    refine S_bsN (cs := [_, _, _, _]) Try.underlying33 zr3 sz3 rfl rfl ?_
    intro b7 w7 fb7 g7 B7
    have lb7 := B7.lt
    replace hA := hA.grow g7
    replace hDA := hDA.grow g7
    replace hDB := hDB.grow g7
    replace G := G.grow g7
    replace B2 := B2.grow g7
    have zg7 := g7.size
    refine S_val (Y_build (cs := [_, _]) zr35 pc35 rfl rfl) ?_
    refine S_alloc (cs := [_, _]) zr35 rfl ?_
    intro b8 w8 fb8 g8 B8
    have lb8 := B8.lt
    replace hA := hA.grow g8
    replace hDA := hDA.grow g8
    replace hDB := hDB.grow g8
    replace G := G.grow g8
    replace B2 := B2.grow g8
    replace B7 := B7.grow g8
    have zg8 := g8.size
    refine S_stM (pre := []) (old := [_, _]) (post := []) (vs := [_, _]) sz35 rfl rfl rfl (by first | rfl | assumption) B8 rfl rfl ?_
    intro w9 m9 X9
    replace B8 := Blk.eq (ys := [_, _]) X9 rfl
    clear X9
    replace G := G.abv m9
    replace hA := hA0.grow G
    replace hDA := hDA.md m9
    replace hDB := hDB.md m9
    replace B2 := B2.md m9
    replace B7 := B7.md m9
    have zm9 := m9.size
    refine S_nl rfl rfl ?_
    refine th_n (hK12 _ _ ?_)
    clear hK12 K12
    refine wp_seq_k fun K13 hK13 => ?_
    refine D_cut (fun a' w' => ∃ (b900 : Nat) (AZ : Option Addr) (cZ : Nat) (L : List Value), a' = ⟨L.toArray, []⟩ ∧ L.length = 59 ∧ L[3]? = some (.pointer (some ⟨b2, 0, none⟩)) ∧ L[4]? = some (.bool (validB h)) ∧ L[5]? = some (.pointer (some ⟨b8, 0, none⟩)) ∧ L[6]? = some (.pointer (some ⟨b900, 0, none⟩)) ∧ Mod (No) w9 w' ∧ (Blk w' b900 35 [.slice AZ (h.cells.length + 1) cZ, .slice BD h.roots.length dD].toArray) ∧ (RC (fun i => i < w'.heap.size) w' AZ (h.cells ++ [⟨true, 0, [((h.cells.length + 1 : Nat) : Int)]⟩]))) ?_ ?_
    · -- cut
     refine D_start 17 59 (fun w => Mod (No) w) follows rfl rfl ?_  -- d1 r10
     intro w10 g10
     replace hA := hA.grow g10
     replace hDA := hDA.grow g10
     replace hDB := hDB.grow g10
     replace G := G.grow g10
     replace B2 := B2.grow g10
     replace B7 := B7.grow g10
     replace B8 := B8.grow g10
     have zg10 := g10.size
     have GS10 := Mod.refl (No) w10
     have B2d10 := B2
     refine Dq (i := 1) rfl GS10 (fun _ _ => Y_field Try.underlying35 rfl fz35_0 (by decide) rfl) ?_
     refine Dq (i := 2) rfl GS10 (fun _ hs => Y_load Try.underlying32 rfl rfl (hs.cell0 (B2.at (by rfl)))) ?_
     refine Dq (i := 4) rfl GS10 (fun _ _ => Y_field Try.underlying35 rfl fz35_0 (by decide) rfl) ?_
     refine Dq (i := 5) rfl GS10 (fun _ hs => Y_load Try.underlying32 rfl rfl (hs.cell0 (B2.at (by rfl)))) ?_
     refine Dq (i := 6) rfl GS10 (fun _ _ => Y_len Try.underlying32 rfl) ?_
     refine Dq (i := 7) rfl GS10 (fun _ _ => Y_inc rfl rfl (by omega)) ?_
     refine Dq (i := 12) rfl GS10 (fun _ _ => Y_field Try.underlying35 rfl fz35_1 (by decide) rfl) ?_
     refine Dq (i := 13) rfl GS10 (fun _ hs => Y_load Try.underlying33 rfl rfl (hs.cell0 (B2.at (by rfl)))) ?_
     refine D_3 (i := 0) (j := 8) (k := 15) (by kernel_rfl) ?_ ?_ ?_
     · -- operation 0 comes up
      refine E_bs0 (i := 0) rfl Try.underlying32 sz39 ?_
      intro b12 w12 fb12 g12 B12
      refine ⟨GS10.grow g12, ?_⟩
      have lb12 := B12.lt
      replace hA := hA.grow g12
      replace hDA := hDA.grow g12
      replace hDB := hDB.grow g12
      replace G := G.grow g12
      replace GS10 := GS10.grow g12
      replace B2 := B2.grow g12
      replace B7 := B7.grow g12
      replace B8 := B8.grow g12
      have zg12 := g12.size
      refine D_3 (i := 3) (j := 8) (k := 15) (by kernel_rfl) ?_ ?_ ?_
      · -- operation 3 comes up
       obtain ⟨rsF, hSF, hRF⟩ := hDA.flat
       have O1 : OW (fun i => i = b12) w12 39 3 (some ⟨b12, 0, none⟩) 0 0 [] := OW.of_blk B12 rfl (by decide) rfl
       obtain ⟨z1, hz1⟩ : ∃ x, x = w12.heap.size := ⟨_, rfl⟩
       refine E_app0 (i := 3) rfl (news := flatC h.cells rsF) Try.underlying32 zr39 sz39 by39 rfl rfl O1 (flatC_len hRF.len) hSF (flatC_one _ _) (by omega) (Pr' := fun i => i = b12 ∨ z1 ≤ i) (fun i hi => .inl hi) (by omega) ?_
       intro A13 cap13 w13 X13 m13
       replace G := G.abv m13
       replace GS10 := GS10.abv m13
       replace hA := hA0.grow G
       replace hDA := hDA.md m13
       replace hDB := hDB.md m13
       replace hRF := hRF.md m13
       replace B2 := B2.md m13
       replace B7 := B7.md m13
       replace B8 := B8.md m13
       have zm13 := m13.size
       obtain ⟨z2, hz2⟩ : ∃ x, x = w13.heap.size := ⟨_, rfl⟩
       have O2 : OW (fun i => (i = b12 ∨ z1 ≤ i) ∧ i < z2) w13 39 3 A13 h.cells.length cap13 (flatC h.cells rsF) := by rw [hz2]; exact X13.lt
       clear O1 X13
       refine ⟨GS10, ?_⟩
       refine D_2 (i := 8) (j := 15) (by kernel_rfl) ?_ ?_
       · -- operation 8 comes up
        refine E_bs1 (cs := [_]) (i := 8) rfl Try.underlying33 zr3 sz3 rfl rfl rfl ?_
        intro b14 w14 fb14 g14 B14
        refine ⟨GS10.grow g14, ?_⟩
        have lb14 := B14.lt
        replace hA := hA.grow g14
        replace hDA := hDA.grow g14
        replace hDB := hDB.grow g14
        replace hRF := hRF.grow g14
        replace O2 := O2.grow g14
        replace G := G.grow g14
        replace GS10 := GS10.grow g14
        replace B2 := B2.grow g14
        replace B7 := B7.grow g14
        replace B8 := B8.grow g14
        have zg14 := g14.size
        refine Dq (i := 9) rfl GS10 (fun _ _ => Y_build (cs := [_, _, _]) zr39 pc39 rfl rfl) ?_
        refine D_2 (i := 10) (j := 15) (by kernel_rfl) ?_ ?_
        · -- operation 10 comes up
         refine E_bs1 (cs := [_, _, _]) (i := 10) rfl Try.underlying32 zr39 sz39 rfl rfl rfl ?_
         intro b15 w15 fb15 g15 B15
         refine ⟨GS10.grow g15, ?_⟩
         have lb15 := B15.lt
         replace hA := hA.grow g15
         replace hDA := hDA.grow g15
         replace hDB := hDB.grow g15
         replace hRF := hRF.grow g15
         replace O2 := O2.grow g15
         replace G := G.grow g15
         replace GS10 := GS10.grow g15
         replace B2 := B2.grow g15
         replace B7 := B7.grow g15
         replace B8 := B8.grow g15
         replace B14 := B14.grow g15
         have zg15 := g15.size
         refine D_2 (i := 11) (j := 15) (by kernel_rfl) ?_ ?_
         · -- operation 11 comes up
          obtain ⟨z3, hz3⟩ : ∃ x, x = w15.heap.size := ⟨_, rfl⟩
          refine E_app (i := 11) rfl Try.underlying32 zr39 sz39 by39 rfl rfl O2 rfl (Src.blk B15) (by simp [Value.oneCell']) (by omega) (Pr' := fun i => ((i = b12 ∨ z1 ≤ i) ∧ i < z2) ∨ z3 ≤ i) (fun i hi => .inl hi) (by first | omega | (dsimp only; omega)) ?_
          intro A16 cap16 w16 X16 m16
          have O3 : OW (fun i => ((i = b12 ∨ z1 ≤ i) ∧ i < z2) ∨ z3 ≤ i) w16 39 3 A16 (h.cells.length + 1) cap16 (flatC (h.cells ++ [⟨true, 0, [((h.cells.length + 1 : Nat) : Int)]⟩]) (rsF ++ [(some ⟨b14, 0, none⟩, 1)])) := by rw [← flat_more hRF.len]; exact X16
          clear X16
          replace G := G.abv m16
          replace GS10 := GS10.abv m16
          replace hA := hA0.grow G
          replace hDA := hDA.md m16
          replace hDB := hDB.md m16
          replace hRF := hRF.md m16
          replace B2 := B2.md m16
          replace B7 := B7.md m16
          replace B8 := B8.md m16
          replace B14 := B14.md m16
          have zm16 := m16.size
          have hRF2 := hRF.snoc (c := ⟨true, 0, [((h.cells.length + 1 : Nat) : Int)]⟩) (bc := 1) (R1.of_blkE B14)
          have hZA2 := RC.of_flat O3.lt hRF2 (fun _ h => Or.inl h) (fun _ h => Or.inr h)
          obtain ⟨AZ, rfl⟩ : ∃ x, x = A16 := ⟨_, rfl⟩
          obtain ⟨cZ, rfl⟩ : ∃ x, x = cap16 := ⟨_, rfl⟩
          refine ⟨GS10, ?_⟩
          refine Dq (i := 14) rfl GS10 (fun _ _ => Y_build (cs := [_, _]) zr35 pc35 rfl rfl) ?_
          refine D_1 (i := 15) (by kernel_rfl) ?_
          refine E_alloc (cs := [_, _]) rfl zr35 rfl (fun b17 w17 fb17 g17 B17 => ⟨GS10.grow g17, ?_⟩)
          have lb17 := B17.lt
          replace hA := hA.grow g17
          replace hDA := hDA.grow g17
          replace hDB := hDB.grow g17
          replace hZA2 := hZA2.grow g17
          replace G := G.grow g17
          replace GS10 := GS10.grow g17
          replace B2 := B2.grow g17
          replace B7 := B7.grow g17
          replace B8 := B8.grow g17
          replace B14 := B14.grow g17
          have zg17 := g17.size
          refine D_1 (i := 16) (by kernel_rfl) ?_
          refine E_stM (pre := []) (old := [_, _]) (post := []) (vs := [_, _]) (i := 16) rfl sz35 rfl rfl rfl (by first | rfl | assumption) B17 rfl rfl ?_
          intro w18 m18 X18
          replace B17 := Blk.eq (ys := [_, _]) X18 rfl
          clear X18
          replace G := G.abv m18
          replace GS10 := GS10.abv m18
          replace hA := hA0.grow G
          replace hDA := hDA.md m18
          replace hDB := hDB.md m18
          replace hZA2 := hZA2.md m18
          replace B2 := B2.md m18
          replace B7 := B7.md m18
          replace B8 := B8.md m18
          replace B14 := B14.md m18
          have zm18 := m18.size
          refine ⟨GS10, ?_⟩
          refine D_en (by kernel_rfl) rfl rfl ?_
          exact ⟨rfl, _, _, _, _, rfl, rfl, rfl, rfl, rfl, rfl, g10.grow GS10, B17, hZA2.below⟩
         · -- operation 15 comes up
          refine E_alloc (cs := [_, _]) rfl zr35 rfl (fun b19 w19 fb19 g19 B19 => ⟨GS10.grow g19, ?_⟩)
          have lb19 := B19.lt
          replace hA := hA.grow g19
          replace hDA := hDA.grow g19
          replace hDB := hDB.grow g19
          replace hRF := hRF.grow g19
          replace O2 := O2.grow g19
          replace G := G.grow g19
          replace GS10 := GS10.grow g19
          replace B2 := B2.grow g19
          replace B7 := B7.grow g19
          replace B8 := B8.grow g19
          replace B14 := B14.grow g19
          replace B15 := B15.grow g19
          have zg19 := g19.size
          refine D_1 (i := 11) (by kernel_rfl) ?_
          obtain ⟨z3, hz3⟩ : ∃ x, x = w19.heap.size := ⟨_, rfl⟩
          refine E_app (i := 11) rfl Try.underlying32 zr39 sz39 by39 rfl rfl O2 rfl (Src.blk B15) (by simp [Value.oneCell']) (by omega) (Pr' := fun i => ((i = b12 ∨ z1 ≤ i) ∧ i < z2) ∨ z3 ≤ i) (fun i hi => .inl hi) (by first | omega | (dsimp only; omega)) ?_
          intro A20 cap20 w20 X20 m20
          have O3 : OW (fun i => ((i = b12 ∨ z1 ≤ i) ∧ i < z2) ∨ z3 ≤ i) w20 39 3 A20 (h.cells.length + 1) cap20 (flatC (h.cells ++ [⟨true, 0, [((h.cells.length + 1 : Nat) : Int)]⟩]) (rsF ++ [(some ⟨b14, 0, none⟩, 1)])) := by rw [← flat_more hRF.len]; exact X20
          clear X20
          replace G := G.abv m20
          replace GS10 := GS10.abv m20
          replace hA := hA0.grow G
          replace hDA := hDA.md m20
          replace hDB := hDB.md m20
          replace hRF := hRF.md m20
          replace B2 := B2.md m20
          replace B7 := B7.md m20
          replace B8 := B8.md m20
          replace B14 := B14.md m20
          replace B19 := B19.md m20
          have zm20 := m20.size
          have hRF2 := hRF.snoc (c := ⟨true, 0, [((h.cells.length + 1 : Nat) : Int)]⟩) (bc := 1) (R1.of_blkE B14)
          have hZA2 := RC.of_flat O3.lt hRF2 (fun _ h => Or.inl h) (fun _ h => Or.inr h)
          obtain ⟨AZ, rfl⟩ : ∃ x, x = A20 := ⟨_, rfl⟩
          obtain ⟨cZ, rfl⟩ : ∃ x, x = cap20 := ⟨_, rfl⟩
          refine ⟨GS10, ?_⟩
          refine Dq (i := 14) rfl GS10 (fun _ _ => Y_build (cs := [_, _]) zr35 pc35 rfl rfl) ?_
          refine D_1 (i := 16) (by kernel_rfl) ?_
          refine E_stM (pre := []) (old := [_, _]) (post := []) (vs := [_, _]) (i := 16) rfl sz35 rfl rfl rfl (by first | rfl | assumption) B19 rfl rfl ?_
          intro w21 m21 X21
          replace B19 := Blk.eq (ys := [_, _]) X21 rfl
          clear X21
          replace G := G.abv m21
          replace GS10 := GS10.abv m21
          replace hA := hA0.grow G
          replace hDA := hDA.md m21
          replace hDB := hDB.md m21
          replace hZA2 := hZA2.md m21
          replace B2 := B2.md m21
          replace B7 := B7.md m21
          replace B8 := B8.md m21
          replace B14 := B14.md m21
          have zm21 := m21.size
          refine ⟨GS10, ?_⟩
          refine D_en (by kernel_rfl) rfl rfl ?_
          exact ⟨rfl, _, _, _, _, rfl, rfl, rfl, rfl, rfl, rfl, g10.grow GS10, B19, hZA2.below⟩
        · -- operation 15 comes up
         refine E_alloc (cs := [_, _]) rfl zr35 rfl (fun b22 w22 fb22 g22 B22 => ⟨GS10.grow g22, ?_⟩)
         have lb22 := B22.lt
         replace hA := hA.grow g22
         replace hDA := hDA.grow g22
         replace hDB := hDB.grow g22
         replace hRF := hRF.grow g22
         replace O2 := O2.grow g22
         replace G := G.grow g22
         replace GS10 := GS10.grow g22
         replace B2 := B2.grow g22
         replace B7 := B7.grow g22
         replace B8 := B8.grow g22
         replace B14 := B14.grow g22
         have zg22 := g22.size
         refine D_1 (i := 10) (by kernel_rfl) ?_
         refine E_bs1 (cs := [_, _, _]) (i := 10) rfl Try.underlying32 zr39 sz39 rfl rfl rfl ?_
         intro b23 w23 fb23 g23 B23
         refine ⟨GS10.grow g23, ?_⟩
         have lb23 := B23.lt
         replace hA := hA.grow g23
         replace hDA := hDA.grow g23
         replace hDB := hDB.grow g23
         replace hRF := hRF.grow g23
         replace O2 := O2.grow g23
         replace G := G.grow g23
         replace GS10 := GS10.grow g23
         replace B2 := B2.grow g23
         replace B7 := B7.grow g23
         replace B8 := B8.grow g23
         replace B14 := B14.grow g23
         replace B22 := B22.grow g23
         have zg23 := g23.size
         refine D_1 (i := 11) (by kernel_rfl) ?_
         obtain ⟨z3, hz3⟩ : ∃ x, x = w23.heap.size := ⟨_, rfl⟩
         refine E_app (i := 11) rfl Try.underlying32 zr39 sz39 by39 rfl rfl O2 rfl (Src.blk B23) (by simp [Value.oneCell']) (by omega) (Pr' := fun i => ((i = b12 ∨ z1 ≤ i) ∧ i < z2) ∨ z3 ≤ i) (fun i hi => .inl hi) (by first | omega | (dsimp only; omega)) ?_
         intro A24 cap24 w24 X24 m24
         have O3 : OW (fun i => ((i = b12 ∨ z1 ≤ i) ∧ i < z2) ∨ z3 ≤ i) w24 39 3 A24 (h.cells.length + 1) cap24 (flatC (h.cells ++ [⟨true, 0, [((h.cells.length + 1 : Nat) : Int)]⟩]) (rsF ++ [(some ⟨b14, 0, none⟩, 1)])) := by rw [← flat_more hRF.len]; exact X24
         clear X24
         replace G := G.abv m24
         replace GS10 := GS10.abv m24
         replace hA := hA0.grow G
         replace hDA := hDA.md m24
         replace hDB := hDB.md m24
         replace hRF := hRF.md m24
         replace B2 := B2.md m24
         replace B7 := B7.md m24
         replace B8 := B8.md m24
         replace B14 := B14.md m24
         replace B22 := B22.md m24
         have zm24 := m24.size
         have hRF2 := hRF.snoc (c := ⟨true, 0, [((h.cells.length + 1 : Nat) : Int)]⟩) (bc := 1) (R1.of_blkE B14)
         have hZA2 := RC.of_flat O3.lt hRF2 (fun _ h => Or.inl h) (fun _ h => Or.inr h)
         obtain ⟨AZ, rfl⟩ : ∃ x, x = A24 := ⟨_, rfl⟩
         obtain ⟨cZ, rfl⟩ : ∃ x, x = cap24 := ⟨_, rfl⟩
         refine ⟨GS10, ?_⟩
         refine Dq (i := 14) rfl GS10 (fun _ _ => Y_build (cs := [_, _]) zr35 pc35 rfl rfl) ?_
         refine D_1 (i := 16) (by kernel_rfl) ?_
         refine E_stM (pre := []) (old := [_, _]) (post := []) (vs := [_, _]) (i := 16) rfl sz35 rfl rfl rfl (by first | rfl | assumption) B22 rfl rfl ?_
         intro w25 m25 X25
         replace B22 := Blk.eq (ys := [_, _]) X25 rfl
         clear X25
         replace G := G.abv m25
         replace GS10 := GS10.abv m25
         replace hA := hA0.grow G
         replace hDA := hDA.md m25
         replace hDB := hDB.md m25
         replace hZA2 := hZA2.md m25
         replace B2 := B2.md m25
         replace B7 := B7.md m25
         replace B8 := B8.md m25
         replace B14 := B14.md m25
         have zm25 := m25.size
         refine ⟨GS10, ?_⟩
         refine D_en (by kernel_rfl) rfl rfl ?_
         exact ⟨rfl, _, _, _, _, rfl, rfl, rfl, rfl, rfl, rfl, g10.grow GS10, B22, hZA2.below⟩
       · -- operation 15 comes up
        refine E_alloc (cs := [_, _]) rfl zr35 rfl (fun b26 w26 fb26 g26 B26 => ⟨GS10.grow g26, ?_⟩)
        have lb26 := B26.lt
        replace hA := hA.grow g26
        replace hDA := hDA.grow g26
        replace hDB := hDB.grow g26
        replace hRF := hRF.grow g26
        replace O2 := O2.grow g26
        replace G := G.grow g26
        replace GS10 := GS10.grow g26
        replace B2 := B2.grow g26
        replace B7 := B7.grow g26
        replace B8 := B8.grow g26
        have zg26 := g26.size
        refine D_1 (i := 8) (by kernel_rfl) ?_
        refine E_bs1 (cs := [_]) (i := 8) rfl Try.underlying33 zr3 sz3 rfl rfl rfl ?_
        intro b27 w27 fb27 g27 B27
        refine ⟨GS10.grow g27, ?_⟩
        have lb27 := B27.lt
        replace hA := hA.grow g27
        replace hDA := hDA.grow g27
        replace hDB := hDB.grow g27
        replace hRF := hRF.grow g27
        replace O2 := O2.grow g27
        replace G := G.grow g27
        replace GS10 := GS10.grow g27
        replace B2 := B2.grow g27
        replace B7 := B7.grow g27
        replace B8 := B8.grow g27
        replace B26 := B26.grow g27
        have zg27 := g27.size
        refine Dq (i := 9) rfl GS10 (fun _ _ => Y_build (cs := [_, _, _]) zr39 pc39 rfl rfl) ?_
        refine D_1 (i := 10) (by kernel_rfl) ?_
        refine E_bs1 (cs := [_, _, _]) (i := 10) rfl Try.underlying32 zr39 sz39 rfl rfl rfl ?_
        intro b28 w28 fb28 g28 B28
        refine ⟨GS10.grow g28, ?_⟩
        have lb28 := B28.lt
        replace hA := hA.grow g28
        replace hDA := hDA.grow g28
        replace hDB := hDB.grow g28
        replace hRF := hRF.grow g28
        replace O2 := O2.grow g28
        replace G := G.grow g28
        replace GS10 := GS10.grow g28
        replace B2 := B2.grow g28
        replace B7 := B7.grow g28
        replace B8 := B8.grow g28
        replace B26 := B26.grow g28
        replace B27 := B27.grow g28
        have zg28 := g28.size
        refine D_1 (i := 11) (by kernel_rfl) ?_
        obtain ⟨z3, hz3⟩ : ∃ x, x = w28.heap.size := ⟨_, rfl⟩
        refine E_app (i := 11) rfl Try.underlying32 zr39 sz39 by39 rfl rfl O2 rfl (Src.blk B28) (by simp [Value.oneCell']) (by omega) (Pr' := fun i => ((i = b12 ∨ z1 ≤ i) ∧ i < z2) ∨ z3 ≤ i) (fun i hi => .inl hi) (by first | omega | (dsimp only; omega)) ?_
        intro A29 cap29 w29 X29 m29
        have O3 : OW (fun i => ((i = b12 ∨ z1 ≤ i) ∧ i < z2) ∨ z3 ≤ i) w29 39 3 A29 (h.cells.length + 1) cap29 (flatC (h.cells ++ [⟨true, 0, [((h.cells.length + 1 : Nat) : Int)]⟩]) (rsF ++ [(some ⟨b27, 0, none⟩, 1)])) := by rw [← flat_more hRF.len]; exact X29
        clear X29
        replace G := G.abv m29
        replace GS10 := GS10.abv m29
        replace hA := hA0.grow G
        replace hDA := hDA.md m29
        replace hDB := hDB.md m29
        replace hRF := hRF.md m29
        replace B2 := B2.md m29
        replace B7 := B7.md m29
        replace B8 := B8.md m29
        replace B26 := B26.md m29
        replace B27 := B27.md m29
        have zm29 := m29.size
        have hRF2 := hRF.snoc (c := ⟨true, 0, [((h.cells.length + 1 : Nat) : Int)]⟩) (bc := 1) (R1.of_blkE B27)
        have hZA2 := RC.of_flat O3.lt hRF2 (fun _ h => Or.inl h) (fun _ h => Or.inr h)
        obtain ⟨AZ, rfl⟩ : ∃ x, x = A29 := ⟨_, rfl⟩
        obtain ⟨cZ, rfl⟩ : ∃ x, x = cap29 := ⟨_, rfl⟩
        refine ⟨GS10, ?_⟩
        refine Dq (i := 14) rfl GS10 (fun _ _ => Y_build (cs := [_, _]) zr35 pc35 rfl rfl) ?_
        refine D_1 (i := 16) (by kernel_rfl) ?_
        refine E_stM (pre := []) (old := [_, _]) (post := []) (vs := [_, _]) (i := 16) rfl sz35 rfl rfl rfl (by first | rfl | assumption) B26 rfl rfl ?_
        intro w30 m30 X30
        replace B26 := Blk.eq (ys := [_, _]) X30 rfl
        clear X30
        replace G := G.abv m30
        replace GS10 := GS10.abv m30
        replace hA := hA0.grow G
        replace hDA := hDA.md m30
        replace hDB := hDB.md m30
        replace hZA2 := hZA2.md m30
        replace B2 := B2.md m30
        replace B7 := B7.md m30
        replace B8 := B8.md m30
        replace B27 := B27.md m30
        have zm30 := m30.size
        refine ⟨GS10, ?_⟩
        refine D_en (by kernel_rfl) rfl rfl ?_
        exact ⟨rfl, _, _, _, _, rfl, rfl, rfl, rfl, rfl, rfl, g10.grow GS10, B26, hZA2.below⟩
      · -- operation 8 comes up
       refine E_bs1 (cs := [_]) (i := 8) rfl Try.underlying33 zr3 sz3 rfl rfl rfl ?_
       intro b31 w31 fb31 g31 B31
       refine ⟨GS10.grow g31, ?_⟩
       have lb31 := B31.lt
       replace hA := hA.grow g31
       replace hDA := hDA.grow g31
       replace hDB := hDB.grow g31
       replace G := G.grow g31
       replace GS10 := GS10.grow g31
       replace B2 := B2.grow g31
       replace B7 := B7.grow g31
       replace B8 := B8.grow g31
       replace B12 := B12.grow g31
       have zg31 := g31.size
       refine Dq (i := 9) rfl GS10 (fun _ _ => Y_build (cs := [_, _, _]) zr39 pc39 rfl rfl) ?_
       refine D_3 (i := 3) (j := 10) (k := 15) (by kernel_rfl) ?_ ?_ ?_
       · -- operation 3 comes up
        obtain ⟨rsF, hSF, hRF⟩ := hDA.flat
        have O1 : OW (fun i => i = b12) w31 39 3 (some ⟨b12, 0, none⟩) 0 0 [] := OW.of_blk B12 rfl (by decide) rfl
        obtain ⟨z1, hz1⟩ : ∃ x, x = w31.heap.size := ⟨_, rfl⟩
        refine E_app0 (i := 3) rfl (news := flatC h.cells rsF) Try.underlying32 zr39 sz39 by39 rfl rfl O1 (flatC_len hRF.len) hSF (flatC_one _ _) (by omega) (Pr' := fun i => i = b12 ∨ z1 ≤ i) (fun i hi => .inl hi) (by omega) ?_
        intro A32 cap32 w32 X32 m32
        replace G := G.abv m32
        replace GS10 := GS10.abv m32
        replace hA := hA0.grow G
        replace hDA := hDA.md m32
        replace hDB := hDB.md m32
        replace hRF := hRF.md m32
        replace B2 := B2.md m32
        replace B7 := B7.md m32
        replace B8 := B8.md m32
        replace B31 := B31.md m32
        have zm32 := m32.size
        obtain ⟨z2, hz2⟩ : ∃ x, x = w32.heap.size := ⟨_, rfl⟩
        have O2 : OW (fun i => (i = b12 ∨ z1 ≤ i) ∧ i < z2) w32 39 3 A32 h.cells.length cap32 (flatC h.cells rsF) := by rw [hz2]; exact X32.lt
        clear O1 X32
        refine ⟨GS10, ?_⟩
        refine D_2 (i := 10) (j := 15) (by kernel_rfl) ?_ ?_
        · -- operation 10 comes up
         refine E_bs1 (cs := [_, _, _]) (i := 10) rfl Try.underlying32 zr39 sz39 rfl rfl rfl ?_
         intro b33 w33 fb33 g33 B33
         refine ⟨GS10.grow g33, ?_⟩
         have lb33 := B33.lt
         replace hA := hA.grow g33
         replace hDA := hDA.grow g33
         replace hDB := hDB.grow g33
         replace hRF := hRF.grow g33
         replace O2 := O2.grow g33
         replace G := G.grow g33
         replace GS10 := GS10.grow g33
         replace B2 := B2.grow g33
         replace B7 := B7.grow g33
         replace B8 := B8.grow g33
         replace B31 := B31.grow g33
         have zg33 := g33.size
         refine D_2 (i := 11) (j := 15) (by kernel_rfl) ?_ ?_
         · -- operation 11 comes up
          obtain ⟨z3, hz3⟩ : ∃ x, x = w33.heap.size := ⟨_, rfl⟩
          refine E_app (i := 11) rfl Try.underlying32 zr39 sz39 by39 rfl rfl O2 rfl (Src.blk B33) (by simp [Value.oneCell']) (by omega) (Pr' := fun i => ((i = b12 ∨ z1 ≤ i) ∧ i < z2) ∨ z3 ≤ i) (fun i hi => .inl hi) (by first | omega | (dsimp only; omega)) ?_
          intro A34 cap34 w34 X34 m34
          have O3 : OW (fun i => ((i = b12 ∨ z1 ≤ i) ∧ i < z2) ∨ z3 ≤ i) w34 39 3 A34 (h.cells.length + 1) cap34 (flatC (h.cells ++ [⟨true, 0, [((h.cells.length + 1 : Nat) : Int)]⟩]) (rsF ++ [(some ⟨b31, 0, none⟩, 1)])) := by rw [← flat_more hRF.len]; exact X34
          clear X34
          replace G := G.abv m34
          replace GS10 := GS10.abv m34
          replace hA := hA0.grow G
          replace hDA := hDA.md m34
          replace hDB := hDB.md m34
          replace hRF := hRF.md m34
          replace B2 := B2.md m34
          replace B7 := B7.md m34
          replace B8 := B8.md m34
          replace B31 := B31.md m34
          have zm34 := m34.size
          have hRF2 := hRF.snoc (c := ⟨true, 0, [((h.cells.length + 1 : Nat) : Int)]⟩) (bc := 1) (R1.of_blkE B31)
          have hZA2 := RC.of_flat O3.lt hRF2 (fun _ h => Or.inl h) (fun _ h => Or.inr h)
          obtain ⟨AZ, rfl⟩ : ∃ x, x = A34 := ⟨_, rfl⟩
          obtain ⟨cZ, rfl⟩ : ∃ x, x = cap34 := ⟨_, rfl⟩
          refine ⟨GS10, ?_⟩
          refine Dq (i := 14) rfl GS10 (fun _ _ => Y_build (cs := [_, _]) zr35 pc35 rfl rfl) ?_
          refine D_1 (i := 15) (by kernel_rfl) ?_
          refine E_alloc (cs := [_, _]) rfl zr35 rfl (fun b35 w35 fb35 g35 B35 => ⟨GS10.grow g35, ?_⟩)
          have lb35 := B35.lt
          replace hA := hA.grow g35
          replace hDA := hDA.grow g35
          replace hDB := hDB.grow g35
          replace hZA2 := hZA2.grow g35
          replace G := G.grow g35
          replace GS10 := GS10.grow g35
          replace B2 := B2.grow g35
          replace B7 := B7.grow g35
          replace B8 := B8.grow g35
          replace B31 := B31.grow g35
          have zg35 := g35.size
          refine D_1 (i := 16) (by kernel_rfl) ?_
          refine E_stM (pre := []) (old := [_, _]) (post := []) (vs := [_, _]) (i := 16) rfl sz35 rfl rfl rfl (by first | rfl | assumption) B35 rfl rfl ?_
          intro w36 m36 X36
          replace B35 := Blk.eq (ys := [_, _]) X36 rfl
          clear X36
          replace G := G.abv m36
          replace GS10 := GS10.abv m36
          replace hA := hA0.grow G
          replace hDA := hDA.md m36
          replace hDB := hDB.md m36
          replace hZA2 := hZA2.md m36
          replace B2 := B2.md m36
          replace B7 := B7.md m36
          replace B8 := B8.md m36
          replace B31 := B31.md m36
          have zm36 := m36.size
          refine ⟨GS10, ?_⟩
          refine D_en (by kernel_rfl) rfl rfl ?_
          exact ⟨rfl, _, _, _, _, rfl, rfl, rfl, rfl, rfl, rfl, g10.grow GS10, B35, hZA2.below⟩
         · -- operation 15 comes up
          refine E_alloc (cs := [_, _]) rfl zr35 rfl (fun b37 w37 fb37 g37 B37 => ⟨GS10.grow g37, ?_⟩)
          have lb37 := B37.lt
          replace hA := hA.grow g37
          replace hDA := hDA.grow g37
          replace hDB := hDB.grow g37
          replace hRF := hRF.grow g37
          replace O2 := O2.grow g37
          replace G := G.grow g37
          replace GS10 := GS10.grow g37
          replace B2 := B2.grow g37
          replace B7 := B7.grow g37
          replace B8 := B8.grow g37
          replace B31 := B31.grow g37
          replace B33 := B33.grow g37
          have zg37 := g37.size
          refine D_1 (i := 11) (by kernel_rfl) ?_
          obtain ⟨z3, hz3⟩ : ∃ x, x = w37.heap.size := ⟨_, rfl⟩
          refine E_app (i := 11) rfl Try.underlying32 zr39 sz39 by39 rfl rfl O2 rfl (Src.blk B33) (by simp [Value.oneCell']) (by omega) (Pr' := fun i => ((i = b12 ∨ z1 ≤ i) ∧ i < z2) ∨ z3 ≤ i) (fun i hi => .inl hi) (by first | omega | (dsimp only; omega)) ?_
          intro A38 cap38 w38 X38 m38
          have O3 : OW (fun i => ((i = b12 ∨ z1 ≤ i) ∧ i < z2) ∨ z3 ≤ i) w38 39 3 A38 (h.cells.length + 1) cap38 (flatC (h.cells ++ [⟨true, 0, [((h.cells.length + 1 : Nat) : Int)]⟩]) (rsF ++ [(some ⟨b31, 0, none⟩, 1)])) := by rw [← flat_more hRF.len]; exact X38
          clear X38
          replace G := G.abv m38
          replace GS10 := GS10.abv m38
          replace hA := hA0.grow G
          replace hDA := hDA.md m38
          replace hDB := hDB.md m38
          replace hRF := hRF.md m38
          replace B2 := B2.md m38
          replace B7 := B7.md m38
          replace B8 := B8.md m38
          replace B31 := B31.md m38
          replace B37 := B37.md m38
          have zm38 := m38.size
          have hRF2 := hRF.snoc (c := ⟨true, 0, [((h.cells.length + 1 : Nat) : Int)]⟩) (bc := 1) (R1.of_blkE B31)
          have hZA2 := RC.of_flat O3.lt hRF2 (fun _ h => Or.inl h) (fun _ h => Or.inr h)
          obtain ⟨AZ, rfl⟩ : ∃ x, x = A38 := ⟨_, rfl⟩
          obtain ⟨cZ, rfl⟩ : ∃ x, x = cap38 := ⟨_, rfl⟩
          refine ⟨GS10, ?_⟩
          refine Dq (i := 14) rfl GS10 (fun _ _ => Y_build (cs := [_, _]) zr35 pc35 rfl rfl) ?_
          refine D_1 (i := 16) (by kernel_rfl) ?_
          refine E_stM (pre := []) (old := [_, _]) (post := []) (vs := [_, _]) (i := 16) rfl sz35 rfl rfl rfl (by first | rfl | assumption) B37 rfl rfl ?_
          intro w39 m39 X39
          replace B37 := Blk.eq (ys := [_, _]) X39 rfl
          clear X39
          replace G := G.abv m39
          replace GS10 := GS10.abv m39
          replace hA := hA0.grow G
          replace hDA := hDA.md m39
          replace hDB := hDB.md m39
          replace hZA2 := hZA2.md m39
          replace B2 := B2.md m39
          replace B7 := B7.md m39
          replace B8 := B8.md m39
          replace B31 := B31.md m39
          have zm39 := m39.size
          refine ⟨GS10, ?_⟩
          refine D_en (by kernel_rfl) rfl rfl ?_
          exact ⟨rfl, _, _, _, _, rfl, rfl, rfl, rfl, rfl, rfl, g10.grow GS10, B37, hZA2.below⟩
        · -- operation 15 comes up
         refine E_alloc (cs := [_, _]) rfl zr35 rfl (fun b40 w40 fb40 g40 B40 => ⟨GS10.grow g40, ?_⟩)
         have lb40 := B40.lt
         replace hA := hA.grow g40
         replace hDA := hDA.grow g40
         replace hDB := hDB.grow g40
         replace hRF := hRF.grow g40
         replace O2 := O2.grow g40
         replace G := G.grow g40
         replace GS10 := GS10.grow g40
         replace B2 := B2.grow g40
         replace B7 := B7.grow g40
         replace B8 := B8.grow g40
         replace B31 := B31.grow g40
         have zg40 := g40.size
         refine D_1 (i := 10) (by kernel_rfl) ?_
         refine E_bs1 (cs := [_, _, _]) (i := 10) rfl Try.underlying32 zr39 sz39 rfl rfl rfl ?_
         intro b41 w41 fb41 g41 B41
         refine ⟨GS10.grow g41, ?_⟩
         have lb41 := B41.lt
         replace hA := hA.grow g41
         replace hDA := hDA.grow g41
         replace hDB := hDB.grow g41
         replace hRF := hRF.grow g41
         replace O2 := O2.grow g41
         replace G := G.grow g41
         replace GS10 := GS10.grow g41
         replace B2 := B2.grow g41
         replace B7 := B7.grow g41
         replace B8 := B8.grow g41
         replace B31 := B31.grow g41
         replace B40 := B40.grow g41
         have zg41 := g41.size
         refine D_1 (i := 11) (by kernel_rfl) ?_
         obtain ⟨z3, hz3⟩ : ∃ x, x = w41.heap.size := ⟨_, rfl⟩
         refine E_app (i := 11) rfl Try.underlying32 zr39 sz39 by39 rfl rfl O2 rfl (Src.blk B41) (by simp [Value.oneCell']) (by omega) (Pr' := fun i => ((i = b12 ∨ z1 ≤ i) ∧ i < z2) ∨ z3 ≤ i) (fun i hi => .inl hi) (by first | omega | (dsimp only; omega)) ?_
         intro A42 cap42 w42 X42 m42
         have O3 : OW (fun i => ((i = b12 ∨ z1 ≤ i) ∧ i < z2) ∨ z3 ≤ i) w42 39 3 A42 (h.cells.length + 1) cap42 (flatC (h.cells ++ [⟨true, 0, [((h.cells.length + 1 : Nat) : Int)]⟩]) (rsF ++ [(some ⟨b31, 0, none⟩, 1)])) := by rw [← flat_more hRF.len]; exact X42
         clear X42
         replace G := G.abv m42
         replace GS10 := GS10.abv m42
         replace hA := hA0.grow G
         replace hDA := hDA.md m42
         replace hDB := hDB.md m42
         replace hRF := hRF.md m42
         replace B2 := B2.md m42
         replace B7 := B7.md m42
         replace B8 := B8.md m42
         replace B31 := B31.md m42
         replace B40 := B40.md m42
         have zm42 := m42.size
         have hRF2 := hRF.snoc (c := ⟨true, 0, [((h.cells.length + 1 : Nat) : Int)]⟩) (bc := 1) (R1.of_blkE B31)
         have hZA2 := RC.of_flat O3.lt hRF2 (fun _ h => Or.inl h) (fun _ h => Or.inr h)
         obtain ⟨AZ, rfl⟩ : ∃ x, x = A42 := ⟨_, rfl⟩
         obtain ⟨cZ, rfl⟩ : ∃ x, x = cap42 := ⟨_, rfl⟩
         refine ⟨GS10, ?_⟩
         refine Dq (i := 14) rfl GS10 (fun _ _ => Y_build (cs := [_, _]) zr35 pc35 rfl rfl) ?_
         refine D_1 (i := 16) (by kernel_rfl) ?_
         refine E_stM (pre := []) (old := [_, _]) (post := []) (vs := [_, _]) (i := 16) rfl sz35 rfl rfl rfl (by first | rfl | assumption) B40 rfl rfl ?_
         intro w43 m43 X43
         replace B40 := Blk.eq (ys := [_, _]) X43 rfl
         clear X43
         replace G := G.abv m43
         replace GS10 := GS10.abv m43
         replace hA := hA0.grow G
         replace hDA := hDA.md m43
         replace hDB := hDB.md m43
         replace hZA2 := hZA2.md m43
         replace B2 := B2.md m43
         replace B7 := B7.md m43
         replace B8 := B8.md m43
         replace B31 := B31.md m43
         have zm43 := m43.size
         refine ⟨GS10, ?_⟩
         refine D_en (by kernel_rfl) rfl rfl ?_
         exact ⟨rfl, _, _, _, _, rfl, rfl, rfl, rfl, rfl, rfl, g10.grow GS10, B40, hZA2.below⟩
       · -- operation 10 comes up
        refine E_bs1 (cs := [_, _, _]) (i := 10) rfl Try.underlying32 zr39 sz39 rfl rfl rfl ?_
        intro b44 w44 fb44 g44 B44
        refine ⟨GS10.grow g44, ?_⟩
        have lb44 := B44.lt
        replace hA := hA.grow g44
        replace hDA := hDA.grow g44
        replace hDB := hDB.grow g44
        replace G := G.grow g44
        replace GS10 := GS10.grow g44
        replace B2 := B2.grow g44
        replace B7 := B7.grow g44
        replace B8 := B8.grow g44
        replace B12 := B12.grow g44
        replace B31 := B31.grow g44
        have zg44 := g44.size
        refine D_2 (i := 3) (j := 15) (by kernel_rfl) ?_ ?_
        · -- operation 3 comes up
         obtain ⟨rsF, hSF, hRF⟩ := hDA.flat
         have O1 : OW (fun i => i = b12) w44 39 3 (some ⟨b12, 0, none⟩) 0 0 [] := OW.of_blk B12 rfl (by decide) rfl
         obtain ⟨z1, hz1⟩ : ∃ x, x = w44.heap.size := ⟨_, rfl⟩
         refine E_app0 (i := 3) rfl (news := flatC h.cells rsF) Try.underlying32 zr39 sz39 by39 rfl rfl O1 (flatC_len hRF.len) hSF (flatC_one _ _) (by omega) (Pr' := fun i => i = b12 ∨ z1 ≤ i) (fun i hi => .inl hi) (by omega) ?_
         intro A45 cap45 w45 X45 m45
         replace G := G.abv m45
         replace GS10 := GS10.abv m45
         replace hA := hA0.grow G
         replace hDA := hDA.md m45
         replace hDB := hDB.md m45
         replace hRF := hRF.md m45
         replace B2 := B2.md m45
         replace B7 := B7.md m45
         replace B8 := B8.md m45
         replace B31 := B31.md m45
         replace B44 := B44.md m45
         have zm45 := m45.size
         obtain ⟨z2, hz2⟩ : ∃ x, x = w45.heap.size := ⟨_, rfl⟩
         have O2 : OW (fun i => (i = b12 ∨ z1 ≤ i) ∧ i < z2) w45 39 3 A45 h.cells.length cap45 (flatC h.cells rsF) := by rw [hz2]; exact X45.lt
         clear O1 X45
         refine ⟨GS10, ?_⟩
         refine D_2 (i := 11) (j := 15) (by kernel_rfl) ?_ ?_
         · -- operation 11 comes up
          obtain ⟨z3, hz3⟩ : ∃ x, x = w45.heap.size := ⟨_, rfl⟩
          refine E_app (i := 11) rfl Try.underlying32 zr39 sz39 by39 rfl rfl O2 rfl (Src.blk B44) (by simp [Value.oneCell']) (by omega) (Pr' := fun i => ((i = b12 ∨ z1 ≤ i) ∧ i < z2) ∨ z3 ≤ i) (fun i hi => .inl hi) (by first | omega | (dsimp only; omega)) ?_
          intro A46 cap46 w46 X46 m46
          have O3 : OW (fun i => ((i = b12 ∨ z1 ≤ i) ∧ i < z2) ∨ z3 ≤ i) w46 39 3 A46 (h.cells.length + 1) cap46 (flatC (h.cells ++ [⟨true, 0, [((h.cells.length + 1 : Nat) : Int)]⟩]) (rsF ++ [(some ⟨b31, 0, none⟩, 1)])) := by rw [← flat_more hRF.len]; exact X46
          clear X46
          replace G := G.abv m46
          replace GS10 := GS10.abv m46
          replace hA := hA0.grow G
          replace hDA := hDA.md m46
          replace hDB := hDB.md m46
          replace hRF := hRF.md m46
          replace B2 := B2.md m46
          replace B7 := B7.md m46
          replace B8 := B8.md m46
          replace B31 := B31.md m46
          have zm46 := m46.size
          have hRF2 := hRF.snoc (c := ⟨true, 0, [((h.cells.length + 1 : Nat) : Int)]⟩) (bc := 1) (R1.of_blkE B31)
          have hZA2 := RC.of_flat O3.lt hRF2 (fun _ h => Or.inl h) (fun _ h => Or.inr h)
          obtain ⟨AZ, rfl⟩ : ∃ x, x = A46 := ⟨_, rfl⟩
          obtain ⟨cZ, rfl⟩ : ∃ x, x = cap46 := ⟨_, rfl⟩
          refine ⟨GS10, ?_⟩
          refine Dq (i := 14) rfl GS10 (fun _ _ => Y_build (cs := [_, _]) zr35 pc35 rfl rfl) ?_
          refine D_1 (i := 15) (by kernel_rfl) ?_
          refine E_alloc (cs := [_, _]) rfl zr35 rfl (fun b47 w47 fb47 g47 B47 => ⟨GS10.grow g47, ?_⟩)
          have lb47 := B47.lt
          replace hA := hA.grow g47
          replace hDA := hDA.grow g47
          replace hDB := hDB.grow g47
          replace hZA2 := hZA2.grow g47
          replace G := G.grow g47
          replace GS10 := GS10.grow g47
          replace B2 := B2.grow g47
          replace B7 := B7.grow g47
          replace B8 := B8.grow g47
          replace B31 := B31.grow g47
          have zg47 := g47.size
          refine D_1 (i := 16) (by kernel_rfl) ?_
          refine E_stM (pre := []) (old := [_, _]) (post := []) (vs := [_, _]) (i := 16) rfl sz35 rfl rfl rfl (by first | rfl | assumption) B47 rfl rfl ?_
          intro w48 m48 X48
          replace B47 := Blk.eq (ys := [_, _]) X48 rfl
          clear X48
          replace G := G.abv m48
          replace GS10 := GS10.abv m48
          replace hA := hA0.grow G
          replace hDA := hDA.md m48
          replace hDB := hDB.md m48
          replace hZA2 := hZA2.md m48
          replace B2 := B2.md m48
          replace B7 := B7.md m48
          replace B8 := B8.md m48
          replace B31 := B31.md m48
          have zm48 := m48.size
          refine ⟨GS10, ?_⟩
          refine D_en (by kernel_rfl) rfl rfl ?_
          exact ⟨rfl, _, _, _, _, rfl, rfl, rfl, rfl, rfl, rfl, g10.grow GS10, B47, hZA2.below⟩
         · -- operation 15 comes up
          refine E_alloc (cs := [_, _]) rfl zr35 rfl (fun b49 w49 fb49 g49 B49 => ⟨GS10.grow g49, ?_⟩)
          have lb49 := B49.lt
          replace hA := hA.grow g49
          replace hDA := hDA.grow g49
          replace hDB := hDB.grow g49
          replace hRF := hRF.grow g49
          replace O2 := O2.grow g49
          replace G := G.grow g49
          replace GS10 := GS10.grow g49
          replace B2 := B2.grow g49
          replace B7 := B7.grow g49
          replace B8 := B8.grow g49
          replace B31 := B31.grow g49
          replace B44 := B44.grow g49
          have zg49 := g49.size
          refine D_1 (i := 11) (by kernel_rfl) ?_
          obtain ⟨z3, hz3⟩ : ∃ x, x = w49.heap.size := ⟨_, rfl⟩
          refine E_app (i := 11) rfl Try.underlying32 zr39 sz39 by39 rfl rfl O2 rfl (Src.blk B44) (by simp [Value.oneCell']) (by omega) (Pr' := fun i => ((i = b12 ∨ z1 ≤ i) ∧ i < z2) ∨ z3 ≤ i) (fun i hi => .inl hi) (by first | omega | (dsimp only; omega)) ?_
          intro A50 cap50 w50 X50 m50
          have O3 : OW (fun i => ((i = b12 ∨ z1 ≤ i) ∧ i < z2) ∨ z3 ≤ i) w50 39 3 A50 (h.cells.length + 1) cap50 (flatC (h.cells ++ [⟨true, 0, [((h.cells.length + 1 : Nat) : Int)]⟩]) (rsF ++ [(some ⟨b31, 0, none⟩, 1)])) := by rw [← flat_more hRF.len]; exact X50
          clear X50
          replace G := G.abv m50
          replace GS10 := GS10.abv m50
          replace hA := hA0.grow G
          replace hDA := hDA.md m50
          replace hDB := hDB.md m50
          replace hRF := hRF.md m50
          replace B2 := B2.md m50
          replace B7 := B7.md m50
          replace B8 := B8.md m50
          replace B31 := B31.md m50
          replace B49 := B49.md m50
          have zm50 := m50.size
          have hRF2 := hRF.snoc (c := ⟨true, 0, [((h.cells.length + 1 : Nat) : Int)]⟩) (bc := 1) (R1.of_blkE B31)
          have hZA2 := RC.of_flat O3.lt hRF2 (fun _ h => Or.inl h) (fun _ h => Or.inr h)
          obtain ⟨AZ, rfl⟩ : ∃ x, x = A50 := ⟨_, rfl⟩
          obtain ⟨cZ, rfl⟩ : ∃ x, x = cap50 := ⟨_, rfl⟩
          refine ⟨GS10, ?_⟩
          refine Dq (i := 14) rfl GS10 (fun _ _ => Y_build (cs := [_, _]) zr35 pc35 rfl rfl) ?_
          refine D_1 (i := 16) (by kernel_rfl) ?_
          refine E_stM (pre := []) (old := [_, _]) (post := []) (vs := [_, _]) (i := 16) rfl sz35 rfl rfl rfl (by first | rfl | assumption) B49 rfl rfl ?_
          intro w51 m51 X51
          replace B49 := Blk.eq (ys := [_, _]) X51 rfl
          clear X51
          replace G := G.abv m51
          replace GS10 := GS10.abv m51
          replace hA := hA0.grow G
          replace hDA := hDA.md m51
          replace hDB := hDB.md m51
          replace hZA2 := hZA2.md m51
          replace B2 := B2.md m51
          replace B7 := B7.md m51
          replace B8 := B8.md m51
          replace B31 := B31.md m51
          have zm51 := m51.size
          refine ⟨GS10, ?_⟩
          refine D_en (by kernel_rfl) rfl rfl ?_
          exact ⟨rfl, _, _, _, _, rfl, rfl, rfl, rfl, rfl, rfl, g10.grow GS10, B49, hZA2.below⟩
        · -- operation 15 comes up
         refine E_alloc (cs := [_, _]) rfl zr35 rfl (fun b52 w52 fb52 g52 B52 => ⟨GS10.grow g52, ?_⟩)
         have lb52 := B52.lt
         replace hA := hA.grow g52
         replace hDA := hDA.grow g52
         replace hDB := hDB.grow g52
         replace G := G.grow g52
         replace GS10 := GS10.grow g52
         replace B2 := B2.grow g52
         replace B7 := B7.grow g52
         replace B8 := B8.grow g52
         replace B12 := B12.grow g52
         replace B31 := B31.grow g52
         replace B44 := B44.grow g52
         have zg52 := g52.size
         refine D_1 (i := 3) (by kernel_rfl) ?_
         obtain ⟨rsF, hSF, hRF⟩ := hDA.flat
         have O1 : OW (fun i => i = b12) w52 39 3 (some ⟨b12, 0, none⟩) 0 0 [] := OW.of_blk B12 rfl (by decide) rfl
         obtain ⟨z1, hz1⟩ : ∃ x, x = w52.heap.size := ⟨_, rfl⟩
         refine E_app0 (i := 3) rfl (news := flatC h.cells rsF) Try.underlying32 zr39 sz39 by39 rfl rfl O1 (flatC_len hRF.len) hSF (flatC_one _ _) (by omega) (Pr' := fun i => i = b12 ∨ z1 ≤ i) (fun i hi => .inl hi) (by omega) ?_
         intro A53 cap53 w53 X53 m53
         replace G := G.abv m53
         replace GS10 := GS10.abv m53
         replace hA := hA0.grow G
         replace hDA := hDA.md m53
         replace hDB := hDB.md m53
         replace hRF := hRF.md m53
         replace B2 := B2.md m53
         replace B7 := B7.md m53
         replace B8 := B8.md m53
         replace B31 := B31.md m53
         replace B44 := B44.md m53
         replace B52 := B52.md m53
         have zm53 := m53.size
         obtain ⟨z2, hz2⟩ : ∃ x, x = w53.heap.size := ⟨_, rfl⟩
         have O2 : OW (fun i => (i = b12 ∨ z1 ≤ i) ∧ i < z2) w53 39 3 A53 h.cells.length cap53 (flatC h.cells rsF) := by rw [hz2]; exact X53.lt
         clear O1 X53
         refine ⟨GS10, ?_⟩
         refine D_1 (i := 11) (by kernel_rfl) ?_
         obtain ⟨z3, hz3⟩ : ∃ x, x = w53.heap.size := ⟨_, rfl⟩
         refine E_app (i := 11) rfl Try.underlying32 zr39 sz39 by39 rfl rfl O2 rfl (Src.blk B44) (by simp [Value.oneCell']) (by omega) (Pr' := fun i => ((i = b12 ∨ z1 ≤ i) ∧ i < z2) ∨ z3 ≤ i) (fun i hi => .inl hi) (by first | omega | (dsimp only; omega)) ?_
         intro A54 cap54 w54 X54 m54
         have O3 : OW (fun i => ((i = b12 ∨ z1 ≤ i) ∧ i < z2) ∨ z3 ≤ i) w54 39 3 A54 (h.cells.length + 1) cap54 (flatC (h.cells ++ [⟨true, 0, [((h.cells.length + 1 : Nat) : Int)]⟩]) (rsF ++ [(some ⟨b31, 0, none⟩, 1)])) := by rw [← flat_more hRF.len]; exact X54
         clear X54
         replace G := G.abv m54
         replace GS10 := GS10.abv m54
         replace hA := hA0.grow G
         replace hDA := hDA.md m54
         replace hDB := hDB.md m54
         replace hRF := hRF.md m54
         replace B2 := B2.md m54
         replace B7 := B7.md m54
         replace B8 := B8.md m54
         replace B31 := B31.md m54
         replace B52 := B52.md m54
         have zm54 := m54.size
         have hRF2 := hRF.snoc (c := ⟨true, 0, [((h.cells.length + 1 : Nat) : Int)]⟩) (bc := 1) (R1.of_blkE B31)
         have hZA2 := RC.of_flat O3.lt hRF2 (fun _ h => Or.inl h) (fun _ h => Or.inr h)
         obtain ⟨AZ, rfl⟩ : ∃ x, x = A54 := ⟨_, rfl⟩
         obtain ⟨cZ, rfl⟩ : ∃ x, x = cap54 := ⟨_, rfl⟩
         refine ⟨GS10, ?_⟩
         refine Dq (i := 14) rfl GS10 (fun _ _ => Y_build (cs := [_, _]) zr35 pc35 rfl rfl) ?_
         refine D_1 (i := 16) (by kernel_rfl) ?_
         refine E_stM (pre := []) (old := [_, _]) (post := []) (vs := [_, _]) (i := 16) rfl sz35 rfl rfl rfl (by first | rfl | assumption) B52 rfl rfl ?_
         intro w55 m55 X55
         replace B52 := Blk.eq (ys := [_, _]) X55 rfl
         clear X55
         replace G := G.abv m55
         replace GS10 := GS10.abv m55
         replace hA := hA0.grow G
         replace hDA := hDA.md m55
         replace hDB := hDB.md m55
         replace hZA2 := hZA2.md m55
         replace B2 := B2.md m55
         replace B7 := B7.md m55
         replace B8 := B8.md m55
         replace B31 := B31.md m55
         have zm55 := m55.size
         refine ⟨GS10, ?_⟩
         refine D_en (by kernel_rfl) rfl rfl ?_
         exact ⟨rfl, _, _, _, _, rfl, rfl, rfl, rfl, rfl, rfl, g10.grow GS10, B52, hZA2.below⟩
       · -- operation 15 comes up
        refine E_alloc (cs := [_, _]) rfl zr35 rfl (fun b56 w56 fb56 g56 B56 => ⟨GS10.grow g56, ?_⟩)
        have lb56 := B56.lt
        replace hA := hA.grow g56
        replace hDA := hDA.grow g56
        replace hDB := hDB.grow g56
        replace G := G.grow g56
        replace GS10 := GS10.grow g56
        replace B2 := B2.grow g56
        replace B7 := B7.grow g56
        replace B8 := B8.grow g56
        replace B12 := B12.grow g56
        replace B31 := B31.grow g56
        have zg56 := g56.size
        refine D_2 (i := 3) (j := 10) (by kernel_rfl) ?_ ?_
        · -- operation 3 comes up
         obtain ⟨rsF, hSF, hRF⟩ := hDA.flat
         have O1 : OW (fun i => i = b12) w56 39 3 (some ⟨b12, 0, none⟩) 0 0 [] := OW.of_blk B12 rfl (by decide) rfl
         obtain ⟨z1, hz1⟩ : ∃ x, x = w56.heap.size := ⟨_, rfl⟩
         refine E_app0 (i := 3) rfl (news := flatC h.cells rsF) Try.underlying32 zr39 sz39 by39 rfl rfl O1 (flatC_len hRF.len) hSF (flatC_one _ _) (by omega) (Pr' := fun i => i = b12 ∨ z1 ≤ i) (fun i hi => .inl hi) (by omega) ?_
         intro A57 cap57 w57 X57 m57
         replace G := G.abv m57
         replace GS10 := GS10.abv m57
         replace hA := hA0.grow G
         replace hDA := hDA.md m57
         replace hDB := hDB.md m57
         replace hRF := hRF.md m57
         replace B2 := B2.md m57
         replace B7 := B7.md m57
         replace B8 := B8.md m57
         replace B31 := B31.md m57
         replace B56 := B56.md m57
         have zm57 := m57.size
         obtain ⟨z2, hz2⟩ : ∃ x, x = w57.heap.size := ⟨_, rfl⟩
         have O2 : OW (fun i => (i = b12 ∨ z1 ≤ i) ∧ i < z2) w57 39 3 A57 h.cells.length cap57 (flatC h.cells rsF) := by rw [hz2]; exact X57.lt
         clear O1 X57
         refine ⟨GS10, ?_⟩
         refine D_1 (i := 10) (by kernel_rfl) ?_
         refine E_bs1 (cs := [_, _, _]) (i := 10) rfl Try.underlying32 zr39 sz39 rfl rfl rfl ?_
         intro b58 w58 fb58 g58 B58
         refine ⟨GS10.grow g58, ?_⟩
         have lb58 := B58.lt
         replace hA := hA.grow g58
         replace hDA := hDA.grow g58
         replace hDB := hDB.grow g58
         replace hRF := hRF.grow g58
         replace O2 := O2.grow g58
         replace G := G.grow g58
         replace GS10 := GS10.grow g58
         replace B2 := B2.grow g58
         replace B7 := B7.grow g58
         replace B8 := B8.grow g58
         replace B31 := B31.grow g58
         replace B56 := B56.grow g58
         have zg58 := g58.size
         refine D_1 (i := 11) (by kernel_rfl) ?_
         obtain ⟨z3, hz3⟩ : ∃ x, x = w58.heap.size := ⟨_, rfl⟩
         refine E_app (i := 11) rfl Try.underlying32 zr39 sz39 by39 rfl rfl O2 rfl (Src.blk B58) (by simp [Value.oneCell']) (by omega) (Pr' := fun i => ((i = b12 ∨ z1 ≤ i) ∧ i < z2) ∨ z3 ≤ i) (fun i hi => .inl hi) (by first | omega | (dsimp only; omega)) ?_
         intro A59 cap59 w59 X59 m59
         have O3 : OW (fun i => ((i = b12 ∨ z1 ≤ i) ∧ i < z2) ∨ z3 ≤ i) w59 39 3 A59 (h.cells.length + 1) cap59 (flatC (h.cells ++ [⟨true, 0, [((h.cells.length + 1 : Nat) : Int)]⟩]) (rsF ++ [(some ⟨b31, 0, none⟩, 1)])) := by rw [← flat_more hRF.len]; exact X59
         clear X59
         replace G := G.abv m59
         replace GS10 := GS10.abv m59
         replace hA := hA0.grow G
         replace hDA := hDA.md m59
         replace hDB := hDB.md m59
         replace hRF := hRF.md m59
         replace B2 := B2.md m59
         replace B7 := B7.md m59
         replace B8 := B8.md m59
         replace B31 := B31.md m59
         replace B56 := B56.md m59
         have zm59 := m59.size
         have hRF2 := hRF.snoc (c := ⟨true, 0, [((h.cells.length + 1 : Nat) : Int)]⟩) (bc := 1) (R1.of_blkE B31)
         have hZA2 := RC.of_flat O3.lt hRF2 (fun _ h => Or.inl h) (fun _ h => Or.inr h)
         obtain ⟨AZ, rfl⟩ : ∃ x, x = A59 := ⟨_, rfl⟩
         obtain ⟨cZ, rfl⟩ : ∃ x, x = cap59 := ⟨_, rfl⟩
         refine ⟨GS10, ?_⟩
         refine Dq (i := 14) rfl GS10 (fun _ _ => Y_build (cs := [_, _]) zr35 pc35 rfl rfl) ?_
         refine D_1 (i := 16) (by kernel_rfl) ?_
         refine E_stM (pre := []) (old := [_, _]) (post := []) (vs := [_, _]) (i := 16) rfl sz35 rfl rfl rfl (by first | rfl | assumption) B56 rfl rfl ?_
         intro w60 m60 X60
         replace B56 := Blk.eq (ys := [_, _]) X60 rfl
         clear X60
         replace G := G.abv m60
         replace GS10 := GS10.abv m60
         replace hA := hA0.grow G
         replace hDA := hDA.md m60
         replace hDB := hDB.md m60
         replace hZA2 := hZA2.md m60
         replace B2 := B2.md m60
         replace B7 := B7.md m60
         replace B8 := B8.md m60
         replace B31 := B31.md m60
         have zm60 := m60.size
         refine ⟨GS10, ?_⟩
         refine D_en (by kernel_rfl) rfl rfl ?_
         exact ⟨rfl, _, _, _, _, rfl, rfl, rfl, rfl, rfl, rfl, g10.grow GS10, B56, hZA2.below⟩
        · -- operation 10 comes up
         refine E_bs1 (cs := [_, _, _]) (i := 10) rfl Try.underlying32 zr39 sz39 rfl rfl rfl ?_
         intro b61 w61 fb61 g61 B61
         refine ⟨GS10.grow g61, ?_⟩
         have lb61 := B61.lt
         replace hA := hA.grow g61
         replace hDA := hDA.grow g61
         replace hDB := hDB.grow g61
         replace G := G.grow g61
         replace GS10 := GS10.grow g61
         replace B2 := B2.grow g61
         replace B7 := B7.grow g61
         replace B8 := B8.grow g61
         replace B12 := B12.grow g61
         replace B31 := B31.grow g61
         replace B56 := B56.grow g61
         have zg61 := g61.size
         refine D_1 (i := 3) (by kernel_rfl) ?_
         obtain ⟨rsF, hSF, hRF⟩ := hDA.flat
         have O1 : OW (fun i => i = b12) w61 39 3 (some ⟨b12, 0, none⟩) 0 0 [] := OW.of_blk B12 rfl (by decide) rfl
         obtain ⟨z1, hz1⟩ : ∃ x, x = w61.heap.size := ⟨_, rfl⟩
         refine E_app0 (i := 3) rfl (news := flatC h.cells rsF) Try.underlying32 zr39 sz39 by39 rfl rfl O1 (flatC_len hRF.len) hSF (flatC_one _ _) (by omega) (Pr' := fun i => i = b12 ∨ z1 ≤ i) (fun i hi => .inl hi) (by omega) ?_
         intro A62 cap62 w62 X62 m62
         replace G := G.abv m62
         replace GS10 := GS10.abv m62
         replace hA := hA0.grow G
         replace hDA := hDA.md m62
         replace hDB := hDB.md m62
         replace hRF := hRF.md m62
         replace B2 := B2.md m62
         replace B7 := B7.md m62
         replace B8 := B8.md m62
         replace B31 := B31.md m62
         replace B56 := B56.md m62
         replace B61 := B61.md m62
         have zm62 := m62.size
         obtain ⟨z2, hz2⟩ : ∃ x, x = w62.heap.size := ⟨_, rfl⟩
         have O2 : OW (fun i => (i = b12 ∨ z1 ≤ i) ∧ i < z2) w62 39 3 A62 h.cells.length cap62 (flatC h.cells rsF) := by rw [hz2]; exact X62.lt
         clear O1 X62
         refine ⟨GS10, ?_⟩
         refine D_1 (i := 11) (by kernel_rfl) ?_
         obtain ⟨z3, hz3⟩ : ∃ x, x = w62.heap.size := ⟨_, rfl⟩
         refine E_app (i := 11) rfl Try.underlying32 zr39 sz39 by39 rfl rfl O2 rfl (Src.blk B61) (by simp [Value.oneCell']) (by omega) (Pr' := fun i => ((i = b12 ∨ z1 ≤ i) ∧ i < z2) ∨ z3 ≤ i) (fun i hi => .inl hi) (by first | omega | (dsimp only; omega)) ?_
         intro A63 cap63 w63 X63 m63
         have O3 : OW (fun i => ((i = b12 ∨ z1 ≤ i) ∧ i < z2) ∨ z3 ≤ i) w63 39 3 A63 (h.cells.length + 1) cap63 (flatC (h.cells ++ [⟨true, 0, [((h.cells.length + 1 : Nat) : Int)]⟩]) (rsF ++ [(some ⟨b31, 0, none⟩, 1)])) := by rw [← flat_more hRF.len]; exact X63
         clear X63
         replace G := G.abv m63
         replace GS10 := GS10.abv m63
         replace hA := hA0.grow G
         replace hDA := hDA.md m63
         replace hDB := hDB.md m63
         replace hRF := hRF.md m63
         replace B2 := B2.md m63
         replace B7 := B7.md m63
         replace B8 := B8.md m63
         replace B31 := B31.md m63
         replace B56 := B56.md m63
         have zm63 := m63.size
         have hRF2 := hRF.snoc (c := ⟨true, 0, [((h.cells.length + 1 : Nat) : Int)]⟩) (bc := 1) (R1.of_blkE B31)
         have hZA2 := RC.of_flat O3.lt hRF2 (fun _ h => Or.inl h) (fun _ h => Or.inr h)
         obtain ⟨AZ, rfl⟩ : ∃ x, x = A63 := ⟨_, rfl⟩
         obtain ⟨cZ, rfl⟩ : ∃ x, x = cap63 := ⟨_, rfl⟩
         refine ⟨GS10, ?_⟩
         refine Dq (i := 14) rfl GS10 (fun _ _ => Y_build (cs := [_, _]) zr35 pc35 rfl rfl) ?_
         refine D_1 (i := 16) (by kernel_rfl) ?_
         refine E_stM (pre := []) (old := [_, _]) (post := []) (vs := [_, _]) (i := 16) rfl sz35 rfl rfl rfl (by first | rfl | assumption) B56 rfl rfl ?_
         intro w64 m64 X64
         replace B56 := Blk.eq (ys := [_, _]) X64 rfl
         clear X64
         replace G := G.abv m64
         replace GS10 := GS10.abv m64
         replace hA := hA0.grow G
         replace hDA := hDA.md m64
         replace hDB := hDB.md m64
         replace hZA2 := hZA2.md m64
         replace B2 := B2.md m64
         replace B7 := B7.md m64
         replace B8 := B8.md m64
         replace B31 := B31.md m64
         have zm64 := m64.size
         refine ⟨GS10, ?_⟩
         refine D_en (by kernel_rfl) rfl rfl ?_
         exact ⟨rfl, _, _, _, _, rfl, rfl, rfl, rfl, rfl, rfl, g10.grow GS10, B56, hZA2.below⟩
      · -- operation 15 comes up
       refine E_alloc (cs := [_, _]) rfl zr35 rfl (fun b65 w65 fb65 g65 B65 => ⟨GS10.grow g65, ?_⟩)
       have lb65 := B65.lt
       replace hA := hA.grow g65
       replace hDA := hDA.grow g65
       replace hDB := hDB.grow g65
       replace G := G.grow g65
       replace GS10 := GS10.grow g65
       replace B2 := B2.grow g65
       replace B7 := B7.grow g65
       replace B8 := B8.grow g65
       replace B12 := B12.grow g65
       have zg65 := g65.size
       refine D_2 (i := 3) (j := 8) (by kernel_rfl) ?_ ?_
       · -- operation 3 comes up
        obtain ⟨rsF, hSF, hRF⟩ := hDA.flat
        have O1 : OW (fun i => i = b12) w65 39 3 (some ⟨b12, 0, none⟩) 0 0 [] := OW.of_blk B12 rfl (by decide) rfl
        obtain ⟨z1, hz1⟩ : ∃ x, x = w65.heap.size := ⟨_, rfl⟩
        refine E_app0 (i := 3) rfl (news := flatC h.cells rsF) Try.underlying32 zr39 sz39 by39 rfl rfl O1 (flatC_len hRF.len) hSF (flatC_one _ _) (by omega) (Pr' := fun i => i = b12 ∨ z1 ≤ i) (fun i hi => .inl hi) (by omega) ?_
        intro A66 cap66 w66 X66 m66
        replace G := G.abv m66
        replace GS10 := GS10.abv m66
        replace hA := hA0.grow G
        replace hDA := hDA.md m66
        replace hDB := hDB.md m66
        replace hRF := hRF.md m66
        replace B2 := B2.md m66
        replace B7 := B7.md m66
        replace B8 := B8.md m66
        replace B65 := B65.md m66
        have zm66 := m66.size
        obtain ⟨z2, hz2⟩ : ∃ x, x = w66.heap.size := ⟨_, rfl⟩
        have O2 : OW (fun i => (i = b12 ∨ z1 ≤ i) ∧ i < z2) w66 39 3 A66 h.cells.length cap66 (flatC h.cells rsF) := by rw [hz2]; exact X66.lt
        clear O1 X66
        refine ⟨GS10, ?_⟩
        refine D_1 (i := 8) (by kernel_rfl) ?_
        refine E_bs1 (cs := [_]) (i := 8) rfl Try.underlying33 zr3 sz3 rfl rfl rfl ?_
        intro b67 w67 fb67 g67 B67
        refine ⟨GS10.grow g67, ?_⟩
        have lb67 := B67.lt
        replace hA := hA.grow g67
        replace hDA := hDA.grow g67
        replace hDB := hDB.grow g67
        replace hRF := hRF.grow g67
        replace O2 := O2.grow g67
        replace G := G.grow g67
        replace GS10 := GS10.grow g67
        replace B2 := B2.grow g67
        replace B7 := B7.grow g67
        replace B8 := B8.grow g67
        replace B65 := B65.grow g67
        have zg67 := g67.size
        refine Dq (i := 9) rfl GS10 (fun _ _ => Y_build (cs := [_, _, _]) zr39 pc39 rfl rfl) ?_
        refine D_1 (i := 10) (by kernel_rfl) ?_
        refine E_bs1 (cs := [_, _, _]) (i := 10) rfl Try.underlying32 zr39 sz39 rfl rfl rfl ?_
        intro b68 w68 fb68 g68 B68
        refine ⟨GS10.grow g68, ?_⟩
        have lb68 := B68.lt
        replace hA := hA.grow g68
        replace hDA := hDA.grow g68
        replace hDB := hDB.grow g68
        replace hRF := hRF.grow g68
        replace O2 := O2.grow g68
        replace G := G.grow g68
        replace GS10 := GS10.grow g68
        replace B2 := B2.grow g68
        replace B7 := B7.grow g68
        replace B8 := B8.grow g68
        replace B65 := B65.grow g68
        replace B67 := B67.grow g68
        have zg68 := g68.size
        refine D_1 (i := 11) (by kernel_rfl) ?_
        obtain ⟨z3, hz3⟩ : ∃ x, x = w68.heap.size := ⟨_, rfl⟩
        refine E_app (i := 11) rfl Try.underlying32 zr39 sz39 by39 rfl rfl O2 rfl (Src.blk B68) (by simp [Value.oneCell']) (by omega) (Pr' := fun i => ((i = b12 ∨ z1 ≤ i) ∧ i < z2) ∨ z3 ≤ i) (fun i hi => .inl hi) (by first | omega | (dsimp only; omega)) ?_
        intro A69 cap69 w69 X69 m69
        have O3 : OW (fun i => ((i = b12 ∨ z1 ≤ i) ∧ i < z2) ∨ z3 ≤ i) w69 39 3 A69 (h.cells.length + 1) cap69 (flatC (h.cells ++ [⟨true, 0, [((h.cells.length + 1 : Nat) : Int)]⟩]) (rsF ++ [(some ⟨b67, 0, none⟩, 1)])) := by rw [← flat_more hRF.len]; exact X69
        clear X69
        replace G := G.abv m69
        replace GS10 := GS10.abv m69
        replace hA := hA0.grow G
        replace hDA := hDA.md m69
        replace hDB := hDB.md m69
        replace hRF := hRF.md m69
        replace B2 := B2.md m69
        replace B7 := B7.md m69
        replace B8 := B8.md m69
        replace B65 := B65.md m69
        replace B67 := B67.md m69
        have zm69 := m69.size
        have hRF2 := hRF.snoc (c := ⟨true, 0, [((h.cells.length + 1 : Nat) : Int)]⟩) (bc := 1) (R1.of_blkE B67)
        have hZA2 := RC.of_flat O3.lt hRF2 (fun _ h => Or.inl h) (fun _ h => Or.inr h)
        obtain ⟨AZ, rfl⟩ : ∃ x, x = A69 := ⟨_, rfl⟩
        obtain ⟨cZ, rfl⟩ : ∃ x, x = cap69 := ⟨_, rfl⟩
        refine ⟨GS10, ?_⟩
        refine Dq (i := 14) rfl GS10 (fun _ _ => Y_build (cs := [_, _]) zr35 pc35 rfl rfl) ?_
        refine D_1 (i := 16) (by kernel_rfl) ?_
        refine E_stM (pre := []) (old := [_, _]) (post := []) (vs := [_, _]) (i := 16) rfl sz35 rfl rfl rfl (by first | rfl | assumption) B65 rfl rfl ?_
        intro w70 m70 X70
        replace B65 := Blk.eq (ys := [_, _]) X70 rfl
        clear X70
        replace G := G.abv m70
        replace GS10 := GS10.abv m70
        replace hA := hA0.grow G
        replace hDA := hDA.md m70
        replace hDB := hDB.md m70
        replace hZA2 := hZA2.md m70
        replace B2 := B2.md m70
        replace B7 := B7.md m70
        replace B8 := B8.md m70
        replace B67 := B67.md m70
        have zm70 := m70.size
        refine ⟨GS10, ?_⟩
        refine D_en (by kernel_rfl) rfl rfl ?_
        exact ⟨rfl, _, _, _, _, rfl, rfl, rfl, rfl, rfl, rfl, g10.grow GS10, B65, hZA2.below⟩
       · -- operation 8 comes up
        refine E_bs1 (cs := [_]) (i := 8) rfl Try.underlying33 zr3 sz3 rfl rfl rfl ?_
        intro b71 w71 fb71 g71 B71
        refine ⟨GS10.grow g71, ?_⟩
        have lb71 := B71.lt
        replace hA := hA.grow g71
        replace hDA := hDA.grow g71
        replace hDB := hDB.grow g71
        replace G := G.grow g71
        replace GS10 := GS10.grow g71
        replace B2 := B2.grow g71
        replace B7 := B7.grow g71
        replace B8 := B8.grow g71
        replace B12 := B12.grow g71
        replace B65 := B65.grow g71
        have zg71 := g71.size
        refine Dq (i := 9) rfl GS10 (fun _ _ => Y_build (cs := [_, _, _]) zr39 pc39 rfl rfl) ?_
        refine D_2 (i := 3) (j := 10) (by kernel_rfl) ?_ ?_
        · -- operation 3 comes up
         obtain ⟨rsF, hSF, hRF⟩ := hDA.flat
         have O1 : OW (fun i => i = b12) w71 39 3 (some ⟨b12, 0, none⟩) 0 0 [] := OW.of_blk B12 rfl (by decide) rfl
         obtain ⟨z1, hz1⟩ : ∃ x, x = w71.heap.size := ⟨_, rfl⟩
         refine E_app0 (i := 3) rfl (news := flatC h.cells rsF) Try.underlying32 zr39 sz39 by39 rfl rfl O1 (flatC_len hRF.len) hSF (flatC_one _ _) (by omega) (Pr' := fun i => i = b12 ∨ z1 ≤ i) (fun i hi => .inl hi) (by omega) ?_
         intro A72 cap72 w72 X72 m72
         replace G := G.abv m72
         replace GS10 := GS10.abv m72
         replace hA := hA0.grow G
         replace hDA := hDA.md m72
         replace hDB := hDB.md m72
         replace hRF := hRF.md m72
         replace B2 := B2.md m72
         replace B7 := B7.md m72
         replace B8 := B8.md m72
         replace B65 := B65.md m72
         replace B71 := B71.md m72
         have zm72 := m72.size
         obtain ⟨z2, hz2⟩ : ∃ x, x = w72.heap.size := ⟨_, rfl⟩
         have O2 : OW (fun i => (i = b12 ∨ z1 ≤ i) ∧ i < z2) w72 39 3 A72 h.cells.length cap72 (flatC h.cells rsF) := by rw [hz2]; exact X72.lt
         clear O1 X72
         refine ⟨GS10, ?_⟩
         refine D_1 (i := 10) (by kernel_rfl) ?_
         refine E_bs1 (cs := [_, _, _]) (i := 10) rfl Try.underlying32 zr39 sz39 rfl rfl rfl ?_
         intro b73 w73 fb73 g73 B73
         refine ⟨GS10.grow g73, ?_⟩
         have lb73 := B73.lt
         replace hA := hA.grow g73
         replace hDA := hDA.grow g73
         replace hDB := hDB.grow g73
         replace hRF := hRF.grow g73
         replace O2 := O2.grow g73
         replace G := G.grow g73
         replace GS10 := GS10.grow g73
         replace B2 := B2.grow g73
         replace B7 := B7.grow g73
         replace B8 := B8.grow g73
         replace B65 := B65.grow g73
         replace B71 := B71.grow g73
         have zg73 := g73.size
         refine D_1 (i := 11) (by kernel_rfl) ?_
         obtain ⟨z3, hz3⟩ : ∃ x, x = w73.heap.size := ⟨_, rfl⟩
         refine E_app (i := 11) rfl Try.underlying32 zr39 sz39 by39 rfl rfl O2 rfl (Src.blk B73) (by simp [Value.oneCell']) (by omega) (Pr' := fun i => ((i = b12 ∨ z1 ≤ i) ∧ i < z2) ∨ z3 ≤ i) (fun i hi => .inl hi) (by first | omega | (dsimp only; omega)) ?_
         intro A74 cap74 w74 X74 m74
         have O3 : OW (fun i => ((i = b12 ∨ z1 ≤ i) ∧ i < z2) ∨ z3 ≤ i) w74 39 3 A74 (h.cells.length + 1) cap74 (flatC (h.cells ++ [⟨true, 0, [((h.cells.length + 1 : Nat) : Int)]⟩]) (rsF ++ [(some ⟨b71, 0, none⟩, 1)])) := by rw [← flat_more hRF.len]; exact X74
         clear X74
         replace G := G.abv m74
         replace GS10 := GS10.abv m74
         replace hA := hA0.grow G
         replace hDA := hDA.md m74
         replace hDB := hDB.md m74
         replace hRF := hRF.md m74
         replace B2 := B2.md m74
         replace B7 := B7.md m74
         replace B8 := B8.md m74
         replace B65 := B65.md m74
         replace B71 := B71.md m74
         have zm74 := m74.size
         have hRF2 := hRF.snoc (c := ⟨true, 0, [((h.cells.length + 1 : Nat) : Int)]⟩) (bc := 1) (R1.of_blkE B71)
         have hZA2 := RC.of_flat O3.lt hRF2 (fun _ h => Or.inl h) (fun _ h => Or.inr h)
         obtain ⟨AZ, rfl⟩ : ∃ x, x = A74 := ⟨_, rfl⟩
         obtain ⟨cZ, rfl⟩ : ∃ x, x = cap74 := ⟨_, rfl⟩
         refine ⟨GS10, ?_⟩
         refine Dq (i := 14) rfl GS10 (fun _ _ => Y_build (cs := [_, _]) zr35 pc35 rfl rfl) ?_
         refine D_1 (i := 16) (by kernel_rfl) ?_
         refine E_stM (pre := []) (old := [_, _]) (post := []) (vs := [_, _]) (i := 16) rfl sz35 rfl rfl rfl (by first | rfl | assumption) B65 rfl rfl ?_
         intro w75 m75 X75
         replace B65 := Blk.eq (ys := [_, _]) X75 rfl
         clear X75
         replace G := G.abv m75
         replace GS10 := GS10.abv m75
         replace hA := hA0.grow G
         replace hDA := hDA.md m75
         replace hDB := hDB.md m75
         replace hZA2 := hZA2.md m75
         replace B2 := B2.md m75
         replace B7 := B7.md m75
         replace B8 := B8.md m75
         replace B71 := B71.md m75
         have zm75 := m75.size
         refine ⟨GS10, ?_⟩
         refine D_en (by kernel_rfl) rfl rfl ?_
         exact ⟨rfl, _, _, _, _, rfl, rfl, rfl, rfl, rfl, rfl, g10.grow GS10, B65, hZA2.below⟩
        · -- operation 10 comes up
         refine E_bs1 (cs := [_, _, _]) (i := 10) rfl Try.underlying32 zr39 sz39 rfl rfl rfl ?_
         intro b76 w76 fb76 g76 B76
         refine ⟨GS10.grow g76, ?_⟩
         have lb76 := B76.lt
         replace hA := hA.grow g76
         replace hDA := hDA.grow g76
         replace hDB := hDB.grow g76
         replace G := G.grow g76
         replace GS10 := GS10.grow g76
         replace B2 := B2.grow g76
         replace B7 := B7.grow g76
         replace B8 := B8.grow g76
         replace B12 := B12.grow g76
         replace B65 := B65.grow g76
         replace B71 := B71.grow g76
         have zg76 := g76.size
         refine D_1 (i := 3) (by kernel_rfl) ?_
         obtain ⟨rsF, hSF, hRF⟩ := hDA.flat
         have O1 : OW (fun i => i = b12) w76 39 3 (some ⟨b12, 0, none⟩) 0 0 [] := OW.of_blk B12 rfl (by decide) rfl
         obtain ⟨z1, hz1⟩ : ∃ x, x = w76.heap.size := ⟨_, rfl⟩
         refine E_app0 (i := 3) rfl (news := flatC h.cells rsF) Try.underlying32 zr39 sz39 by39 rfl rfl O1 (flatC_len hRF.len) hSF (flatC_one _ _) (by omega) (Pr' := fun i => i = b12 ∨ z1 ≤ i) (fun i hi => .inl hi) (by omega) ?_
         intro A77 cap77 w77 X77 m77
         replace G := G.abv m77
         replace GS10 := GS10.abv m77
         replace hA := hA0.grow G
         replace hDA := hDA.md m77
         replace hDB := hDB.md m77
         replace hRF := hRF.md m77
         replace B2 := B2.md m77
         replace B7 := B7.md m77
         replace B8 := B8.md m77
         replace B65 := B65.md m77
         replace B71 := B71.md m77
         replace B76 := B76.md m77
         have zm77 := m77.size
         obtain ⟨z2, hz2⟩ : ∃ x, x = w77.heap.size := ⟨_, rfl⟩
         have O2 : OW (fun i => (i = b12 ∨ z1 ≤ i) ∧ i < z2) w77 39 3 A77 h.cells.length cap77 (flatC h.cells rsF) := by rw [hz2]; exact X77.lt
         clear O1 X77
         refine ⟨GS10, ?_⟩
         refine D_1 (i := 11) (by kernel_rfl) ?_
         obtain ⟨z3, hz3⟩ : ∃ x, x = w77.heap.size := ⟨_, rfl⟩
         refine E_app (i := 11) rfl Try.underlying32 zr39 sz39 by39 rfl rfl O2 rfl (Src.blk B76) (by simp [Value.oneCell']) (by omega) (Pr' := fun i => ((i = b12 ∨ z1 ≤ i) ∧ i < z2) ∨ z3 ≤ i) (fun i hi => .inl hi) (by first | omega | (dsimp only; omega)) ?_
         intro A78 cap78 w78 X78 m78
         have O3 : OW (fun i => ((i = b12 ∨ z1 ≤ i) ∧ i < z2) ∨ z3 ≤ i) w78 39 3 A78 (h.cells.length + 1) cap78 (flatC (h.cells ++ [⟨true, 0, [((h.cells.length + 1 : Nat) : Int)]⟩]) (rsF ++ [(some ⟨b71, 0, none⟩, 1)])) := by rw [← flat_more hRF.len]; exact X78
         clear X78
         replace G := G.abv m78
         replace GS10 := GS10.abv m78
         replace hA := hA0.grow G
         replace hDA := hDA.md m78
         replace hDB := hDB.md m78
         replace hRF := hRF.md m78
         replace B2 := B2.md m78
         replace B7 := B7.md m78
         replace B8 := B8.md m78
         replace B65 := B65.md m78
         replace B71 := B71.md m78
         have zm78 := m78.size
         have hRF2 := hRF.snoc (c := ⟨true, 0, [((h.cells.length + 1 : Nat) : Int)]⟩) (bc := 1) (R1.of_blkE B71)
         have hZA2 := RC.of_flat O3.lt hRF2 (fun _ h => Or.inl h) (fun _ h => Or.inr h)
         obtain ⟨AZ, rfl⟩ : ∃ x, x = A78 := ⟨_, rfl⟩
         obtain ⟨cZ, rfl⟩ : ∃ x, x = cap78 := ⟨_, rfl⟩
         refine ⟨GS10, ?_⟩
         refine Dq (i := 14) rfl GS10 (fun _ _ => Y_build (cs := [_, _]) zr35 pc35 rfl rfl) ?_
         refine D_1 (i := 16) (by kernel_rfl) ?_
         refine E_stM (pre := []) (old := [_, _]) (post := []) (vs := [_, _]) (i := 16) rfl sz35 rfl rfl rfl (by first | rfl | assumption) B65 rfl rfl ?_
         intro w79 m79 X79
         replace B65 := Blk.eq (ys := [_, _]) X79 rfl
         clear X79
         replace G := G.abv m79
         replace GS10 := GS10.abv m79
         replace hA := hA0.grow G
         replace hDA := hDA.md m79
         replace hDB := hDB.md m79
         replace hZA2 := hZA2.md m79
         replace B2 := B2.md m79
         replace B7 := B7.md m79
         replace B8 := B8.md m79
         replace B71 := B71.md m79
         have zm79 := m79.size
         refine ⟨GS10, ?_⟩
         refine D_en (by kernel_rfl) rfl rfl ?_
         exact ⟨rfl, _, _, _, _, rfl, rfl, rfl, rfl, rfl, rfl, g10.grow GS10, B65, hZA2.below⟩
     · -- operation 8 comes up
      refine E_bs1 (cs := [_]) (i := 8) rfl Try.underlying33 zr3 sz3 rfl rfl rfl ?_
      intro b80 w80 fb80 g80 B80
      refine ⟨GS10.grow g80, ?_⟩
      have lb80 := B80.lt
      replace hA := hA.grow g80
      replace hDA := hDA.grow g80
      replace hDB := hDB.grow g80
      replace G := G.grow g80
      replace GS10 := GS10.grow g80
      replace B2 := B2.grow g80
      replace B7 := B7.grow g80
      replace B8 := B8.grow g80
      have zg80 := g80.size
      refine Dq (i := 9) rfl GS10 (fun _ _ => Y_build (cs := [_, _, _]) zr39 pc39 rfl rfl) ?_
      refine D_3 (i := 0) (j := 10) (k := 15) (by kernel_rfl) ?_ ?_ ?_
      · -- operation 0 comes up
       refine E_bs0 (i := 0) rfl Try.underlying32 sz39 ?_
       intro b81 w81 fb81 g81 B81
       refine ⟨GS10.grow g81, ?_⟩
       have lb81 := B81.lt
       replace hA := hA.grow g81
       replace hDA := hDA.grow g81
       replace hDB := hDB.grow g81
       replace G := G.grow g81
       replace GS10 := GS10.grow g81
       replace B2 := B2.grow g81
       replace B7 := B7.grow g81
       replace B8 := B8.grow g81
       replace B80 := B80.grow g81
       have zg81 := g81.size
       refine D_3 (i := 3) (j := 10) (k := 15) (by kernel_rfl) ?_ ?_ ?_
       · -- operation 3 comes up
        obtain ⟨rsF, hSF, hRF⟩ := hDA.flat
        have O1 : OW (fun i => i = b81) w81 39 3 (some ⟨b81, 0, none⟩) 0 0 [] := OW.of_blk B81 rfl (by decide) rfl
        obtain ⟨z1, hz1⟩ : ∃ x, x = w81.heap.size := ⟨_, rfl⟩
        refine E_app0 (i := 3) rfl (news := flatC h.cells rsF) Try.underlying32 zr39 sz39 by39 rfl rfl O1 (flatC_len hRF.len) hSF (flatC_one _ _) (by omega) (Pr' := fun i => i = b81 ∨ z1 ≤ i) (fun i hi => .inl hi) (by omega) ?_
        intro A82 cap82 w82 X82 m82
        replace G := G.abv m82
        replace GS10 := GS10.abv m82
        replace hA := hA0.grow G
        replace hDA := hDA.md m82
        replace hDB := hDB.md m82
        replace hRF := hRF.md m82
        replace B2 := B2.md m82
        replace B7 := B7.md m82
        replace B8 := B8.md m82
        replace B80 := B80.md m82
        have zm82 := m82.size
        obtain ⟨z2, hz2⟩ : ∃ x, x = w82.heap.size := ⟨_, rfl⟩
        have O2 : OW (fun i => (i = b81 ∨ z1 ≤ i) ∧ i < z2) w82 39 3 A82 h.cells.length cap82 (flatC h.cells rsF) := by rw [hz2]; exact X82.lt
        clear O1 X82
        refine ⟨GS10, ?_⟩
        refine D_2 (i := 10) (j := 15) (by kernel_rfl) ?_ ?_
        · -- operation 10 comes up
         refine E_bs1 (cs := [_, _, _]) (i := 10) rfl Try.underlying32 zr39 sz39 rfl rfl rfl ?_
         intro b83 w83 fb83 g83 B83
         refine ⟨GS10.grow g83, ?_⟩
         have lb83 := B83.lt
         replace hA := hA.grow g83
         replace hDA := hDA.grow g83
         replace hDB := hDB.grow g83
         replace hRF := hRF.grow g83
         replace O2 := O2.grow g83
         replace G := G.grow g83
         replace GS10 := GS10.grow g83
         replace B2 := B2.grow g83
         replace B7 := B7.grow g83
         replace B8 := B8.grow g83
         replace B80 := B80.grow g83
         have zg83 := g83.size
         refine D_2 (i := 11) (j := 15) (by kernel_rfl) ?_ ?_
         · -- operation 11 comes up
          obtain ⟨z3, hz3⟩ : ∃ x, x = w83.heap.size := ⟨_, rfl⟩
          refine E_app (i := 11) rfl Try.underlying32 zr39 sz39 by39 rfl rfl O2 rfl (Src.blk B83) (by simp [Value.oneCell']) (by omega) (Pr' := fun i => ((i = b81 ∨ z1 ≤ i) ∧ i < z2) ∨ z3 ≤ i) (fun i hi => .inl hi) (by first | omega | (dsimp only; omega)) ?_
          intro A84 cap84 w84 X84 m84
          have O3 : OW (fun i => ((i = b81 ∨ z1 ≤ i) ∧ i < z2) ∨ z3 ≤ i) w84 39 3 A84 (h.cells.length + 1) cap84 (flatC (h.cells ++ [⟨true, 0, [((h.cells.length + 1 : Nat) : Int)]⟩]) (rsF ++ [(some ⟨b80, 0, none⟩, 1)])) := by rw [← flat_more hRF.len]; exact X84
          clear X84
          replace G := G.abv m84
          replace GS10 := GS10.abv m84
          replace hA := hA0.grow G
          replace hDA := hDA.md m84
          replace hDB := hDB.md m84
          replace hRF := hRF.md m84
          replace B2 := B2.md m84
          replace B7 := B7.md m84
          replace B8 := B8.md m84
          replace B80 := B80.md m84
          have zm84 := m84.size
          have hRF2 := hRF.snoc (c := ⟨true, 0, [((h.cells.length + 1 : Nat) : Int)]⟩) (bc := 1) (R1.of_blkE B80)
          have hZA2 := RC.of_flat O3.lt hRF2 (fun _ h => Or.inl h) (fun _ h => Or.inr h)
          obtain ⟨AZ, rfl⟩ : ∃ x, x = A84 := ⟨_, rfl⟩
          obtain ⟨cZ, rfl⟩ : ∃ x, x = cap84 := ⟨_, rfl⟩
          refine ⟨GS10, ?_⟩
          refine Dq (i := 14) rfl GS10 (fun _ _ => Y_build (cs := [_, _]) zr35 pc35 rfl rfl) ?_
          refine D_1 (i := 15) (by kernel_rfl) ?_
          refine E_alloc (cs := [_, _]) rfl zr35 rfl (fun b85 w85 fb85 g85 B85 => ⟨GS10.grow g85, ?_⟩)
          have lb85 := B85.lt
          replace hA := hA.grow g85
          replace hDA := hDA.grow g85
          replace hDB := hDB.grow g85
          replace hZA2 := hZA2.grow g85
          replace G := G.grow g85
          replace GS10 := GS10.grow g85
          replace B2 := B2.grow g85
          replace B7 := B7.grow g85
          replace B8 := B8.grow g85
          replace B80 := B80.grow g85
          have zg85 := g85.size
          refine D_1 (i := 16) (by kernel_rfl) ?_
          refine E_stM (pre := []) (old := [_, _]) (post := []) (vs := [_, _]) (i := 16) rfl sz35 rfl rfl rfl (by first | rfl | assumption) B85 rfl rfl ?_
          intro w86 m86 X86
          replace B85 := Blk.eq (ys := [_, _]) X86 rfl
          clear X86
          replace G := G.abv m86
          replace GS10 := GS10.abv m86
          replace hA := hA0.grow G
          replace hDA := hDA.md m86
          replace hDB := hDB.md m86
          replace hZA2 := hZA2.md m86
          replace B2 := B2.md m86
          replace B7 := B7.md m86
          replace B8 := B8.md m86
          replace B80 := B80.md m86
          have zm86 := m86.size
          refine ⟨GS10, ?_⟩
          refine D_en (by kernel_rfl) rfl rfl ?_
          exact ⟨rfl, _, _, _, _, rfl, rfl, rfl, rfl, rfl, rfl, g10.grow GS10, B85, hZA2.below⟩
         · -- operation 15 comes up
          refine E_alloc (cs := [_, _]) rfl zr35 rfl (fun b87 w87 fb87 g87 B87 => ⟨GS10.grow g87, ?_⟩)
          have lb87 := B87.lt
          replace hA := hA.grow g87
          replace hDA := hDA.grow g87
          replace hDB := hDB.grow g87
          replace hRF := hRF.grow g87
          replace O2 := O2.grow g87
          replace G := G.grow g87
          replace GS10 := GS10.grow g87
          replace B2 := B2.grow g87
          replace B7 := B7.grow g87
          replace B8 := B8.grow g87
          replace B80 := B80.grow g87
          replace B83 := B83.grow g87
          have zg87 := g87.size
          refine D_1 (i := 11) (by kernel_rfl) ?_
          obtain ⟨z3, hz3⟩ : ∃ x, x = w87.heap.size := ⟨_, rfl⟩
          refine E_app (i := 11) rfl Try.underlying32 zr39 sz39 by39 rfl rfl O2 rfl (Src.blk B83) (by simp [Value.oneCell']) (by omega) (Pr' := fun i => ((i = b81 ∨ z1 ≤ i) ∧ i < z2) ∨ z3 ≤ i) (fun i hi => .inl hi) (by first | omega | (dsimp only; omega)) ?_
          intro A88 cap88 w88 X88 m88
          have O3 : OW (fun i => ((i = b81 ∨ z1 ≤ i) ∧ i < z2) ∨ z3 ≤ i) w88 39 3 A88 (h.cells.length + 1) cap88 (flatC (h.cells ++ [⟨true, 0, [((h.cells.length + 1 : Nat) : Int)]⟩]) (rsF ++ [(some ⟨b80, 0, none⟩, 1)])) := by rw [← flat_more hRF.len]; exact X88
          clear X88
          replace G := G.abv m88
          replace GS10 := GS10.abv m88
          replace hA := hA0.grow G
          replace hDA := hDA.md m88
          replace hDB := hDB.md m88
          replace hRF := hRF.md m88
          replace B2 := B2.md m88
          replace B7 := B7.md m88
          replace B8 := B8.md m88
          replace B80 := B80.md m88
          replace B87 := B87.md m88
          have zm88 := m88.size
          have hRF2 := hRF.snoc (c := ⟨true, 0, [((h.cells.length + 1 : Nat) : Int)]⟩) (bc := 1) (R1.of_blkE B80)
          have hZA2 := RC.of_flat O3.lt hRF2 (fun _ h => Or.inl h) (fun _ h => Or.inr h)
          obtain ⟨AZ, rfl⟩ : ∃ x, x = A88 := ⟨_, rfl⟩
          obtain ⟨cZ, rfl⟩ : ∃ x, x = cap88 := ⟨_, rfl⟩
          refine ⟨GS10, ?_⟩
          refine Dq (i := 14) rfl GS10 (fun _ _ => Y_build (cs := [_, _]) zr35 pc35 rfl rfl) ?_
          refine D_1 (i := 16) (by kernel_rfl) ?_
          refine E_stM (pre := []) (old := [_, _]) (post := []) (vs := [_, _]) (i := 16) rfl sz35 rfl rfl rfl (by first | rfl | assumption) B87 rfl rfl ?_
          intro w89 m89 X89
          replace B87 := Blk.eq (ys := [_, _]) X89 rfl
          clear X89
          replace G := G.abv m89
          replace GS10 := GS10.abv m89
          replace hA := hA0.grow G
          replace hDA := hDA.md m89
          replace hDB := hDB.md m89
          replace hZA2 := hZA2.md m89
          replace B2 := B2.md m89
          replace B7 := B7.md m89
          replace B8 := B8.md m89
          replace B80 := B80.md m89
          have zm89 := m89.size
          refine ⟨GS10, ?_⟩
          refine D_en (by kernel_rfl) rfl rfl ?_
          exact ⟨rfl, _, _, _, _, rfl, rfl, rfl, rfl, rfl, rfl, g10.grow GS10, B87, hZA2.below⟩
        · -- operation 15 comes up
         refine E_alloc (cs := [_, _]) rfl zr35 rfl (fun b90 w90 fb90 g90 B90 => ⟨GS10.grow g90, ?_⟩)
         have lb90 := B90.lt
         replace hA := hA.grow g90
         replace hDA := hDA.grow g90
         replace hDB := hDB.grow g90
         replace hRF := hRF.grow g90
         replace O2 := O2.grow g90
         replace G := G.grow g90
         replace GS10 := GS10.grow g90
         replace B2 := B2.grow g90
         replace B7 := B7.grow g90
         replace B8 := B8.grow g90
         replace B80 := B80.grow g90
         have zg90 := g90.size
         refine D_1 (i := 10) (by kernel_rfl) ?_
         refine E_bs1 (cs := [_, _, _]) (i := 10) rfl Try.underlying32 zr39 sz39 rfl rfl rfl ?_
         intro b91 w91 fb91 g91 B91
         refine ⟨GS10.grow g91, ?_⟩
         have lb91 := B91.lt
         replace hA := hA.grow g91
         replace hDA := hDA.grow g91
         replace hDB := hDB.grow g91
         replace hRF := hRF.grow g91
         replace O2 := O2.grow g91
         replace G := G.grow g91
         replace GS10 := GS10.grow g91
         replace B2 := B2.grow g91
         replace B7 := B7.grow g91
         replace B8 := B8.grow g91
         replace B80 := B80.grow g91
         replace B90 := B90.grow g91
         have zg91 := g91.size
         refine D_1 (i := 11) (by kernel_rfl) ?_
         obtain ⟨z3, hz3⟩ : ∃ x, x = w91.heap.size := ⟨_, rfl⟩
         refine E_app (i := 11) rfl Try.underlying32 zr39 sz39 by39 rfl rfl O2 rfl (Src.blk B91) (by simp [Value.oneCell']) (by omega) (Pr' := fun i => ((i = b81 ∨ z1 ≤ i) ∧ i < z2) ∨ z3 ≤ i) (fun i hi => .inl hi) (by first | omega | (dsimp only; omega)) ?_
         intro A92 cap92 w92 X92 m92
         have O3 : OW (fun i => ((i = b81 ∨ z1 ≤ i) ∧ i < z2) ∨ z3 ≤ i) w92 39 3 A92 (h.cells.length + 1) cap92 (flatC (h.cells ++ [⟨true, 0, [((h.cells.length + 1 : Nat) : Int)]⟩]) (rsF ++ [(some ⟨b80, 0, none⟩, 1)])) := by rw [← flat_more hRF.len]; exact X92
         clear X92
         replace G := G.abv m92
         replace GS10 := GS10.abv m92
         replace hA := hA0.grow G
         replace hDA := hDA.md m92
         replace hDB := hDB.md m92
         replace hRF := hRF.md m92
         replace B2 := B2.md m92
         replace B7 := B7.md m92
         replace B8 := B8.md m92
         replace B80 := B80.md m92
         replace B90 := B90.md m92
         have zm92 := m92.size
         have hRF2 := hRF.snoc (c := ⟨true, 0, [((h.cells.length + 1 : Nat) : Int)]⟩) (bc := 1) (R1.of_blkE B80)
         have hZA2 := RC.of_flat O3.lt hRF2 (fun _ h => Or.inl h) (fun _ h => Or.inr h)
         obtain ⟨AZ, rfl⟩ : ∃ x, x = A92 := ⟨_, rfl⟩
         obtain ⟨cZ, rfl⟩ : ∃ x, x = cap92 := ⟨_, rfl⟩
         refine ⟨GS10, ?_⟩
         refine Dq (i := 14) rfl GS10 (fun _ _ => Y_build (cs := [_, _]) zr35 pc35 rfl rfl) ?_
         refine D_1 (i := 16) (by kernel_rfl) ?_
         refine E_stM (pre := []) (old := [_, _]) (post := []) (vs := [_, _]) (i := 16) rfl sz35 rfl rfl rfl (by first | rfl | assumption) B90 rfl rfl ?_
         intro w93 m93 X93
         replace B90 := Blk.eq (ys := [_, _]) X93 rfl
         clear X93
         replace G := G.abv m93
         replace GS10 := GS10.abv m93
         replace hA := hA0.grow G
         replace hDA := hDA.md m93
         replace hDB := hDB.md m93
         replace hZA2 := hZA2.md m93
         replace B2 := B2.md m93
         replace B7 := B7.md m93
         replace B8 := B8.md m93
         replace B80 := B80.md m93
         have zm93 := m93.size
         refine ⟨GS10, ?_⟩
         refine D_en (by kernel_rfl) rfl rfl ?_
         exact ⟨rfl, _, _, _, _, rfl, rfl, rfl, rfl, rfl, rfl, g10.grow GS10, B90, hZA2.below⟩
       · -- operation 10 comes up
        refine E_bs1 (cs := [_, _, _]) (i := 10) rfl Try.underlying32 zr39 sz39 rfl rfl rfl ?_
        intro b94 w94 fb94 g94 B94
        refine ⟨GS10.grow g94, ?_⟩
        have lb94 := B94.lt
        replace hA := hA.grow g94
        replace hDA := hDA.grow g94
        replace hDB := hDB.grow g94
        replace G := G.grow g94
        replace GS10 := GS10.grow g94
        replace B2 := B2.grow g94
        replace B7 := B7.grow g94
        replace B8 := B8.grow g94
        replace B80 := B80.grow g94
        replace B81 := B81.grow g94
        have zg94 := g94.size
        refine D_2 (i := 3) (j := 15) (by kernel_rfl) ?_ ?_
        · -- operation 3 comes up
         obtain ⟨rsF, hSF, hRF⟩ := hDA.flat
         have O1 : OW (fun i => i = b81) w94 39 3 (some ⟨b81, 0, none⟩) 0 0 [] := OW.of_blk B81 rfl (by decide) rfl
         obtain ⟨z1, hz1⟩ : ∃ x, x = w94.heap.size := ⟨_, rfl⟩
         refine E_app0 (i := 3) rfl (news := flatC h.cells rsF) Try.underlying32 zr39 sz39 by39 rfl rfl O1 (flatC_len hRF.len) hSF (flatC_one _ _) (by omega) (Pr' := fun i => i = b81 ∨ z1 ≤ i) (fun i hi => .inl hi) (by omega) ?_
         intro A95 cap95 w95 X95 m95
         replace G := G.abv m95
         replace GS10 := GS10.abv m95
         replace hA := hA0.grow G
         replace hDA := hDA.md m95
         replace hDB := hDB.md m95
         replace hRF := hRF.md m95
         replace B2 := B2.md m95
         replace B7 := B7.md m95
         replace B8 := B8.md m95
         replace B80 := B80.md m95
         replace B94 := B94.md m95
         have zm95 := m95.size
         obtain ⟨z2, hz2⟩ : ∃ x, x = w95.heap.size := ⟨_, rfl⟩
         have O2 : OW (fun i => (i = b81 ∨ z1 ≤ i) ∧ i < z2) w95 39 3 A95 h.cells.length cap95 (flatC h.cells rsF) := by rw [hz2]; exact X95.lt
         clear O1 X95
         refine ⟨GS10, ?_⟩
         refine D_2 (i := 11) (j := 15) (by kernel_rfl) ?_ ?_
         · -- operation 11 comes up
          obtain ⟨z3, hz3⟩ : ∃ x, x = w95.heap.size := ⟨_, rfl⟩
          refine E_app (i := 11) rfl Try.underlying32 zr39 sz39 by39 rfl rfl O2 rfl (Src.blk B94) (by simp [Value.oneCell']) (by omega) (Pr' := fun i => ((i = b81 ∨ z1 ≤ i) ∧ i < z2) ∨ z3 ≤ i) (fun i hi => .inl hi) (by first | omega | (dsimp only; omega)) ?_
          intro A96 cap96 w96 X96 m96
          have O3 : OW (fun i => ((i = b81 ∨ z1 ≤ i) ∧ i < z2) ∨ z3 ≤ i) w96 39 3 A96 (h.cells.length + 1) cap96 (flatC (h.cells ++ [⟨true, 0, [((h.cells.length + 1 : Nat) : Int)]⟩]) (rsF ++ [(some ⟨b80, 0, none⟩, 1)])) := by rw [← flat_more hRF.len]; exact X96
          clear X96
          replace G := G.abv m96
          replace GS10 := GS10.abv m96
          replace hA := hA0.grow G
          replace hDA := hDA.md m96
          replace hDB := hDB.md m96
          replace hRF := hRF.md m96
          replace B2 := B2.md m96
          replace B7 := B7.md m96
          replace B8 := B8.md m96
          replace B80 := B80.md m96
          have zm96 := m96.size
          have hRF2 := hRF.snoc (c := ⟨true, 0, [((h.cells.length + 1 : Nat) : Int)]⟩) (bc := 1) (R1.of_blkE B80)
          have hZA2 := RC.of_flat O3.lt hRF2 (fun _ h => Or.inl h) (fun _ h => Or.inr h)
          obtain ⟨AZ, rfl⟩ : ∃ x, x = A96 := ⟨_, rfl⟩
          obtain ⟨cZ, rfl⟩ : ∃ x, x = cap96 := ⟨_, rfl⟩
          refine ⟨GS10, ?_⟩
          refine Dq (i := 14) rfl GS10 (fun _ _ => Y_build (cs := [_, _]) zr35 pc35 rfl rfl) ?_
          refine D_1 (i := 15) (by kernel_rfl) ?_
          refine E_alloc (cs := [_, _]) rfl zr35 rfl (fun b97 w97 fb97 g97 B97 => ⟨GS10.grow g97, ?_⟩)
          have lb97 := B97.lt
          replace hA := hA.grow g97
          replace hDA := hDA.grow g97
          replace hDB := hDB.grow g97
          replace hZA2 := hZA2.grow g97
          replace G := G.grow g97
          replace GS10 := GS10.grow g97
          replace B2 := B2.grow g97
          replace B7 := B7.grow g97
          replace B8 := B8.grow g97
          replace B80 := B80.grow g97
          have zg97 := g97.size
          refine D_1 (i := 16) (by kernel_rfl) ?_
          refine E_stM (pre := []) (old := [_, _]) (post := []) (vs := [_, _]) (i := 16) rfl sz35 rfl rfl rfl (by first | rfl | assumption) B97 rfl rfl ?_
          intro w98 m98 X98
          replace B97 := Blk.eq (ys := [_, _]) X98 rfl
          clear X98
          replace G := G.abv m98
          replace GS10 := GS10.abv m98
          replace hA := hA0.grow G
          replace hDA := hDA.md m98
          replace hDB := hDB.md m98
          replace hZA2 := hZA2.md m98
          replace B2 := B2.md m98
          replace B7 := B7.md m98
          replace B8 := B8.md m98
          replace B80 := B80.md m98
          have zm98 := m98.size
          refine ⟨GS10, ?_⟩
          refine D_en (by kernel_rfl) rfl rfl ?_
          exact ⟨rfl, _, _, _, _, rfl, rfl, rfl, rfl, rfl, rfl, g10.grow GS10, B97, hZA2.below⟩
         · -- operation 15 comes up
          refine E_alloc (cs := [_, _]) rfl zr35 rfl (fun b99 w99 fb99 g99 B99 => ⟨GS10.grow g99, ?_⟩)
          have lb99 := B99.lt
          replace hA := hA.grow g99
          replace hDA := hDA.grow g99
          replace hDB := hDB.grow g99
          replace hRF := hRF.grow g99
          replace O2 := O2.grow g99
          replace G := G.grow g99
          replace GS10 := GS10.grow g99
          replace B2 := B2.grow g99
          replace B7 := B7.grow g99
          replace B8 := B8.grow g99
          replace B80 := B80.grow g99
          replace B94 := B94.grow g99
          have zg99 := g99.size
          refine D_1 (i := 11) (by kernel_rfl) ?_
          obtain ⟨z3, hz3⟩ : ∃ x, x = w99.heap.size := ⟨_, rfl⟩
          refine E_app (i := 11) rfl Try.underlying32 zr39 sz39 by39 rfl rfl O2 rfl (Src.blk B94) (by simp [Value.oneCell']) (by omega) (Pr' := fun i => ((i = b81 ∨ z1 ≤ i) ∧ i < z2) ∨ z3 ≤ i) (fun i hi => .inl hi) (by first | omega | (dsimp only; omega)) ?_
          intro A100 cap100 w100 X100 m100
          have O3 : OW (fun i => ((i = b81 ∨ z1 ≤ i) ∧ i < z2) ∨ z3 ≤ i) w100 39 3 A100 (h.cells.length + 1) cap100 (flatC (h.cells ++ [⟨true, 0, [((h.cells.length + 1 : Nat) : Int)]⟩]) (rsF ++ [(some ⟨b80, 0, none⟩, 1)])) := by rw [← flat_more hRF.len]; exact X100
          clear X100
          replace G := G.abv m100
          replace GS10 := GS10.abv m100
          replace hA := hA0.grow G
          replace hDA := hDA.md m100
          replace hDB := hDB.md m100
          replace hRF := hRF.md m100
          replace B2 := B2.md m100
          replace B7 := B7.md m100
          replace B8 := B8.md m100
          replace B80 := B80.md m100
          replace B99 := B99.md m100
          have zm100 := m100.size
          have hRF2 := hRF.snoc (c := ⟨true, 0, [((h.cells.length + 1 : Nat) : Int)]⟩) (bc := 1) (R1.of_blkE B80)
          have hZA2 := RC.of_flat O3.lt hRF2 (fun _ h => Or.inl h) (fun _ h => Or.inr h)
          obtain ⟨AZ, rfl⟩ : ∃ x, x = A100 := ⟨_, rfl⟩
          obtain ⟨cZ, rfl⟩ : ∃ x, x = cap100 := ⟨_, rfl⟩
          refine ⟨GS10, ?_⟩
          refine Dq (i := 14) rfl GS10 (fun _ _ => Y_build (cs := [_, _]) zr35 pc35 rfl rfl) ?_
          refine D_1 (i := 16) (by kernel_rfl) ?_
          refine E_stM (pre := []) (old := [_, _]) (post := []) (vs := [_, _]) (i := 16) rfl sz35 rfl rfl rfl (by first | rfl | assumption) B99 rfl rfl ?_
          intro w101 m101 X101
          replace B99 := Blk.eq (ys := [_, _]) X101 rfl
          clear X101
          replace G := G.abv m101
          replace GS10 := GS10.abv m101
          replace hA := hA0.grow G
          replace hDA := hDA.md m101
          replace hDB := hDB.md m101
          replace hZA2 := hZA2.md m101
          replace B2 := B2.md m101
          replace B7 := B7.md m101
          replace B8 := B8.md m101
          replace B80 := B80.md m101
          have zm101 := m101.size
          refine ⟨GS10, ?_⟩
          refine D_en (by kernel_rfl) rfl rfl ?_
          exact ⟨rfl, _, _, _, _, rfl, rfl, rfl, rfl, rfl, rfl, g10.grow GS10, B99, hZA2.below⟩
        · -- operation 15 comes up
         refine E_alloc (cs := [_, _]) rfl zr35 rfl (fun b102 w102 fb102 g102 B102 => ⟨GS10.grow g102, ?_⟩)
         have lb102 := B102.lt
         replace hA := hA.grow g102
         replace hDA := hDA.grow g102
         replace hDB := hDB.grow g102
         replace G := G.grow g102
         replace GS10 := GS10.grow g102
         replace B2 := B2.grow g102
         replace B7 := B7.grow g102
         replace B8 := B8.grow g102
         replace B80 := B80.grow g102
         replace B81 := B81.grow g102
         replace B94 := B94.grow g102
         have zg102 := g102.size
         refine D_1 (i := 3) (by kernel_rfl) ?_
         obtain ⟨rsF, hSF, hRF⟩ := hDA.flat
         have O1 : OW (fun i => i = b81) w102 39 3 (some ⟨b81, 0, none⟩) 0 0 [] := OW.of_blk B81 rfl (by decide) rfl
         obtain ⟨z1, hz1⟩ : ∃ x, x = w102.heap.size := ⟨_, rfl⟩
         refine E_app0 (i := 3) rfl (news := flatC h.cells rsF) Try.underlying32 zr39 sz39 by39 rfl rfl O1 (flatC_len hRF.len) hSF (flatC_one _ _) (by omega) (Pr' := fun i => i = b81 ∨ z1 ≤ i) (fun i hi => .inl hi) (by omega) ?_
         intro A103 cap103 w103 X103 m103
         replace G := G.abv m103
         replace GS10 := GS10.abv m103
         replace hA := hA0.grow G
         replace hDA := hDA.md m103
         replace hDB := hDB.md m103
         replace hRF := hRF.md m103
         replace B2 := B2.md m103
         replace B7 := B7.md m103
         replace B8 := B8.md m103
         replace B80 := B80.md m103
         replace B94 := B94.md m103
         replace B102 := B102.md m103
         have zm103 := m103.size
         obtain ⟨z2, hz2⟩ : ∃ x, x = w103.heap.size := ⟨_, rfl⟩
         have O2 : OW (fun i => (i = b81 ∨ z1 ≤ i) ∧ i < z2) w103 39 3 A103 h.cells.length cap103 (flatC h.cells rsF) := by rw [hz2]; exact X103.lt
         clear O1 X103
         refine ⟨GS10, ?_⟩
         refine D_1 (i := 11) (by kernel_rfl) ?_
         obtain ⟨z3, hz3⟩ : ∃ x, x = w103.heap.size := ⟨_, rfl⟩
         refine E_app (i := 11) rfl Try.underlying32 zr39 sz39 by39 rfl rfl O2 rfl (Src.blk B94) (by simp [Value.oneCell']) (by omega) (Pr' := fun i => ((i = b81 ∨ z1 ≤ i) ∧ i < z2) ∨ z3 ≤ i) (fun i hi => .inl hi) (by first | omega | (dsimp only; omega)) ?_
         intro A104 cap104 w104 X104 m104
         have O3 : OW (fun i => ((i = b81 ∨ z1 ≤ i) ∧ i < z2) ∨ z3 ≤ i) w104 39 3 A104 (h.cells.length + 1) cap104 (flatC (h.cells ++ [⟨true, 0, [((h.cells.length + 1 : Nat) : Int)]⟩]) (rsF ++ [(some ⟨b80, 0, none⟩, 1)])) := by rw [← flat_more hRF.len]; exact X104
         clear X104
         replace G := G.abv m104
         replace GS10 := GS10.abv m104
         replace hA := hA0.grow G
         replace hDA := hDA.md m104
         replace hDB := hDB.md m104
         replace hRF := hRF.md m104
         replace B2 := B2.md m104
         replace B7 := B7.md m104
         replace B8 := B8.md m104
         replace B80 := B80.md m104
         replace B102 := B102.md m104
         have zm104 := m104.size
         have hRF2 := hRF.snoc (c := ⟨true, 0, [((h.cells.length + 1 : Nat) : Int)]⟩) (bc := 1) (R1.of_blkE B80)
         have hZA2 := RC.of_flat O3.lt hRF2 (fun _ h => Or.inl h) (fun _ h => Or.inr h)
         obtain ⟨AZ, rfl⟩ : ∃ x, x = A104 := ⟨_, rfl⟩
         obtain ⟨cZ, rfl⟩ : ∃ x, x = cap104 := ⟨_, rfl⟩
         refine ⟨GS10, ?_⟩
         refine Dq (i := 14) rfl GS10 (fun _ _ => Y_build (cs := [_, _]) zr35 pc35 rfl rfl) ?_
         refine D_1 (i := 16) (by kernel_rfl) ?_
         refine E_stM (pre := []) (old := [_, _]) (post := []) (vs := [_, _]) (i := 16) rfl sz35 rfl rfl rfl (by first | rfl | assumption) B102 rfl rfl ?_
         intro w105 m105 X105
         replace B102 := Blk.eq (ys := [_, _]) X105 rfl
         clear X105
         replace G := G.abv m105
         replace GS10 := GS10.abv m105
         replace hA := hA0.grow G
         replace hDA := hDA.md m105
         replace hDB := hDB.md m105
         replace hZA2 := hZA2.md m105
         replace B2 := B2.md m105
         replace B7 := B7.md m105
         replace B8 := B8.md m105
         replace B80 := B80.md m105
         have zm105 := m105.size
         refine ⟨GS10, ?_⟩
         refine D_en (by kernel_rfl) rfl rfl ?_
         exact ⟨rfl, _, _, _, _, rfl, rfl, rfl, rfl, rfl, rfl, g10.grow GS10, B102, hZA2.below⟩
       · -- operation 15 comes up
        refine E_alloc (cs := [_, _]) rfl zr35 rfl (fun b106 w106 fb106 g106 B106 => ⟨GS10.grow g106, ?_⟩)
        have lb106 := B106.lt
        replace hA := hA.grow g106
        replace hDA := hDA.grow g106
        replace hDB := hDB.grow g106
        replace G := G.grow g106
        replace GS10 := GS10.grow g106
        replace B2 := B2.grow g106
        replace B7 := B7.grow g106
        replace B8 := B8.grow g106
        replace B80 := B80.grow g106
        replace B81 := B81.grow g106
        have zg106 := g106.size
        refine D_2 (i := 3) (j := 10) (by kernel_rfl) ?_ ?_
        · -- operation 3 comes up
         obtain ⟨rsF, hSF, hRF⟩ := hDA.flat
         have O1 : OW (fun i => i = b81) w106 39 3 (some ⟨b81, 0, none⟩) 0 0 [] := OW.of_blk B81 rfl (by decide) rfl
         obtain ⟨z1, hz1⟩ : ∃ x, x = w106.heap.size := ⟨_, rfl⟩
         refine E_app0 (i := 3) rfl (news := flatC h.cells rsF) Try.underlying32 zr39 sz39 by39 rfl rfl O1 (flatC_len hRF.len) hSF (flatC_one _ _) (by omega) (Pr' := fun i => i = b81 ∨ z1 ≤ i) (fun i hi => .inl hi) (by omega) ?_
         intro A107 cap107 w107 X107 m107
         replace G := G.abv m107
         replace GS10 := GS10.abv m107
         replace hA := hA0.grow G
         replace hDA := hDA.md m107
         replace hDB := hDB.md m107
         replace hRF := hRF.md m107
         replace B2 := B2.md m107
         replace B7 := B7.md m107
         replace B8 := B8.md m107
         replace B80 := B80.md m107
         replace B106 := B106.md m107
         have zm107 := m107.size
         obtain ⟨z2, hz2⟩ : ∃ x, x = w107.heap.size := ⟨_, rfl⟩
         have O2 : OW (fun i => (i = b81 ∨ z1 ≤ i) ∧ i < z2) w107 39 3 A107 h.cells.length cap107 (flatC h.cells rsF) := by rw [hz2]; exact X107.lt
         clear O1 X107
         refine ⟨GS10, ?_⟩
         refine D_1 (i := 10) (by kernel_rfl) ?_
         refine E_bs1 (cs := [_, _, _]) (i := 10) rfl Try.underlying32 zr39 sz39 rfl rfl rfl ?_
         intro b108 w108 fb108 g108 B108
         refine ⟨GS10.grow g108, ?_⟩
         have lb108 := B108.lt
         replace hA := hA.grow g108
         replace hDA := hDA.grow g108
         replace hDB := hDB.grow g108
         replace hRF := hRF.grow g108
         replace O2 := O2.grow g108
         replace G := G.grow g108
         replace GS10 := GS10.grow g108
         replace B2 := B2.grow g108
         replace B7 := B7.grow g108
         replace B8 := B8.grow g108
         replace B80 := B80.grow g108
         replace B106 := B106.grow g108
         have zg108 := g108.size
         refine D_1 (i := 11) (by kernel_rfl) ?_
         obtain ⟨z3, hz3⟩ : ∃ x, x = w108.heap.size := ⟨_, rfl⟩
         refine E_app (i := 11) rfl Try.underlying32 zr39 sz39 by39 rfl rfl O2 rfl (Src.blk B108) (by simp [Value.oneCell']) (by omega) (Pr' := fun i => ((i = b81 ∨ z1 ≤ i) ∧ i < z2) ∨ z3 ≤ i) (fun i hi => .inl hi) (by first | omega | (dsimp only; omega)) ?_
         intro A109 cap109 w109 X109 m109
         have O3 : OW (fun i => ((i = b81 ∨ z1 ≤ i) ∧ i < z2) ∨ z3 ≤ i) w109 39 3 A109 (h.cells.length + 1) cap109 (flatC (h.cells ++ [⟨true, 0, [((h.cells.length + 1 : Nat) : Int)]⟩]) (rsF ++ [(some ⟨b80, 0, none⟩, 1)])) := by rw [← flat_more hRF.len]; exact X109
         clear X109
         replace G := G.abv m109
         replace GS10 := GS10.abv m109
         replace hA := hA0.grow G
         replace hDA := hDA.md m109
         replace hDB := hDB.md m109
         replace hRF := hRF.md m109
         replace B2 := B2.md m109
         replace B7 := B7.md m109
         replace B8 := B8.md m109
         replace B80 := B80.md m109
         replace B106 := B106.md m109
         have zm109 := m109.size
         have hRF2 := hRF.snoc (c := ⟨true, 0, [((h.cells.length + 1 : Nat) : Int)]⟩) (bc := 1) (R1.of_blkE B80)
         have hZA2 := RC.of_flat O3.lt hRF2 (fun _ h => Or.inl h) (fun _ h => Or.inr h)
         obtain ⟨AZ, rfl⟩ : ∃ x, x = A109 := ⟨_, rfl⟩
         obtain ⟨cZ, rfl⟩ : ∃ x, x = cap109 := ⟨_, rfl⟩
         refine ⟨GS10, ?_⟩
         refine Dq (i := 14) rfl GS10 (fun _ _ => Y_build (cs := [_, _]) zr35 pc35 rfl rfl) ?_
         refine D_1 (i := 16) (by kernel_rfl) ?_
         refine E_stM (pre := []) (old := [_, _]) (post := []) (vs := [_, _]) (i := 16) rfl sz35 rfl rfl rfl (by first | rfl | assumption) B106 rfl rfl ?_
         intro w110 m110 X110
         replace B106 := Blk.eq (ys := [_, _]) X110 rfl
         clear X110
         replace G := G.abv m110
         replace GS10 := GS10.abv m110
         replace hA := hA0.grow G
         replace hDA := hDA.md m110
         replace hDB := hDB.md m110
         replace hZA2 := hZA2.md m110
         replace B2 := B2.md m110
         replace B7 := B7.md m110
         replace B8 := B8.md m110
         replace B80 := B80.md m110
         have zm110 := m110.size
         refine ⟨GS10, ?_⟩
         refine D_en (by kernel_rfl) rfl rfl ?_
         exact ⟨rfl, _, _, _, _, rfl, rfl, rfl, rfl, rfl, rfl, g10.grow GS10, B106, hZA2.below⟩
        · -- operation 10 comes up
         refine E_bs1 (cs := [_, _, _]) (i := 10) rfl Try.underlying32 zr39 sz39 rfl rfl rfl ?_
         intro b111 w111 fb111 g111 B111
         refine ⟨GS10.grow g111, ?_⟩
         have lb111 := B111.lt
         replace hA := hA.grow g111
         replace hDA := hDA.grow g111
         replace hDB := hDB.grow g111
         replace G := G.grow g111
         replace GS10 := GS10.grow g111
         replace B2 := B2.grow g111
         replace B7 := B7.grow g111
         replace B8 := B8.grow g111
         replace B80 := B80.grow g111
         replace B81 := B81.grow g111
         replace B106 := B106.grow g111
         have zg111 := g111.size
         refine D_1 (i := 3) (by kernel_rfl) ?_
         obtain ⟨rsF, hSF, hRF⟩ := hDA.flat
         have O1 : OW (fun i => i = b81) w111 39 3 (some ⟨b81, 0, none⟩) 0 0 [] := OW.of_blk B81 rfl (by decide) rfl
         obtain ⟨z1, hz1⟩ : ∃ x, x = w111.heap.size := ⟨_, rfl⟩
         refine E_app0 (i := 3) rfl (news := flatC h.cells rsF) Try.underlying32 zr39 sz39 by39 rfl rfl O1 (flatC_len hRF.len) hSF (flatC_one _ _) (by omega) (Pr' := fun i => i = b81 ∨ z1 ≤ i) (fun i hi => .inl hi) (by omega) ?_
         intro A112 cap112 w112 X112 m112
         replace G := G.abv m112
         replace GS10 := GS10.abv m112
         replace hA := hA0.grow G
         replace hDA := hDA.md m112
         replace hDB := hDB.md m112
         replace hRF := hRF.md m112
         replace B2 := B2.md m112
         replace B7 := B7.md m112
         replace B8 := B8.md m112
         replace B80 := B80.md m112
         replace B106 := B106.md m112
         replace B111 := B111.md m112
         have zm112 := m112.size
         obtain ⟨z2, hz2⟩ : ∃ x, x = w112.heap.size := ⟨_, rfl⟩
         have O2 : OW (fun i => (i = b81 ∨ z1 ≤ i) ∧ i < z2) w112 39 3 A112 h.cells.length cap112 (flatC h.cells rsF) := by rw [hz2]; exact X112.lt
         clear O1 X112
         refine ⟨GS10, ?_⟩
         refine D_1 (i := 11) (by kernel_rfl) ?_
         obtain ⟨z3, hz3⟩ : ∃ x, x = w112.heap.size := ⟨_, rfl⟩
         refine E_app (i := 11) rfl Try.underlying32 zr39 sz39 by39 rfl rfl O2 rfl (Src.blk B111) (by simp [Value.oneCell']) (by omega) (Pr' := fun i => ((i = b81 ∨ z1 ≤ i) ∧ i < z2) ∨ z3 ≤ i) (fun i hi => .inl hi) (by first | omega | (dsimp only; omega)) ?_
         intro A113 cap113 w113 X113 m113
         have O3 : OW (fun i => ((i = b81 ∨ z1 ≤ i) ∧ i < z2) ∨ z3 ≤ i) w113 39 3 A113 (h.cells.length + 1) cap113 (flatC (h.cells ++ [⟨true, 0, [((h.cells.length + 1 : Nat) : Int)]⟩]) (rsF ++ [(some ⟨b80, 0, none⟩, 1)])) := by rw [← flat_more hRF.len]; exact X113
         clear X113
         replace G := G.abv m113
         replace GS10 := GS10.abv m113
         replace hA := hA0.grow G
         replace hDA := hDA.md m113
         replace hDB := hDB.md m113
         replace hRF := hRF.md m113
         replace B2 := B2.md m113
         replace B7 := B7.md m113
         replace B8 := B8.md m113
         replace B80 := B80.md m113
         replace B106 := B106.md m113
         have zm113 := m113.size
         have hRF2 := hRF.snoc (c := ⟨true, 0, [((h.cells.length + 1 : Nat) : Int)]⟩) (bc := 1) (R1.of_blkE B80)
         have hZA2 := RC.of_flat O3.lt hRF2 (fun _ h => Or.inl h) (fun _ h => Or.inr h)
         obtain ⟨AZ, rfl⟩ : ∃ x, x = A113 := ⟨_, rfl⟩
         obtain ⟨cZ, rfl⟩ : ∃ x, x = cap113 := ⟨_, rfl⟩
         refine ⟨GS10, ?_⟩
         refine Dq (i := 14) rfl GS10 (fun _ _ => Y_build (cs := [_, _]) zr35 pc35 rfl rfl) ?_
         refine D_1 (i := 16) (by kernel_rfl) ?_
         refine E_stM (pre := []) (old := [_, _]) (post := []) (vs := [_, _]) (i := 16) rfl sz35 rfl rfl rfl (by first | rfl | assumption) B106 rfl rfl ?_
         intro w114 m114 X114
         replace B106 := Blk.eq (ys := [_, _]) X114 rfl
         clear X114
         replace G := G.abv m114
         replace GS10 := GS10.abv m114
         replace hA := hA0.grow G
         replace hDA := hDA.md m114
         replace hDB := hDB.md m114
         replace hZA2 := hZA2.md m114
         replace B2 := B2.md m114
         replace B7 := B7.md m114
         replace B8 := B8.md m114
         replace B80 := B80.md m114
         have zm114 := m114.size
         refine ⟨GS10, ?_⟩
         refine D_en (by kernel_rfl) rfl rfl ?_
         exact ⟨rfl, _, _, _, _, rfl, rfl, rfl, rfl, rfl, rfl, g10.grow GS10, B106, hZA2.below⟩
      · -- operation 10 comes up
       refine E_bs1 (cs := [_, _, _]) (i := 10) rfl Try.underlying32 zr39 sz39 rfl rfl rfl ?_
       intro b115 w115 fb115 g115 B115
       refine ⟨GS10.grow g115, ?_⟩
       have lb115 := B115.lt
       replace hA := hA.grow g115
       replace hDA := hDA.grow g115
       replace hDB := hDB.grow g115
       replace G := G.grow g115
       replace GS10 := GS10.grow g115
       replace B2 := B2.grow g115
       replace B7 := B7.grow g115
       replace B8 := B8.grow g115
       replace B80 := B80.grow g115
       have zg115 := g115.size
       refine D_2 (i := 0) (j := 15) (by kernel_rfl) ?_ ?_
       · -- operation 0 comes up
        refine E_bs0 (i := 0) rfl Try.underlying32 sz39 ?_
        intro b116 w116 fb116 g116 B116
        refine ⟨GS10.grow g116, ?_⟩
        have lb116 := B116.lt
        replace hA := hA.grow g116
        replace hDA := hDA.grow g116
        replace hDB := hDB.grow g116
        replace G := G.grow g116
        replace GS10 := GS10.grow g116
        replace B2 := B2.grow g116
        replace B7 := B7.grow g116
        replace B8 := B8.grow g116
        replace B80 := B80.grow g116
        replace B115 := B115.grow g116
        have zg116 := g116.size
        refine D_2 (i := 3) (j := 15) (by kernel_rfl) ?_ ?_
        · -- operation 3 comes up
         obtain ⟨rsF, hSF, hRF⟩ := hDA.flat
         have O1 : OW (fun i => i = b116) w116 39 3 (some ⟨b116, 0, none⟩) 0 0 [] := OW.of_blk B116 rfl (by decide) rfl
         obtain ⟨z1, hz1⟩ : ∃ x, x = w116.heap.size := ⟨_, rfl⟩
         refine E_app0 (i := 3) rfl (news := flatC h.cells rsF) Try.underlying32 zr39 sz39 by39 rfl rfl O1 (flatC_len hRF.len) hSF (flatC_one _ _) (by omega) (Pr' := fun i => i = b116 ∨ z1 ≤ i) (fun i hi => .inl hi) (by omega) ?_
         intro A117 cap117 w117 X117 m117
         replace G := G.abv m117
         replace GS10 := GS10.abv m117
         replace hA := hA0.grow G
         replace hDA := hDA.md m117
         replace hDB := hDB.md m117
         replace hRF := hRF.md m117
         replace B2 := B2.md m117
         replace B7 := B7.md m117
         replace B8 := B8.md m117
         replace B80 := B80.md m117
         replace B115 := B115.md m117
         have zm117 := m117.size
         obtain ⟨z2, hz2⟩ : ∃ x, x = w117.heap.size := ⟨_, rfl⟩
         have O2 : OW (fun i => (i = b116 ∨ z1 ≤ i) ∧ i < z2) w117 39 3 A117 h.cells.length cap117 (flatC h.cells rsF) := by rw [hz2]; exact X117.lt
         clear O1 X117
         refine ⟨GS10, ?_⟩
         refine D_2 (i := 11) (j := 15) (by kernel_rfl) ?_ ?_
         · -- operation 11 comes up
          obtain ⟨z3, hz3⟩ : ∃ x, x = w117.heap.size := ⟨_, rfl⟩
          refine E_app (i := 11) rfl Try.underlying32 zr39 sz39 by39 rfl rfl O2 rfl (Src.blk B115) (by simp [Value.oneCell']) (by omega) (Pr' := fun i => ((i = b116 ∨ z1 ≤ i) ∧ i < z2) ∨ z3 ≤ i) (fun i hi => .inl hi) (by first | omega | (dsimp only; omega)) ?_
          intro A118 cap118 w118 X118 m118
          have O3 : OW (fun i => ((i = b116 ∨ z1 ≤ i) ∧ i < z2) ∨ z3 ≤ i) w118 39 3 A118 (h.cells.length + 1) cap118 (flatC (h.cells ++ [⟨true, 0, [((h.cells.length + 1 : Nat) : Int)]⟩]) (rsF ++ [(some ⟨b80, 0, none⟩, 1)])) := by rw [← flat_more hRF.len]; exact X118
          clear X118
          replace G := G.abv m118
          replace GS10 := GS10.abv m118
          replace hA := hA0.grow G
          replace hDA := hDA.md m118
          replace hDB := hDB.md m118
          replace hRF := hRF.md m118
          replace B2 := B2.md m118
          replace B7 := B7.md m118
          replace B8 := B8.md m118
          replace B80 := B80.md m118
          have zm118 := m118.size
          have hRF2 := hRF.snoc (c := ⟨true, 0, [((h.cells.length + 1 : Nat) : Int)]⟩) (bc := 1) (R1.of_blkE B80)
          have hZA2 := RC.of_flat O3.lt hRF2 (fun _ h => Or.inl h) (fun _ h => Or.inr h)
          obtain ⟨AZ, rfl⟩ : ∃ x, x = A118 := ⟨_, rfl⟩
          obtain ⟨cZ, rfl⟩ : ∃ x, x = cap118 := ⟨_, rfl⟩
          refine ⟨GS10, ?_⟩
          refine Dq (i := 14) rfl GS10 (fun _ _ => Y_build (cs := [_, _]) zr35 pc35 rfl rfl) ?_
          refine D_1 (i := 15) (by kernel_rfl) ?_
          refine E_alloc (cs := [_, _]) rfl zr35 rfl (fun b119 w119 fb119 g119 B119 => ⟨GS10.grow g119, ?_⟩)
          have lb119 := B119.lt
          replace hA := hA.grow g119
          replace hDA := hDA.grow g119
          replace hDB := hDB.grow g119
          replace hZA2 := hZA2.grow g119
          replace G := G.grow g119
          replace GS10 := GS10.grow g119
          replace B2 := B2.grow g119
          replace B7 := B7.grow g119
          replace B8 := B8.grow g119
          replace B80 := B80.grow g119
          have zg119 := g119.size
          refine D_1 (i := 16) (by kernel_rfl) ?_
          refine E_stM (pre := []) (old := [_, _]) (post := []) (vs := [_, _]) (i := 16) rfl sz35 rfl rfl rfl (by first | rfl | assumption) B119 rfl rfl ?_
          intro w120 m120 X120
          replace B119 := Blk.eq (ys := [_, _]) X120 rfl
          clear X120
          replace G := G.abv m120
          replace GS10 := GS10.abv m120
          replace hA := hA0.grow G
          replace hDA := hDA.md m120
          replace hDB := hDB.md m120
          replace hZA2 := hZA2.md m120
          replace B2 := B2.md m120
          replace B7 := B7.md m120
          replace B8 := B8.md m120
          replace B80 := B80.md m120
          have zm120 := m120.size
          refine ⟨GS10, ?_⟩
          refine D_en (by kernel_rfl) rfl rfl ?_
          exact ⟨rfl, _, _, _, _, rfl, rfl, rfl, rfl, rfl, rfl, g10.grow GS10, B119, hZA2.below⟩
         · -- operation 15 comes up
          refine E_alloc (cs := [_, _]) rfl zr35 rfl (fun b121 w121 fb121 g121 B121 => ⟨GS10.grow g121, ?_⟩)
          have lb121 := B121.lt
          replace hA := hA.grow g121
          replace hDA := hDA.grow g121
          replace hDB := hDB.grow g121
          replace hRF := hRF.grow g121
          replace O2 := O2.grow g121
          replace G := G.grow g121
          replace GS10 := GS10.grow g121
          replace B2 := B2.grow g121
          replace B7 := B7.grow g121
          replace B8 := B8.grow g121
          replace B80 := B80.grow g121
          replace B115 := B115.grow g121
          have zg121 := g121.size
          refine D_1 (i := 11) (by kernel_rfl) ?_
          obtain ⟨z3, hz3⟩ : ∃ x, x = w121.heap.size := ⟨_, rfl⟩
          refine E_app (i := 11) rfl Try.underlying32 zr39 sz39 by39 rfl rfl O2 rfl (Src.blk B115) (by simp [Value.oneCell']) (by omega) (Pr' := fun i => ((i = b116 ∨ z1 ≤ i) ∧ i < z2) ∨ z3 ≤ i) (fun i hi => .inl hi) (by first | omega | (dsimp only; omega)) ?_
          intro A122 cap122 w122 X122 m122
          have O3 : OW (fun i => ((i = b116 ∨ z1 ≤ i) ∧ i < z2) ∨ z3 ≤ i) w122 39 3 A122 (h.cells.length + 1) cap122 (flatC (h.cells ++ [⟨true, 0, [((h.cells.length + 1 : Nat) : Int)]⟩]) (rsF ++ [(some ⟨b80, 0, none⟩, 1)])) := by rw [← flat_more hRF.len]; exact X122
          clear X122
          replace G := G.abv m122
          replace GS10 := GS10.abv m122
          replace hA := hA0.grow G
          replace hDA := hDA.md m122
          replace hDB := hDB.md m122
          replace hRF := hRF.md m122
          replace B2 := B2.md m122
          replace B7 := B7.md m122
          replace B8 := B8.md m122
          replace B80 := B80.md m122
          replace B121 := B121.md m122
          have zm122 := m122.size
          have hRF2 := hRF.snoc (c := ⟨true, 0, [((h.cells.length + 1 : Nat) : Int)]⟩) (bc := 1) (R1.of_blkE B80)
          have hZA2 := RC.of_flat O3.lt hRF2 (fun _ h => Or.inl h) (fun _ h => Or.inr h)
          obtain ⟨AZ, rfl⟩ : ∃ x, x = A122 := ⟨_, rfl⟩
          obtain ⟨cZ, rfl⟩ : ∃ x, x = cap122 := ⟨_, rfl⟩
          refine ⟨GS10, ?_⟩
          refine Dq (i := 14) rfl GS10 (fun _ _ => Y_build (cs := [_, _]) zr35 pc35 rfl rfl) ?_
          refine D_1 (i := 16) (by kernel_rfl) ?_
          refine E_stM (pre := []) (old := [_, _]) (post := []) (vs := [_, _]) (i := 16) rfl sz35 rfl rfl rfl (by first | rfl | assumption) B121 rfl rfl ?_
          intro w123 m123 X123
          replace B121 := Blk.eq (ys := [_, _]) X123 rfl
          clear X123
          replace G := G.abv m123
          replace GS10 := GS10.abv m123
          replace hA := hA0.grow G
          replace hDA := hDA.md m123
          replace hDB := hDB.md m123
          replace hZA2 := hZA2.md m123
          replace B2 := B2.md m123
          replace B7 := B7.md m123
          replace B8 := B8.md m123
          replace B80 := B80.md m123
          have zm123 := m123.size
          refine ⟨GS10, ?_⟩
          refine D_en (by kernel_rfl) rfl rfl ?_
          exact ⟨rfl, _, _, _, _, rfl, rfl, rfl, rfl, rfl, rfl, g10.grow GS10, B121, hZA2.below⟩
        · -- operation 15 comes up
         refine E_alloc (cs := [_, _]) rfl zr35 rfl (fun b124 w124 fb124 g124 B124 => ⟨GS10.grow g124, ?_⟩)
         have lb124 := B124.lt
         replace hA := hA.grow g124
         replace hDA := hDA.grow g124
         replace hDB := hDB.grow g124
         replace G := G.grow g124
         replace GS10 := GS10.grow g124
         replace B2 := B2.grow g124
         replace B7 := B7.grow g124
         replace B8 := B8.grow g124
         replace B80 := B80.grow g124
         replace B115 := B115.grow g124
         replace B116 := B116.grow g124
         have zg124 := g124.size
         refine D_1 (i := 3) (by kernel_rfl) ?_
         obtain ⟨rsF, hSF, hRF⟩ := hDA.flat
         have O1 : OW (fun i => i = b116) w124 39 3 (some ⟨b116, 0, none⟩) 0 0 [] := OW.of_blk B116 rfl (by decide) rfl
         obtain ⟨z1, hz1⟩ : ∃ x, x = w124.heap.size := ⟨_, rfl⟩
         refine E_app0 (i := 3) rfl (news := flatC h.cells rsF) Try.underlying32 zr39 sz39 by39 rfl rfl O1 (flatC_len hRF.len) hSF (flatC_one _ _) (by omega) (Pr' := fun i => i = b116 ∨ z1 ≤ i) (fun i hi => .inl hi) (by omega) ?_
         intro A125 cap125 w125 X125 m125
         replace G := G.abv m125
         replace GS10 := GS10.abv m125
         replace hA := hA0.grow G
         replace hDA := hDA.md m125
         replace hDB := hDB.md m125
         replace hRF := hRF.md m125
         replace B2 := B2.md m125
         replace B7 := B7.md m125
         replace B8 := B8.md m125
         replace B80 := B80.md m125
         replace B115 := B115.md m125
         replace B124 := B124.md m125
         have zm125 := m125.size
         obtain ⟨z2, hz2⟩ : ∃ x, x = w125.heap.size := ⟨_, rfl⟩
         have O2 : OW (fun i => (i = b116 ∨ z1 ≤ i) ∧ i < z2) w125 39 3 A125 h.cells.length cap125 (flatC h.cells rsF) := by rw [hz2]; exact X125.lt
         clear O1 X125
         refine ⟨GS10, ?_⟩
         refine D_1 (i := 11) (by kernel_rfl) ?_
         obtain ⟨z3, hz3⟩ : ∃ x, x = w125.heap.size := ⟨_, rfl⟩
         refine E_app (i := 11) rfl Try.underlying32 zr39 sz39 by39 rfl rfl O2 rfl (Src.blk B115) (by simp [Value.oneCell']) (by omega) (Pr' := fun i => ((i = b116 ∨ z1 ≤ i) ∧ i < z2) ∨ z3 ≤ i) (fun i hi => .inl hi) (by first | omega | (dsimp only; omega)) ?_
         intro A126 cap126 w126 X126 m126
         have O3 : OW (fun i => ((i = b116 ∨ z1 ≤ i) ∧ i < z2) ∨ z3 ≤ i) w126 39 3 A126 (h.cells.length + 1) cap126 (flatC (h.cells ++ [⟨true, 0, [((h.cells.length + 1 : Nat) : Int)]⟩]) (rsF ++ [(some ⟨b80, 0, none⟩, 1)])) := by rw [← flat_more hRF.len]; exact X126
         clear X126
         replace G := G.abv m126
         replace GS10 := GS10.abv m126
         replace hA := hA0.grow G
         replace hDA := hDA.md m126
         replace hDB := hDB.md m126
         replace hRF := hRF.md m126
         replace B2 := B2.md m126
         replace B7 := B7.md m126
         replace B8 := B8.md m126
         replace B80 := B80.md m126
         replace B124 := B124.md m126
         have zm126 := m126.size
         have hRF2 := hRF.snoc (c := ⟨true, 0, [((h.cells.length + 1 : Nat) : Int)]⟩) (bc := 1) (R1.of_blkE B80)
         have hZA2 := RC.of_flat O3.lt hRF2 (fun _ h => Or.inl h) (fun _ h => Or.inr h)
         obtain ⟨AZ, rfl⟩ : ∃ x, x = A126 := ⟨_, rfl⟩
         obtain ⟨cZ, rfl⟩ : ∃ x, x = cap126 := ⟨_, rfl⟩
         refine ⟨GS10, ?_⟩
         refine Dq (i := 14) rfl GS10 (fun _ _ => Y_build (cs := [_, _]) zr35 pc35 rfl rfl) ?_
         refine D_1 (i := 16) (by kernel_rfl) ?_
         refine E_stM (pre := []) (old := [_, _]) (post := []) (vs := [_, _]) (i := 16) rfl sz35 rfl rfl rfl (by first | rfl | assumption) B124 rfl rfl ?_
         intro w127 m127 X127
         replace B124 := Blk.eq (ys := [_, _]) X127 rfl
         clear X127
         replace G := G.abv m127
         replace GS10 := GS10.abv m127
         replace hA := hA0.grow G
         replace hDA := hDA.md m127
         replace hDB := hDB.md m127
         replace hZA2 := hZA2.md m127
         replace B2 := B2.md m127
         replace B7 := B7.md m127
         replace B8 := B8.md m127
         replace B80 := B80.md m127
         have zm127 := m127.size
         refine ⟨GS10, ?_⟩
         refine D_en (by kernel_rfl) rfl rfl ?_
         exact ⟨rfl, _, _, _, _, rfl, rfl, rfl, rfl, rfl, rfl, g10.grow GS10, B124, hZA2.below⟩
       · -- operation 15 comes up
        refine E_alloc (cs := [_, _]) rfl zr35 rfl (fun b128 w128 fb128 g128 B128 => ⟨GS10.grow g128, ?_⟩)
        have lb128 := B128.lt
        replace hA := hA.grow g128
        replace hDA := hDA.grow g128
        replace hDB := hDB.grow g128
        replace G := G.grow g128
        replace GS10 := GS10.grow g128
        replace B2 := B2.grow g128
        replace B7 := B7.grow g128
        replace B8 := B8.grow g128
        replace B80 := B80.grow g128
        replace B115 := B115.grow g128
        have zg128 := g128.size
        refine D_1 (i := 0) (by kernel_rfl) ?_
        refine E_bs0 (i := 0) rfl Try.underlying32 sz39 ?_
        intro b129 w129 fb129 g129 B129
        refine ⟨GS10.grow g129, ?_⟩
        have lb129 := B129.lt
        replace hA := hA.grow g129
        replace hDA := hDA.grow g129
        replace hDB := hDB.grow g129
        replace G := G.grow g129
        replace GS10 := GS10.grow g129
        replace B2 := B2.grow g129
        replace B7 := B7.grow g129
        replace B8 := B8.grow g129
        replace B80 := B80.grow g129
        replace B115 := B115.grow g129
        replace B128 := B128.grow g129
        have zg129 := g129.size
        refine D_1 (i := 3) (by kernel_rfl) ?_
        obtain ⟨rsF, hSF, hRF⟩ := hDA.flat
        have O1 : OW (fun i => i = b129) w129 39 3 (some ⟨b129, 0, none⟩) 0 0 [] := OW.of_blk B129 rfl (by decide) rfl
        obtain ⟨z1, hz1⟩ : ∃ x, x = w129.heap.size := ⟨_, rfl⟩
        refine E_app0 (i := 3) rfl (news := flatC h.cells rsF) Try.underlying32 zr39 sz39 by39 rfl rfl O1 (flatC_len hRF.len) hSF (flatC_one _ _) (by omega) (Pr' := fun i => i = b129 ∨ z1 ≤ i) (fun i hi => .inl hi) (by omega) ?_
        intro A130 cap130 w130 X130 m130
        replace G := G.abv m130
        replace GS10 := GS10.abv m130
        replace hA := hA0.grow G
        replace hDA := hDA.md m130
        replace hDB := hDB.md m130
        replace hRF := hRF.md m130
        replace B2 := B2.md m130
        replace B7 := B7.md m130
        replace B8 := B8.md m130
        replace B80 := B80.md m130
        replace B115 := B115.md m130
        replace B128 := B128.md m130
        have zm130 := m130.size
        obtain ⟨z2, hz2⟩ : ∃ x, x = w130.heap.size := ⟨_, rfl⟩
        have O2 : OW (fun i => (i = b129 ∨ z1 ≤ i) ∧ i < z2) w130 39 3 A130 h.cells.length cap130 (flatC h.cells rsF) := by rw [hz2]; exact X130.lt
        clear O1 X130
        refine ⟨GS10, ?_⟩
        refine D_1 (i := 11) (by kernel_rfl) ?_
        obtain ⟨z3, hz3⟩ : ∃ x, x = w130.heap.size := ⟨_, rfl⟩
        refine E_app (i := 11) rfl Try.underlying32 zr39 sz39 by39 rfl rfl O2 rfl (Src.blk B115) (by simp [Value.oneCell']) (by omega) (Pr' := fun i => ((i = b129 ∨ z1 ≤ i) ∧ i < z2) ∨ z3 ≤ i) (fun i hi => .inl hi) (by first | omega | (dsimp only; omega)) ?_
        intro A131 cap131 w131 X131 m131
        have O3 : OW (fun i => ((i = b129 ∨ z1 ≤ i) ∧ i < z2) ∨ z3 ≤ i) w131 39 3 A131 (h.cells.length + 1) cap131 (flatC (h.cells ++ [⟨true, 0, [((h.cells.length + 1 : Nat) : Int)]⟩]) (rsF ++ [(some ⟨b80, 0, none⟩, 1)])) := by rw [← flat_more hRF.len]; exact X131
        clear X131
        replace G := G.abv m131
        replace GS10 := GS10.abv m131
        replace hA := hA0.grow G
        replace hDA := hDA.md m131
        replace hDB := hDB.md m131
        replace hRF := hRF.md m131
        replace B2 := B2.md m131
        replace B7 := B7.md m131
        replace B8 := B8.md m131
        replace B80 := B80.md m131
        replace B128 := B128.md m131
        have zm131 := m131.size
        have hRF2 := hRF.snoc (c := ⟨true, 0, [((h.cells.length + 1 : Nat) : Int)]⟩) (bc := 1) (R1.of_blkE B80)
        have hZA2 := RC.of_flat O3.lt hRF2 (fun _ h => Or.inl h) (fun _ h => Or.inr h)
        obtain ⟨AZ, rfl⟩ : ∃ x, x = A131 := ⟨_, rfl⟩
        obtain ⟨cZ, rfl⟩ : ∃ x, x = cap131 := ⟨_, rfl⟩
        refine ⟨GS10, ?_⟩
        refine Dq (i := 14) rfl GS10 (fun _ _ => Y_build (cs := [_, _]) zr35 pc35 rfl rfl) ?_
        refine D_1 (i := 16) (by kernel_rfl) ?_
        refine E_stM (pre := []) (old := [_, _]) (post := []) (vs := [_, _]) (i := 16) rfl sz35 rfl rfl rfl (by first | rfl | assumption) B128 rfl rfl ?_
        intro w132 m132 X132
        replace B128 := Blk.eq (ys := [_, _]) X132 rfl
        clear X132
        replace G := G.abv m132
        replace GS10 := GS10.abv m132
        replace hA := hA0.grow G
        replace hDA := hDA.md m132
        replace hDB := hDB.md m132
        replace hZA2 := hZA2.md m132
        replace B2 := B2.md m132
        replace B7 := B7.md m132
        replace B8 := B8.md m132
        replace B80 := B80.md m132
        have zm132 := m132.size
        refine ⟨GS10, ?_⟩
        refine D_en (by kernel_rfl) rfl rfl ?_
        exact ⟨rfl, _, _, _, _, rfl, rfl, rfl, rfl, rfl, rfl, g10.grow GS10, B128, hZA2.below⟩
      · -- operation 15 comes up
       refine E_alloc (cs := [_, _]) rfl zr35 rfl (fun b133 w133 fb133 g133 B133 => ⟨GS10.grow g133, ?_⟩)
       have lb133 := B133.lt
       replace hA := hA.grow g133
       replace hDA := hDA.grow g133
       replace hDB := hDB.grow g133
       replace G := G.grow g133
       replace GS10 := GS10.grow g133
       replace B2 := B2.grow g133
       replace B7 := B7.grow g133
       replace B8 := B8.grow g133
       replace B80 := B80.grow g133
       have zg133 := g133.size
       refine D_2 (i := 0) (j := 10) (by kernel_rfl) ?_ ?_
       · -- operation 0 comes up
        refine E_bs0 (i := 0) rfl Try.underlying32 sz39 ?_
        intro b134 w134 fb134 g134 B134
        refine ⟨GS10.grow g134, ?_⟩
        have lb134 := B134.lt
        replace hA := hA.grow g134
        replace hDA := hDA.grow g134
        replace hDB := hDB.grow g134
        replace G := G.grow g134
        replace GS10 := GS10.grow g134
        replace B2 := B2.grow g134
        replace B7 := B7.grow g134
        replace B8 := B8.grow g134
        replace B80 := B80.grow g134
        replace B133 := B133.grow g134
        have zg134 := g134.size
        refine D_2 (i := 3) (j := 10) (by kernel_rfl) ?_ ?_
        · -- operation 3 comes up
         obtain ⟨rsF, hSF, hRF⟩ := hDA.flat
         have O1 : OW (fun i => i = b134) w134 39 3 (some ⟨b134, 0, none⟩) 0 0 [] := OW.of_blk B134 rfl (by decide) rfl
         obtain ⟨z1, hz1⟩ : ∃ x, x = w134.heap.size := ⟨_, rfl⟩
         refine E_app0 (i := 3) rfl (news := flatC h.cells rsF) Try.underlying32 zr39 sz39 by39 rfl rfl O1 (flatC_len hRF.len) hSF (flatC_one _ _) (by omega) (Pr' := fun i => i = b134 ∨ z1 ≤ i) (fun i hi => .inl hi) (by omega) ?_
         intro A135 cap135 w135 X135 m135
         replace G := G.abv m135
         replace GS10 := GS10.abv m135
         replace hA := hA0.grow G
         replace hDA := hDA.md m135
         replace hDB := hDB.md m135
         replace hRF := hRF.md m135
         replace B2 := B2.md m135
         replace B7 := B7.md m135
         replace B8 := B8.md m135
         replace B80 := B80.md m135
         replace B133 := B133.md m135
         have zm135 := m135.size
         obtain ⟨z2, hz2⟩ : ∃ x, x = w135.heap.size := ⟨_, rfl⟩
         have O2 : OW (fun i => (i = b134 ∨ z1 ≤ i) ∧ i < z2) w135 39 3 A135 h.cells.length cap135 (flatC h.cells rsF) := by rw [hz2]; exact X135.lt
         clear O1 X135
         refine ⟨GS10, ?_⟩
         refine D_1 (i := 10) (by kernel_rfl) ?_
         refine E_bs1 (cs := [_, _, _]) (i := 10) rfl Try.underlying32 zr39 sz39 rfl rfl rfl ?_
         intro b136 w136 fb136 g136 B136
         refine ⟨GS10.grow g136, ?_⟩
         have lb136 := B136.lt
         replace hA := hA.grow g136
         replace hDA := hDA.grow g136
         replace hDB := hDB.grow g136
         replace hRF := hRF.grow g136
         replace O2 := O2.grow g136
         replace G := G.grow g136
         replace GS10 := GS10.grow g136
         replace B2 := B2.grow g136
         replace B7 := B7.grow g136
         replace B8 := B8.grow g136
         replace B80 := B80.grow g136
         replace B133 := B133.grow g136
         have zg136 := g136.size
         refine D_1 (i := 11) (by kernel_rfl) ?_
         obtain ⟨z3, hz3⟩ : ∃ x, x = w136.heap.size := ⟨_, rfl⟩
         refine E_app (i := 11) rfl Try.underlying32 zr39 sz39 by39 rfl rfl O2 rfl (Src.blk B136) (by simp [Value.oneCell']) (by omega) (Pr' := fun i => ((i = b134 ∨ z1 ≤ i) ∧ i < z2) ∨ z3 ≤ i) (fun i hi => .inl hi) (by first | omega | (dsimp only; omega)) ?_
         intro A137 cap137 w137 X137 m137
         have O3 : OW (fun i => ((i = b134 ∨ z1 ≤ i) ∧ i < z2) ∨ z3 ≤ i) w137 39 3 A137 (h.cells.length + 1) cap137 (flatC (h.cells ++ [⟨true, 0, [((h.cells.length + 1 : Nat) : Int)]⟩]) (rsF ++ [(some ⟨b80, 0, none⟩, 1)])) := by rw [← flat_more hRF.len]; exact X137
         clear X137
         replace G := G.abv m137
         replace GS10 := GS10.abv m137
         replace hA := hA0.grow G
         replace hDA := hDA.md m137
         replace hDB := hDB.md m137
         replace hRF := hRF.md m137
         replace B2 := B2.md m137
         replace B7 := B7.md m137
         replace B8 := B8.md m137
         replace B80 := B80.md m137
         replace B133 := B133.md m137
         have zm137 := m137.size
         have hRF2 := hRF.snoc (c := ⟨true, 0, [((h.cells.length + 1 : Nat) : Int)]⟩) (bc := 1) (R1.of_blkE B80)
         have hZA2 := RC.of_flat O3.lt hRF2 (fun _ h => Or.inl h) (fun _ h => Or.inr h)
         obtain ⟨AZ, rfl⟩ : ∃ x, x = A137 := ⟨_, rfl⟩
         obtain ⟨cZ, rfl⟩ : ∃ x, x = cap137 := ⟨_, rfl⟩
         refine ⟨GS10, ?_⟩
         refine Dq (i := 14) rfl GS10 (fun _ _ => Y_build (cs := [_, _]) zr35 pc35 rfl rfl) ?_
         refine D_1 (i := 16) (by kernel_rfl) ?_
         refine E_stM (pre := []) (old := [_, _]) (post := []) (vs := [_, _]) (i := 16) rfl sz35 rfl rfl rfl (by first | rfl | assumption) B133 rfl rfl ?_
         intro w138 m138 X138
         replace B133 := Blk.eq (ys := [_, _]) X138 rfl
         clear X138
         replace G := G.abv m138
         replace GS10 := GS10.abv m138
         replace hA := hA0.grow G
         replace hDA := hDA.md m138
         replace hDB := hDB.md m138
         replace hZA2 := hZA2.md m138
         replace B2 := B2.md m138
         replace B7 := B7.md m138
         replace B8 := B8.md m138
         replace B80 := B80.md m138
         have zm138 := m138.size
         refine ⟨GS10, ?_⟩
         refine D_en (by kernel_rfl) rfl rfl ?_
         exact ⟨rfl, _, _, _, _, rfl, rfl, rfl, rfl, rfl, rfl, g10.grow GS10, B133, hZA2.below⟩
        · -- operation 10 comes up
         refine E_bs1 (cs := [_, _, _]) (i := 10) rfl Try.underlying32 zr39 sz39 rfl rfl rfl ?_
         intro b139 w139 fb139 g139 B139
         refine ⟨GS10.grow g139, ?_⟩
         have lb139 := B139.lt
         replace hA := hA.grow g139
         replace hDA := hDA.grow g139
         replace hDB := hDB.grow g139
         replace G := G.grow g139
         replace GS10 := GS10.grow g139
         replace B2 := B2.grow g139
         replace B7 := B7.grow g139
         replace B8 := B8.grow g139
         replace B80 := B80.grow g139
         replace B133 := B133.grow g139
         replace B134 := B134.grow g139
         have zg139 := g139.size
         refine D_1 (i := 3) (by kernel_rfl) ?_
         obtain ⟨rsF, hSF, hRF⟩ := hDA.flat
         have O1 : OW (fun i => i = b134) w139 39 3 (some ⟨b134, 0, none⟩) 0 0 [] := OW.of_blk B134 rfl (by decide) rfl
         obtain ⟨z1, hz1⟩ : ∃ x, x = w139.heap.size := ⟨_, rfl⟩
         refine E_app0 (i := 3) rfl (news := flatC h.cells rsF) Try.underlying32 zr39 sz39 by39 rfl rfl O1 (flatC_len hRF.len) hSF (flatC_one _ _) (by omega) (Pr' := fun i => i = b134 ∨ z1 ≤ i) (fun i hi => .inl hi) (by omega) ?_
         intro A140 cap140 w140 X140 m140
         replace G := G.abv m140
         replace GS10 := GS10.abv m140
         replace hA := hA0.grow G
         replace hDA := hDA.md m140
         replace hDB := hDB.md m140
         replace hRF := hRF.md m140
         replace B2 := B2.md m140
         replace B7 := B7.md m140
         replace B8 := B8.md m140
         replace B80 := B80.md m140
         replace B133 := B133.md m140
         replace B139 := B139.md m140
         have zm140 := m140.size
         obtain ⟨z2, hz2⟩ : ∃ x, x = w140.heap.size := ⟨_, rfl⟩
         have O2 : OW (fun i => (i = b134 ∨ z1 ≤ i) ∧ i < z2) w140 39 3 A140 h.cells.length cap140 (flatC h.cells rsF) := by rw [hz2]; exact X140.lt
         clear O1 X140
         refine ⟨GS10, ?_⟩
         refine D_1 (i := 11) (by kernel_rfl) ?_
         obtain ⟨z3, hz3⟩ : ∃ x, x = w140.heap.size := ⟨_, rfl⟩
         refine E_app (i := 11) rfl Try.underlying32 zr39 sz39 by39 rfl rfl O2 rfl (Src.blk B139) (by simp [Value.oneCell']) (by omega) (Pr' := fun i => ((i = b134 ∨ z1 ≤ i) ∧ i < z2) ∨ z3 ≤ i) (fun i hi => .inl hi) (by first | omega | (dsimp only; omega)) ?_
         intro A141 cap141 w141 X141 m141
         have O3 : OW (fun i => ((i = b134 ∨ z1 ≤ i) ∧ i < z2) ∨ z3 ≤ i) w141 39 3 A141 (h.cells.length + 1) cap141 (flatC (h.cells ++ [⟨true, 0, [((h.cells.length + 1 : Nat) : Int)]⟩]) (rsF ++ [(some ⟨b80, 0, none⟩, 1)])) := by rw [← flat_more hRF.len]; exact X141
         clear X141
         replace G := G.abv m141
         replace GS10 := GS10.abv m141
         replace hA := hA0.grow G
         replace hDA := hDA.md m141
         replace hDB := hDB.md m141
         replace hRF := hRF.md m141
         replace B2 := B2.md m141
         replace B7 := B7.md m141
         replace B8 := B8.md m141
         replace B80 := B80.md m141
         replace B133 := B133.md m141
         have zm141 := m141.size
         have hRF2 := hRF.snoc (c := ⟨true, 0, [((h.cells.length + 1 : Nat) : Int)]⟩) (bc := 1) (R1.of_blkE B80)
         have hZA2 := RC.of_flat O3.lt hRF2 (fun _ h => Or.inl h) (fun _ h => Or.inr h)
         obtain ⟨AZ, rfl⟩ : ∃ x, x = A141 := ⟨_, rfl⟩
         obtain ⟨cZ, rfl⟩ : ∃ x, x = cap141 := ⟨_, rfl⟩
         refine ⟨GS10, ?_⟩
         refine Dq (i := 14) rfl GS10 (fun _ _ => Y_build (cs := [_, _]) zr35 pc35 rfl rfl) ?_
         refine D_1 (i := 16) (by kernel_rfl) ?_
         refine E_stM (pre := []) (old := [_, _]) (post := []) (vs := [_, _]) (i := 16) rfl sz35 rfl rfl rfl (by first | rfl | assumption) B133 rfl rfl ?_
         intro w142 m142 X142
         replace B133 := Blk.eq (ys := [_, _]) X142 rfl
         clear X142
         replace G := G.abv m142
         replace GS10 := GS10.abv m142
         replace hA := hA0.grow G
         replace hDA := hDA.md m142
         replace hDB := hDB.md m142
         replace hZA2 := hZA2.md m142
         replace B2 := B2.md m142
         replace B7 := B7.md m142
         replace B8 := B8.md m142
         replace B80 := B80.md m142
         have zm142 := m142.size
         refine ⟨GS10, ?_⟩
         refine D_en (by kernel_rfl) rfl rfl ?_
         exact ⟨rfl, _, _, _, _, rfl, rfl, rfl, rfl, rfl, rfl, g10.grow GS10, B133, hZA2.below⟩
       · -- operation 10 comes up
        refine E_bs1 (cs := [_, _, _]) (i := 10) rfl Try.underlying32 zr39 sz39 rfl rfl rfl ?_
        intro b143 w143 fb143 g143 B143
        refine ⟨GS10.grow g143, ?_⟩
        have lb143 := B143.lt
        replace hA := hA.grow g143
        replace hDA := hDA.grow g143
        replace hDB := hDB.grow g143
        replace G := G.grow g143
        replace GS10 := GS10.grow g143
        replace B2 := B2.grow g143
        replace B7 := B7.grow g143
        replace B8 := B8.grow g143
        replace B80 := B80.grow g143
        replace B133 := B133.grow g143
        have zg143 := g143.size
        refine D_1 (i := 0) (by kernel_rfl) ?_
        refine E_bs0 (i := 0) rfl Try.underlying32 sz39 ?_
        intro b144 w144 fb144 g144 B144
        refine ⟨GS10.grow g144, ?_⟩
        have lb144 := B144.lt
        replace hA := hA.grow g144
        replace hDA := hDA.grow g144
        replace hDB := hDB.grow g144
        replace G := G.grow g144
        replace GS10 := GS10.grow g144
        replace B2 := B2.grow g144
        replace B7 := B7.grow g144
        replace B8 := B8.grow g144
        replace B80 := B80.grow g144
        replace B133 := B133.grow g144
        replace B143 := B143.grow g144
        have zg144 := g144.size
        refine D_1 (i := 3) (by kernel_rfl) ?_
        obtain ⟨rsF, hSF, hRF⟩ := hDA.flat
        have O1 : OW (fun i => i = b144) w144 39 3 (some ⟨b144, 0, none⟩) 0 0 [] := OW.of_blk B144 rfl (by decide) rfl
        obtain ⟨z1, hz1⟩ : ∃ x, x = w144.heap.size := ⟨_, rfl⟩
        refine E_app0 (i := 3) rfl (news := flatC h.cells rsF) Try.underlying32 zr39 sz39 by39 rfl rfl O1 (flatC_len hRF.len) hSF (flatC_one _ _) (by omega) (Pr' := fun i => i = b144 ∨ z1 ≤ i) (fun i hi => .inl hi) (by omega) ?_
        intro A145 cap145 w145 X145 m145
        replace G := G.abv m145
        replace GS10 := GS10.abv m145
        replace hA := hA0.grow G
        replace hDA := hDA.md m145
        replace hDB := hDB.md m145
        replace hRF := hRF.md m145
        replace B2 := B2.md m145
        replace B7 := B7.md m145
        replace B8 := B8.md m145
        replace B80 := B80.md m145
        replace B133 := B133.md m145
        replace B143 := B143.md m145
        have zm145 := m145.size
        obtain ⟨z2, hz2⟩ : ∃ x, x = w145.heap.size := ⟨_, rfl⟩
        have O2 : OW (fun i => (i = b144 ∨ z1 ≤ i) ∧ i < z2) w145 39 3 A145 h.cells.length cap145 (flatC h.cells rsF) := by rw [hz2]; exact X145.lt
        clear O1 X145
        refine ⟨GS10, ?_⟩
        refine D_1 (i := 11) (by kernel_rfl) ?_
        obtain ⟨z3, hz3⟩ : ∃ x, x = w145.heap.size := ⟨_, rfl⟩
        refine E_app (i := 11) rfl Try.underlying32 zr39 sz39 by39 rfl rfl O2 rfl (Src.blk B143) (by simp [Value.oneCell']) (by omega) (Pr' := fun i => ((i = b144 ∨ z1 ≤ i) ∧ i < z2) ∨ z3 ≤ i) (fun i hi => .inl hi) (by first | omega | (dsimp only; omega)) ?_
        intro A146 cap146 w146 X146 m146
        have O3 : OW (fun i => ((i = b144 ∨ z1 ≤ i) ∧ i < z2) ∨ z3 ≤ i) w146 39 3 A146 (h.cells.length + 1) cap146 (flatC (h.cells ++ [⟨true, 0, [((h.cells.length + 1 : Nat) : Int)]⟩]) (rsF ++ [(some ⟨b80, 0, none⟩, 1)])) := by rw [← flat_more hRF.len]; exact X146
        clear X146
        replace G := G.abv m146
        replace GS10 := GS10.abv m146
        replace hA := hA0.grow G
        replace hDA := hDA.md m146
        replace hDB := hDB.md m146
        replace hRF := hRF.md m146
        replace B2 := B2.md m146
        replace B7 := B7.md m146
        replace B8 := B8.md m146
        replace B80 := B80.md m146
        replace B133 := B133.md m146
        have zm146 := m146.size
        have hRF2 := hRF.snoc (c := ⟨true, 0, [((h.cells.length + 1 : Nat) : Int)]⟩) (bc := 1) (R1.of_blkE B80)
        have hZA2 := RC.of_flat O3.lt hRF2 (fun _ h => Or.inl h) (fun _ h => Or.inr h)
        obtain ⟨AZ, rfl⟩ : ∃ x, x = A146 := ⟨_, rfl⟩
        obtain ⟨cZ, rfl⟩ : ∃ x, x = cap146 := ⟨_, rfl⟩
        refine ⟨GS10, ?_⟩
        refine Dq (i := 14) rfl GS10 (fun _ _ => Y_build (cs := [_, _]) zr35 pc35 rfl rfl) ?_
        refine D_1 (i := 16) (by kernel_rfl) ?_
        refine E_stM (pre := []) (old := [_, _]) (post := []) (vs := [_, _]) (i := 16) rfl sz35 rfl rfl rfl (by first | rfl | assumption) B133 rfl rfl ?_
        intro w147 m147 X147
        replace B133 := Blk.eq (ys := [_, _]) X147 rfl
        clear X147
        replace G := G.abv m147
        replace GS10 := GS10.abv m147
        replace hA := hA0.grow G
        replace hDA := hDA.md m147
        replace hDB := hDB.md m147
        replace hZA2 := hZA2.md m147
        replace B2 := B2.md m147
        replace B7 := B7.md m147
        replace B8 := B8.md m147
        replace B80 := B80.md m147
        have zm147 := m147.size
        refine ⟨GS10, ?_⟩
        refine D_en (by kernel_rfl) rfl rfl ?_
        exact ⟨rfl, _, _, _, _, rfl, rfl, rfl, rfl, rfl, rfl, g10.grow GS10, B133, hZA2.below⟩
     · -- operation 15 comes up
      refine E_alloc (cs := [_, _]) rfl zr35 rfl (fun b148 w148 fb148 g148 B148 => ⟨GS10.grow g148, ?_⟩)
      have lb148 := B148.lt
      replace hA := hA.grow g148
      replace hDA := hDA.grow g148
      replace hDB := hDB.grow g148
      replace G := G.grow g148
      replace GS10 := GS10.grow g148
      replace B2 := B2.grow g148
      replace B7 := B7.grow g148
      replace B8 := B8.grow g148
      have zg148 := g148.size
      refine D_2 (i := 0) (j := 8) (by kernel_rfl) ?_ ?_
      · -- operation 0 comes up
       refine E_bs0 (i := 0) rfl Try.underlying32 sz39 ?_
       intro b149 w149 fb149 g149 B149
       refine ⟨GS10.grow g149, ?_⟩
       have lb149 := B149.lt
       replace hA := hA.grow g149
       replace hDA := hDA.grow g149
       replace hDB := hDB.grow g149
       replace G := G.grow g149
       replace GS10 := GS10.grow g149
       replace B2 := B2.grow g149
       replace B7 := B7.grow g149
       replace B8 := B8.grow g149
       replace B148 := B148.grow g149
       have zg149 := g149.size
       refine D_2 (i := 3) (j := 8) (by kernel_rfl) ?_ ?_
       · -- operation 3 comes up
        obtain ⟨rsF, hSF, hRF⟩ := hDA.flat
        have O1 : OW (fun i => i = b149) w149 39 3 (some ⟨b149, 0, none⟩) 0 0 [] := OW.of_blk B149 rfl (by decide) rfl
        obtain ⟨z1, hz1⟩ : ∃ x, x = w149.heap.size := ⟨_, rfl⟩
        refine E_app0 (i := 3) rfl (news := flatC h.cells rsF) Try.underlying32 zr39 sz39 by39 rfl rfl O1 (flatC_len hRF.len) hSF (flatC_one _ _) (by omega) (Pr' := fun i => i = b149 ∨ z1 ≤ i) (fun i hi => .inl hi) (by omega) ?_
        intro A150 cap150 w150 X150 m150
        replace G := G.abv m150
        replace GS10 := GS10.abv m150
        replace hA := hA0.grow G
        replace hDA := hDA.md m150
        replace hDB := hDB.md m150
        replace hRF := hRF.md m150
        replace B2 := B2.md m150
        replace B7 := B7.md m150
        replace B8 := B8.md m150
        replace B148 := B148.md m150
        have zm150 := m150.size
        obtain ⟨z2, hz2⟩ : ∃ x, x = w150.heap.size := ⟨_, rfl⟩
        have O2 : OW (fun i => (i = b149 ∨ z1 ≤ i) ∧ i < z2) w150 39 3 A150 h.cells.length cap150 (flatC h.cells rsF) := by rw [hz2]; exact X150.lt
        clear O1 X150
        refine ⟨GS10, ?_⟩
        refine D_1 (i := 8) (by kernel_rfl) ?_
        refine E_bs1 (cs := [_]) (i := 8) rfl Try.underlying33 zr3 sz3 rfl rfl rfl ?_
        intro b151 w151 fb151 g151 B151
        refine ⟨GS10.grow g151, ?_⟩
        have lb151 := B151.lt
        replace hA := hA.grow g151
        replace hDA := hDA.grow g151
        replace hDB := hDB.grow g151
        replace hRF := hRF.grow g151
        replace O2 := O2.grow g151
        replace G := G.grow g151
        replace GS10 := GS10.grow g151
        replace B2 := B2.grow g151
        replace B7 := B7.grow g151
        replace B8 := B8.grow g151
        replace B148 := B148.grow g151
        have zg151 := g151.size
        refine Dq (i := 9) rfl GS10 (fun _ _ => Y_build (cs := [_, _, _]) zr39 pc39 rfl rfl) ?_
        refine D_1 (i := 10) (by kernel_rfl) ?_
        refine E_bs1 (cs := [_, _, _]) (i := 10) rfl Try.underlying32 zr39 sz39 rfl rfl rfl ?_
        intro b152 w152 fb152 g152 B152
        refine ⟨GS10.grow g152, ?_⟩
        have lb152 := B152.lt
        replace hA := hA.grow g152
        replace hDA := hDA.grow g152
        replace hDB := hDB.grow g152
        replace hRF := hRF.grow g152
        replace O2 := O2.grow g152
        replace G := G.grow g152
        replace GS10 := GS10.grow g152
        replace B2 := B2.grow g152
        replace B7 := B7.grow g152
        replace B8 := B8.grow g152
        replace B148 := B148.grow g152
        replace B151 := B151.grow g152
        have zg152 := g152.size
        refine D_1 (i := 11) (by kernel_rfl) ?_
        obtain ⟨z3, hz3⟩ : ∃ x, x = w152.heap.size := ⟨_, rfl⟩
        refine E_app (i := 11) rfl Try.underlying32 zr39 sz39 by39 rfl rfl O2 rfl (Src.blk B152) (by simp [Value.oneCell']) (by omega) (Pr' := fun i => ((i = b149 ∨ z1 ≤ i) ∧ i < z2) ∨ z3 ≤ i) (fun i hi => .inl hi) (by first | omega | (dsimp only; omega)) ?_
        intro A153 cap153 w153 X153 m153
        have O3 : OW (fun i => ((i = b149 ∨ z1 ≤ i) ∧ i < z2) ∨ z3 ≤ i) w153 39 3 A153 (h.cells.length + 1) cap153 (flatC (h.cells ++ [⟨true, 0, [((h.cells.length + 1 : Nat) : Int)]⟩]) (rsF ++ [(some ⟨b151, 0, none⟩, 1)])) := by rw [← flat_more hRF.len]; exact X153
        clear X153
        replace G := G.abv m153
        replace GS10 := GS10.abv m153
        replace hA := hA0.grow G
        replace hDA := hDA.md m153
        replace hDB := hDB.md m153
        replace hRF := hRF.md m153
        replace B2 := B2.md m153
        replace B7 := B7.md m153
        replace B8 := B8.md m153
        replace B148 := B148.md m153
        replace B151 := B151.md m153
        have zm153 := m153.size
        have hRF2 := hRF.snoc (c := ⟨true, 0, [((h.cells.length + 1 : Nat) : Int)]⟩) (bc := 1) (R1.of_blkE B151)
        have hZA2 := RC.of_flat O3.lt hRF2 (fun _ h => Or.inl h) (fun _ h => Or.inr h)
        obtain ⟨AZ, rfl⟩ : ∃ x, x = A153 := ⟨_, rfl⟩
        obtain ⟨cZ, rfl⟩ : ∃ x, x = cap153 := ⟨_, rfl⟩
        refine ⟨GS10, ?_⟩
        refine Dq (i := 14) rfl GS10 (fun _ _ => Y_build (cs := [_, _]) zr35 pc35 rfl rfl) ?_
        refine D_1 (i := 16) (by kernel_rfl) ?_
        refine E_stM (pre := []) (old := [_, _]) (post := []) (vs := [_, _]) (i := 16) rfl sz35 rfl rfl rfl (by first | rfl | assumption) B148 rfl rfl ?_
        intro w154 m154 X154
        replace B148 := Blk.eq (ys := [_, _]) X154 rfl
        clear X154
        replace G := G.abv m154
        replace GS10 := GS10.abv m154
        replace hA := hA0.grow G
        replace hDA := hDA.md m154
        replace hDB := hDB.md m154
        replace hZA2 := hZA2.md m154
        replace B2 := B2.md m154
        replace B7 := B7.md m154
        replace B8 := B8.md m154
        replace B151 := B151.md m154
        have zm154 := m154.size
        refine ⟨GS10, ?_⟩
        refine D_en (by kernel_rfl) rfl rfl ?_
        exact ⟨rfl, _, _, _, _, rfl, rfl, rfl, rfl, rfl, rfl, g10.grow GS10, B148, hZA2.below⟩
       · -- operation 8 comes up
        refine E_bs1 (cs := [_]) (i := 8) rfl Try.underlying33 zr3 sz3 rfl rfl rfl ?_
        intro b155 w155 fb155 g155 B155
        refine ⟨GS10.grow g155, ?_⟩
        have lb155 := B155.lt
        replace hA := hA.grow g155
        replace hDA := hDA.grow g155
        replace hDB := hDB.grow g155
        replace G := G.grow g155
        replace GS10 := GS10.grow g155
        replace B2 := B2.grow g155
        replace B7 := B7.grow g155
        replace B8 := B8.grow g155
        replace B148 := B148.grow g155
        replace B149 := B149.grow g155
        have zg155 := g155.size
        refine Dq (i := 9) rfl GS10 (fun _ _ => Y_build (cs := [_, _, _]) zr39 pc39 rfl rfl) ?_
        refine D_2 (i := 3) (j := 10) (by kernel_rfl) ?_ ?_
        · -- operation 3 comes up
         obtain ⟨rsF, hSF, hRF⟩ := hDA.flat
         have O1 : OW (fun i => i = b149) w155 39 3 (some ⟨b149, 0, none⟩) 0 0 [] := OW.of_blk B149 rfl (by decide) rfl
         obtain ⟨z1, hz1⟩ : ∃ x, x = w155.heap.size := ⟨_, rfl⟩
         refine E_app0 (i := 3) rfl (news := flatC h.cells rsF) Try.underlying32 zr39 sz39 by39 rfl rfl O1 (flatC_len hRF.len) hSF (flatC_one _ _) (by omega) (Pr' := fun i => i = b149 ∨ z1 ≤ i) (fun i hi => .inl hi) (by omega) ?_
         intro A156 cap156 w156 X156 m156
         replace G := G.abv m156
         replace GS10 := GS10.abv m156
         replace hA := hA0.grow G
         replace hDA := hDA.md m156
         replace hDB := hDB.md m156
         replace hRF := hRF.md m156
         replace B2 := B2.md m156
         replace B7 := B7.md m156
         replace B8 := B8.md m156
         replace B148 := B148.md m156
         replace B155 := B155.md m156
         have zm156 := m156.size
         obtain ⟨z2, hz2⟩ : ∃ x, x = w156.heap.size := ⟨_, rfl⟩
         have O2 : OW (fun i => (i = b149 ∨ z1 ≤ i) ∧ i < z2) w156 39 3 A156 h.cells.length cap156 (flatC h.cells rsF) := by rw [hz2]; exact X156.lt
         clear O1 X156
         refine ⟨GS10, ?_⟩
         refine D_1 (i := 10) (by kernel_rfl) ?_
         refine E_bs1 (cs := [_, _, _]) (i := 10) rfl Try.underlying32 zr39 sz39 rfl rfl rfl ?_
         intro b157 w157 fb157 g157 B157
         refine ⟨GS10.grow g157, ?_⟩
         have lb157 := B157.lt
         replace hA := hA.grow g157
         replace hDA := hDA.grow g157
         replace hDB := hDB.grow g157
         replace hRF := hRF.grow g157
         replace O2 := O2.grow g157
         replace G := G.grow g157
         replace GS10 := GS10.grow g157
         replace B2 := B2.grow g157
         replace B7 := B7.grow g157
         replace B8 := B8.grow g157
         replace B148 := B148.grow g157
         replace B155 := B155.grow g157
         have zg157 := g157.size
         refine D_1 (i := 11) (by kernel_rfl) ?_
         obtain ⟨z3, hz3⟩ : ∃ x, x = w157.heap.size := ⟨_, rfl⟩
         refine E_app (i := 11) rfl Try.underlying32 zr39 sz39 by39 rfl rfl O2 rfl (Src.blk B157) (by simp [Value.oneCell']) (by omega) (Pr' := fun i => ((i = b149 ∨ z1 ≤ i) ∧ i < z2) ∨ z3 ≤ i) (fun i hi => .inl hi) (by first | omega | (dsimp only; omega)) ?_
         intro A158 cap158 w158 X158 m158
         have O3 : OW (fun i => ((i = b149 ∨ z1 ≤ i) ∧ i < z2) ∨ z3 ≤ i) w158 39 3 A158 (h.cells.length + 1) cap158 (flatC (h.cells ++ [⟨true, 0, [((h.cells.length + 1 : Nat) : Int)]⟩]) (rsF ++ [(some ⟨b155, 0, none⟩, 1)])) := by rw [← flat_more hRF.len]; exact X158
         clear X158
         replace G := G.abv m158
         replace GS10 := GS10.abv m158
         replace hA := hA0.grow G
         replace hDA := hDA.md m158
         replace hDB := hDB.md m158
         replace hRF := hRF.md m158
         replace B2 := B2.md m158
         replace B7 := B7.md m158
         replace B8 := B8.md m158
         replace B148 := B148.md m158
         replace B155 := B155.md m158
         have zm158 := m158.size
         have hRF2 := hRF.snoc (c := ⟨true, 0, [((h.cells.length + 1 : Nat) : Int)]⟩) (bc := 1) (R1.of_blkE B155)
         have hZA2 := RC.of_flat O3.lt hRF2 (fun _ h => Or.inl h) (fun _ h => Or.inr h)
         obtain ⟨AZ, rfl⟩ : ∃ x, x = A158 := ⟨_, rfl⟩
         obtain ⟨cZ, rfl⟩ : ∃ x, x = cap158 := ⟨_, rfl⟩
         refine ⟨GS10, ?_⟩
         refine Dq (i := 14) rfl GS10 (fun _ _ => Y_build (cs := [_, _]) zr35 pc35 rfl rfl) ?_
         refine D_1 (i := 16) (by kernel_rfl) ?_
         refine E_stM (pre := []) (old := [_, _]) (post := []) (vs := [_, _]) (i := 16) rfl sz35 rfl rfl rfl (by first | rfl | assumption) B148 rfl rfl ?_
         intro w159 m159 X159
         replace B148 := Blk.eq (ys := [_, _]) X159 rfl
         clear X159
         replace G := G.abv m159
         replace GS10 := GS10.abv m159
         replace hA := hA0.grow G
         replace hDA := hDA.md m159
         replace hDB := hDB.md m159
         replace hZA2 := hZA2.md m159
         replace B2 := B2.md m159
         replace B7 := B7.md m159
         replace B8 := B8.md m159
         replace B155 := B155.md m159
         have zm159 := m159.size
         refine ⟨GS10, ?_⟩
         refine D_en (by kernel_rfl) rfl rfl ?_
         exact ⟨rfl, _, _, _, _, rfl, rfl, rfl, rfl, rfl, rfl, g10.grow GS10, B148, hZA2.below⟩
        · -- operation 10 comes up
         refine E_bs1 (cs := [_, _, _]) (i := 10) rfl Try.underlying32 zr39 sz39 rfl rfl rfl ?_
         intro b160 w160 fb160 g160 B160
         refine ⟨GS10.grow g160, ?_⟩
         have lb160 := B160.lt
         replace hA := hA.grow g160
         replace hDA := hDA.grow g160
         replace hDB := hDB.grow g160
         replace G := G.grow g160
         replace GS10 := GS10.grow g160
         replace B2 := B2.grow g160
         replace B7 := B7.grow g160
         replace B8 := B8.grow g160
         replace B148 := B148.grow g160
         replace B149 := B149.grow g160
         replace B155 := B155.grow g160
         have zg160 := g160.size
         refine D_1 (i := 3) (by kernel_rfl) ?_
         obtain ⟨rsF, hSF, hRF⟩ := hDA.flat
         have O1 : OW (fun i => i = b149) w160 39 3 (some ⟨b149, 0, none⟩) 0 0 [] := OW.of_blk B149 rfl (by decide) rfl
         obtain ⟨z1, hz1⟩ : ∃ x, x = w160.heap.size := ⟨_, rfl⟩
         refine E_app0 (i := 3) rfl (news := flatC h.cells rsF) Try.underlying32 zr39 sz39 by39 rfl rfl O1 (flatC_len hRF.len) hSF (flatC_one _ _) (by omega) (Pr' := fun i => i = b149 ∨ z1 ≤ i) (fun i hi => .inl hi) (by omega) ?_
         intro A161 cap161 w161 X161 m161
         replace G := G.abv m161
         replace GS10 := GS10.abv m161
         replace hA := hA0.grow G
         replace hDA := hDA.md m161
         replace hDB := hDB.md m161
         replace hRF := hRF.md m161
         replace B2 := B2.md m161
         replace B7 := B7.md m161
         replace B8 := B8.md m161
         replace B148 := B148.md m161
         replace B155 := B155.md m161
         replace B160 := B160.md m161
         have zm161 := m161.size
         obtain ⟨z2, hz2⟩ : ∃ x, x = w161.heap.size := ⟨_, rfl⟩
         have O2 : OW (fun i => (i = b149 ∨ z1 ≤ i) ∧ i < z2) w161 39 3 A161 h.cells.length cap161 (flatC h.cells rsF) := by rw [hz2]; exact X161.lt
         clear O1 X161
         refine ⟨GS10, ?_⟩
         refine D_1 (i := 11) (by kernel_rfl) ?_
         obtain ⟨z3, hz3⟩ : ∃ x, x = w161.heap.size := ⟨_, rfl⟩
         refine E_app (i := 11) rfl Try.underlying32 zr39 sz39 by39 rfl rfl O2 rfl (Src.blk B160) (by simp [Value.oneCell']) (by omega) (Pr' := fun i => ((i = b149 ∨ z1 ≤ i) ∧ i < z2) ∨ z3 ≤ i) (fun i hi => .inl hi) (by first | omega | (dsimp only; omega)) ?_
         intro A162 cap162 w162 X162 m162
         have O3 : OW (fun i => ((i = b149 ∨ z1 ≤ i) ∧ i < z2) ∨ z3 ≤ i) w162 39 3 A162 (h.cells.length + 1) cap162 (flatC (h.cells ++ [⟨true, 0, [((h.cells.length + 1 : Nat) : Int)]⟩]) (rsF ++ [(some ⟨b155, 0, none⟩, 1)])) := by rw [← flat_more hRF.len]; exact X162
         clear X162
         replace G := G.abv m162
         replace GS10 := GS10.abv m162
         replace hA := hA0.grow G
         replace hDA := hDA.md m162
         replace hDB := hDB.md m162
         replace hRF := hRF.md m162
         replace B2 := B2.md m162
         replace B7 := B7.md m162
         replace B8 := B8.md m162
         replace B148 := B148.md m162
         replace B155 := B155.md m162
         have zm162 := m162.size
         have hRF2 := hRF.snoc (c := ⟨true, 0, [((h.cells.length + 1 : Nat) : Int)]⟩) (bc := 1) (R1.of_blkE B155)
         have hZA2 := RC.of_flat O3.lt hRF2 (fun _ h => Or.inl h) (fun _ h => Or.inr h)
         obtain ⟨AZ, rfl⟩ : ∃ x, x = A162 := ⟨_, rfl⟩
         obtain ⟨cZ, rfl⟩ : ∃ x, x = cap162 := ⟨_, rfl⟩
         refine ⟨GS10, ?_⟩
         refine Dq (i := 14) rfl GS10 (fun _ _ => Y_build (cs := [_, _]) zr35 pc35 rfl rfl) ?_
         refine D_1 (i := 16) (by kernel_rfl) ?_
         refine E_stM (pre := []) (old := [_, _]) (post := []) (vs := [_, _]) (i := 16) rfl sz35 rfl rfl rfl (by first | rfl | assumption) B148 rfl rfl ?_
         intro w163 m163 X163
         replace B148 := Blk.eq (ys := [_, _]) X163 rfl
         clear X163
         replace G := G.abv m163
         replace GS10 := GS10.abv m163
         replace hA := hA0.grow G
         replace hDA := hDA.md m163
         replace hDB := hDB.md m163
         replace hZA2 := hZA2.md m163
         replace B2 := B2.md m163
         replace B7 := B7.md m163
         replace B8 := B8.md m163
         replace B155 := B155.md m163
         have zm163 := m163.size
         refine ⟨GS10, ?_⟩
         refine D_en (by kernel_rfl) rfl rfl ?_
         exact ⟨rfl, _, _, _, _, rfl, rfl, rfl, rfl, rfl, rfl, g10.grow GS10, B148, hZA2.below⟩
      · -- operation 8 comes up
       refine E_bs1 (cs := [_]) (i := 8) rfl Try.underlying33 zr3 sz3 rfl rfl rfl ?_
       intro b164 w164 fb164 g164 B164
       refine ⟨GS10.grow g164, ?_⟩
       have lb164 := B164.lt
       replace hA := hA.grow g164
       replace hDA := hDA.grow g164
       replace hDB := hDB.grow g164
       replace G := G.grow g164
       replace GS10 := GS10.grow g164
       replace B2 := B2.grow g164
       replace B7 := B7.grow g164
       replace B8 := B8.grow g164
       replace B148 := B148.grow g164
       have zg164 := g164.size
       refine Dq (i := 9) rfl GS10 (fun _ _ => Y_build (cs := [_, _, _]) zr39 pc39 rfl rfl) ?_
       refine D_2 (i := 0) (j := 10) (by kernel_rfl) ?_ ?_
       · -- operation 0 comes up
        refine E_bs0 (i := 0) rfl Try.underlying32 sz39 ?_
        intro b165 w165 fb165 g165 B165
        refine ⟨GS10.grow g165, ?_⟩
        have lb165 := B165.lt
        replace hA := hA.grow g165
        replace hDA := hDA.grow g165
        replace hDB := hDB.grow g165
        replace G := G.grow g165
        replace GS10 := GS10.grow g165
        replace B2 := B2.grow g165
        replace B7 := B7.grow g165
        replace B8 := B8.grow g165
        replace B148 := B148.grow g165
        replace B164 := B164.grow g165
        have zg165 := g165.size
        refine D_2 (i := 3) (j := 10) (by kernel_rfl) ?_ ?_
        · -- operation 3 comes up
         obtain ⟨rsF, hSF, hRF⟩ := hDA.flat
         have O1 : OW (fun i => i = b165) w165 39 3 (some ⟨b165, 0, none⟩) 0 0 [] := OW.of_blk B165 rfl (by decide) rfl
         obtain ⟨z1, hz1⟩ : ∃ x, x = w165.heap.size := ⟨_, rfl⟩
         refine E_app0 (i := 3) rfl (news := flatC h.cells rsF) Try.underlying32 zr39 sz39 by39 rfl rfl O1 (flatC_len hRF.len) hSF (flatC_one _ _) (by omega) (Pr' := fun i => i = b165 ∨ z1 ≤ i) (fun i hi => .inl hi) (by omega) ?_
         intro A166 cap166 w166 X166 m166
         replace G := G.abv m166
         replace GS10 := GS10.abv m166
         replace hA := hA0.grow G
         replace hDA := hDA.md m166
         replace hDB := hDB.md m166
         replace hRF := hRF.md m166
         replace B2 := B2.md m166
         replace B7 := B7.md m166
         replace B8 := B8.md m166
         replace B148 := B148.md m166
         replace B164 := B164.md m166
         have zm166 := m166.size
         obtain ⟨z2, hz2⟩ : ∃ x, x = w166.heap.size := ⟨_, rfl⟩
         have O2 : OW (fun i => (i = b165 ∨ z1 ≤ i) ∧ i < z2) w166 39 3 A166 h.cells.length cap166 (flatC h.cells rsF) := by rw [hz2]; exact X166.lt
         clear O1 X166
         refine ⟨GS10, ?_⟩
         refine D_1 (i := 10) (by kernel_rfl) ?_
         refine E_bs1 (cs := [_, _, _]) (i := 10) rfl Try.underlying32 zr39 sz39 rfl rfl rfl ?_
         intro b167 w167 fb167 g167 B167
         refine ⟨GS10.grow g167, ?_⟩
         have lb167 := B167.lt
         replace hA := hA.grow g167
         replace hDA := hDA.grow g167
         replace hDB := hDB.grow g167
         replace hRF := hRF.grow g167
         replace O2 := O2.grow g167
         replace G := G.grow g167
         replace GS10 := GS10.grow g167
         replace B2 := B2.grow g167
         replace B7 := B7.grow g167
         replace B8 := B8.grow g167
         replace B148 := B148.grow g167
         replace B164 := B164.grow g167
         have zg167 := g167.size
         refine D_1 (i := 11) (by kernel_rfl) ?_
         obtain ⟨z3, hz3⟩ : ∃ x, x = w167.heap.size := ⟨_, rfl⟩
         refine E_app (i := 11) rfl Try.underlying32 zr39 sz39 by39 rfl rfl O2 rfl (Src.blk B167) (by simp [Value.oneCell']) (by omega) (Pr' := fun i => ((i = b165 ∨ z1 ≤ i) ∧ i < z2) ∨ z3 ≤ i) (fun i hi => .inl hi) (by first | omega | (dsimp only; omega)) ?_
         intro A168 cap168 w168 X168 m168
         have O3 : OW (fun i => ((i = b165 ∨ z1 ≤ i) ∧ i < z2) ∨ z3 ≤ i) w168 39 3 A168 (h.cells.length + 1) cap168 (flatC (h.cells ++ [⟨true, 0, [((h.cells.length + 1 : Nat) : Int)]⟩]) (rsF ++ [(some ⟨b164, 0, none⟩, 1)])) := by rw [← flat_more hRF.len]; exact X168
         clear X168
         replace G := G.abv m168
         replace GS10 := GS10.abv m168
         replace hA := hA0.grow G
         replace hDA := hDA.md m168
         replace hDB := hDB.md m168
         replace hRF := hRF.md m168
         replace B2 := B2.md m168
         replace B7 := B7.md m168
         replace B8 := B8.md m168
         replace B148 := B148.md m168
         replace B164 := B164.md m168
         have zm168 := m168.size
         have hRF2 := hRF.snoc (c := ⟨true, 0, [((h.cells.length + 1 : Nat) : Int)]⟩) (bc := 1) (R1.of_blkE B164)
         have hZA2 := RC.of_flat O3.lt hRF2 (fun _ h => Or.inl h) (fun _ h => Or.inr h)
         obtain ⟨AZ, rfl⟩ : ∃ x, x = A168 := ⟨_, rfl⟩
         obtain ⟨cZ, rfl⟩ : ∃ x, x = cap168 := ⟨_, rfl⟩
         refine ⟨GS10, ?_⟩
         refine Dq (i := 14) rfl GS10 (fun _ _ => Y_build (cs := [_, _]) zr35 pc35 rfl rfl) ?_
         refine D_1 (i := 16) (by kernel_rfl) ?_
         refine E_stM (pre := []) (old := [_, _]) (post := []) (vs := [_, _]) (i := 16) rfl sz35 rfl rfl rfl (by first | rfl | assumption) B148 rfl rfl ?_
         intro w169 m169 X169
         replace B148 := Blk.eq (ys := [_, _]) X169 rfl
         clear X169
         replace G := G.abv m169
         replace GS10 := GS10.abv m169
         replace hA := hA0.grow G
         replace hDA := hDA.md m169
         replace hDB := hDB.md m169
         replace hZA2 := hZA2.md m169
         replace B2 := B2.md m169
         replace B7 := B7.md m169
         replace B8 := B8.md m169
         replace B164 := B164.md m169
         have zm169 := m169.size
         refine ⟨GS10, ?_⟩
         refine D_en (by kernel_rfl) rfl rfl ?_
         exact ⟨rfl, _, _, _, _, rfl, rfl, rfl, rfl, rfl, rfl, g10.grow GS10, B148, hZA2.below⟩
        · -- operation 10 comes up
         refine E_bs1 (cs := [_, _, _]) (i := 10) rfl Try.underlying32 zr39 sz39 rfl rfl rfl ?_
         intro b170 w170 fb170 g170 B170
         refine ⟨GS10.grow g170, ?_⟩
         have lb170 := B170.lt
         replace hA := hA.grow g170
         replace hDA := hDA.grow g170
         replace hDB := hDB.grow g170
         replace G := G.grow g170
         replace GS10 := GS10.grow g170
         replace B2 := B2.grow g170
         replace B7 := B7.grow g170
         replace B8 := B8.grow g170
         replace B148 := B148.grow g170
         replace B164 := B164.grow g170
         replace B165 := B165.grow g170
         have zg170 := g170.size
         refine D_1 (i := 3) (by kernel_rfl) ?_
         obtain ⟨rsF, hSF, hRF⟩ := hDA.flat
         have O1 : OW (fun i => i = b165) w170 39 3 (some ⟨b165, 0, none⟩) 0 0 [] := OW.of_blk B165 rfl (by decide) rfl
         obtain ⟨z1, hz1⟩ : ∃ x, x = w170.heap.size := ⟨_, rfl⟩
         refine E_app0 (i := 3) rfl (news := flatC h.cells rsF) Try.underlying32 zr39 sz39 by39 rfl rfl O1 (flatC_len hRF.len) hSF (flatC_one _ _) (by omega) (Pr' := fun i => i = b165 ∨ z1 ≤ i) (fun i hi => .inl hi) (by omega) ?_
         intro A171 cap171 w171 X171 m171
         replace G := G.abv m171
         replace GS10 := GS10.abv m171
         replace hA := hA0.grow G
         replace hDA := hDA.md m171
         replace hDB := hDB.md m171
         replace hRF := hRF.md m171
         replace B2 := B2.md m171
         replace B7 := B7.md m171
         replace B8 := B8.md m171
         replace B148 := B148.md m171
         replace B164 := B164.md m171
         replace B170 := B170.md m171
         have zm171 := m171.size
         obtain ⟨z2, hz2⟩ : ∃ x, x = w171.heap.size := ⟨_, rfl⟩
         have O2 : OW (fun i => (i = b165 ∨ z1 ≤ i) ∧ i < z2) w171 39 3 A171 h.cells.length cap171 (flatC h.cells rsF) := by rw [hz2]; exact X171.lt
         clear O1 X171
         refine ⟨GS10, ?_⟩
         refine D_1 (i := 11) (by kernel_rfl) ?_
         obtain ⟨z3, hz3⟩ : ∃ x, x = w171.heap.size := ⟨_, rfl⟩
         refine E_app (i := 11) rfl Try.underlying32 zr39 sz39 by39 rfl rfl O2 rfl (Src.blk B170) (by simp [Value.oneCell']) (by omega) (Pr' := fun i => ((i = b165 ∨ z1 ≤ i) ∧ i < z2) ∨ z3 ≤ i) (fun i hi => .inl hi) (by first | omega | (dsimp only; omega)) ?_
         intro A172 cap172 w172 X172 m172
         have O3 : OW (fun i => ((i = b165 ∨ z1 ≤ i) ∧ i < z2) ∨ z3 ≤ i) w172 39 3 A172 (h.cells.length + 1) cap172 (flatC (h.cells ++ [⟨true, 0, [((h.cells.length + 1 : Nat) : Int)]⟩]) (rsF ++ [(some ⟨b164, 0, none⟩, 1)])) := by rw [← flat_more hRF.len]; exact X172
         clear X172
         replace G := G.abv m172
         replace GS10 := GS10.abv m172
         replace hA := hA0.grow G
         replace hDA := hDA.md m172
         replace hDB := hDB.md m172
         replace hRF := hRF.md m172
         replace B2 := B2.md m172
         replace B7 := B7.md m172
         replace B8 := B8.md m172
         replace B148 := B148.md m172
         replace B164 := B164.md m172
         have zm172 := m172.size
         have hRF2 := hRF.snoc (c := ⟨true, 0, [((h.cells.length + 1 : Nat) : Int)]⟩) (bc := 1) (R1.of_blkE B164)
         have hZA2 := RC.of_flat O3.lt hRF2 (fun _ h => Or.inl h) (fun _ h => Or.inr h)
         obtain ⟨AZ, rfl⟩ : ∃ x, x = A172 := ⟨_, rfl⟩
         obtain ⟨cZ, rfl⟩ : ∃ x, x = cap172 := ⟨_, rfl⟩
         refine ⟨GS10, ?_⟩
         refine Dq (i := 14) rfl GS10 (fun _ _ => Y_build (cs := [_, _]) zr35 pc35 rfl rfl) ?_
         refine D_1 (i := 16) (by kernel_rfl) ?_
         refine E_stM (pre := []) (old := [_, _]) (post := []) (vs := [_, _]) (i := 16) rfl sz35 rfl rfl rfl (by first | rfl | assumption) B148 rfl rfl ?_
         intro w173 m173 X173
         replace B148 := Blk.eq (ys := [_, _]) X173 rfl
         clear X173
         replace G := G.abv m173
         replace GS10 := GS10.abv m173
         replace hA := hA0.grow G
         replace hDA := hDA.md m173
         replace hDB := hDB.md m173
         replace hZA2 := hZA2.md m173
         replace B2 := B2.md m173
         replace B7 := B7.md m173
         replace B8 := B8.md m173
         replace B164 := B164.md m173
         have zm173 := m173.size
         refine ⟨GS10, ?_⟩
         refine D_en (by kernel_rfl) rfl rfl ?_
         exact ⟨rfl, _, _, _, _, rfl, rfl, rfl, rfl, rfl, rfl, g10.grow GS10, B148, hZA2.below⟩
       · -- operation 10 comes up
        refine E_bs1 (cs := [_, _, _]) (i := 10) rfl Try.underlying32 zr39 sz39 rfl rfl rfl ?_
        intro b174 w174 fb174 g174 B174
        refine ⟨GS10.grow g174, ?_⟩
        have lb174 := B174.lt
        replace hA := hA.grow g174
        replace hDA := hDA.grow g174
        replace hDB := hDB.grow g174
        replace G := G.grow g174
        replace GS10 := GS10.grow g174
        replace B2 := B2.grow g174
        replace B7 := B7.grow g174
        replace B8 := B8.grow g174
        replace B148 := B148.grow g174
        replace B164 := B164.grow g174
        have zg174 := g174.size
        refine D_1 (i := 0) (by kernel_rfl) ?_
        refine E_bs0 (i := 0) rfl Try.underlying32 sz39 ?_
        intro b175 w175 fb175 g175 B175
        refine ⟨GS10.grow g175, ?_⟩
        have lb175 := B175.lt
        replace hA := hA.grow g175
        replace hDA := hDA.grow g175
        replace hDB := hDB.grow g175
        replace G := G.grow g175
        replace GS10 := GS10.grow g175
        replace B2 := B2.grow g175
        replace B7 := B7.grow g175
        replace B8 := B8.grow g175
        replace B148 := B148.grow g175
        replace B164 := B164.grow g175
        replace B174 := B174.grow g175
        have zg175 := g175.size
        refine D_1 (i := 3) (by kernel_rfl) ?_
        obtain ⟨rsF, hSF, hRF⟩ := hDA.flat
        have O1 : OW (fun i => i = b175) w175 39 3 (some ⟨b175, 0, none⟩) 0 0 [] := OW.of_blk B175 rfl (by decide) rfl
        obtain ⟨z1, hz1⟩ : ∃ x, x = w175.heap.size := ⟨_, rfl⟩
        refine E_app0 (i := 3) rfl (news := flatC h.cells rsF) Try.underlying32 zr39 sz39 by39 rfl rfl O1 (flatC_len hRF.len) hSF (flatC_one _ _) (by omega) (Pr' := fun i => i = b175 ∨ z1 ≤ i) (fun i hi => .inl hi) (by omega) ?_
        intro A176 cap176 w176 X176 m176
        replace G := G.abv m176
        replace GS10 := GS10.abv m176
        replace hA := hA0.grow G
        replace hDA := hDA.md m176
        replace hDB := hDB.md m176
        replace hRF := hRF.md m176
        replace B2 := B2.md m176
        replace B7 := B7.md m176
        replace B8 := B8.md m176
        replace B148 := B148.md m176
        replace B164 := B164.md m176
        replace B174 := B174.md m176
        have zm176 := m176.size
        obtain ⟨z2, hz2⟩ : ∃ x, x = w176.heap.size := ⟨_, rfl⟩
        have O2 : OW (fun i => (i = b175 ∨ z1 ≤ i) ∧ i < z2) w176 39 3 A176 h.cells.length cap176 (flatC h.cells rsF) := by rw [hz2]; exact X176.lt
        clear O1 X176
        refine ⟨GS10, ?_⟩
        refine D_1 (i := 11) (by kernel_rfl) ?_
        obtain ⟨z3, hz3⟩ : ∃ x, x = w176.heap.size := ⟨_, rfl⟩
        refine E_app (i := 11) rfl Try.underlying32 zr39 sz39 by39 rfl rfl O2 rfl (Src.blk B174) (by simp [Value.oneCell']) (by omega) (Pr' := fun i => ((i = b175 ∨ z1 ≤ i) ∧ i < z2) ∨ z3 ≤ i) (fun i hi => .inl hi) (by first | omega | (dsimp only; omega)) ?_
        intro A177 cap177 w177 X177 m177
        have O3 : OW (fun i => ((i = b175 ∨ z1 ≤ i) ∧ i < z2) ∨ z3 ≤ i) w177 39 3 A177 (h.cells.length + 1) cap177 (flatC (h.cells ++ [⟨true, 0, [((h.cells.length + 1 : Nat) : Int)]⟩]) (rsF ++ [(some ⟨b164, 0, none⟩, 1)])) := by rw [← flat_more hRF.len]; exact X177
        clear X177
        replace G := G.abv m177
        replace GS10 := GS10.abv m177
        replace hA := hA0.grow G
        replace hDA := hDA.md m177
        replace hDB := hDB.md m177
        replace hRF := hRF.md m177
        replace B2 := B2.md m177
        replace B7 := B7.md m177
        replace B8 := B8.md m177
        replace B148 := B148.md m177
        replace B164 := B164.md m177
        have zm177 := m177.size
        have hRF2 := hRF.snoc (c := ⟨true, 0, [((h.cells.length + 1 : Nat) : Int)]⟩) (bc := 1) (R1.of_blkE B164)
        have hZA2 := RC.of_flat O3.lt hRF2 (fun _ h => Or.inl h) (fun _ h => Or.inr h)
        obtain ⟨AZ, rfl⟩ : ∃ x, x = A177 := ⟨_, rfl⟩
        obtain ⟨cZ, rfl⟩ : ∃ x, x = cap177 := ⟨_, rfl⟩
        refine ⟨GS10, ?_⟩
        refine Dq (i := 14) rfl GS10 (fun _ _ => Y_build (cs := [_, _]) zr35 pc35 rfl rfl) ?_
        refine D_1 (i := 16) (by kernel_rfl) ?_
        refine E_stM (pre := []) (old := [_, _]) (post := []) (vs := [_, _]) (i := 16) rfl sz35 rfl rfl rfl (by first | rfl | assumption) B148 rfl rfl ?_
        intro w178 m178 X178
        replace B148 := Blk.eq (ys := [_, _]) X178 rfl
        clear X178
        replace G := G.abv m178
        replace GS10 := GS10.abv m178
        replace hA := hA0.grow G
        replace hDA := hDA.md m178
        replace hDB := hDB.md m178
        replace hZA2 := hZA2.md m178
        replace B2 := B2.md m178
        replace B7 := B7.md m178
        replace B8 := B8.md m178
        replace B164 := B164.md m178
        have zm178 := m178.size
        refine ⟨GS10, ?_⟩
        refine D_en (by kernel_rfl) rfl rfl ?_
        exact ⟨rfl, _, _, _, _, rfl, rfl, rfl, rfl, rfl, rfl, g10.grow GS10, B148, hZA2.below⟩
    · -- behind the cut
     rintro a' w11 ⟨b900, AZ, cZ, L, rfl, hL, hs3, hs4, hs5, hs6, gJ11, B900, hZA2⟩
     obtain ⟨x, rfl⟩ : ∃ x : Nat → Value, L = [x 0, x 1, x 2, (.pointer (some ⟨b2, 0, none⟩)), (.bool (validB h)), (.pointer (some ⟨b8, 0, none⟩)), (.pointer (some ⟨b900, 0, none⟩)), x 7, x 8, x 9, x 10, x 11, x 12, x 13, x 14, x 15, x 16, x 17, x 18, x 19, x 20, x 21, x 22, x 23, x 24, x 25, x 26, x 27, x 28, x 29, x 30, x 31, x 32, x 33, x 34, x 35, x 36, x 37, x 38, x 39, x 40, x 41, x 42, x 43, x 44, x 45, x 46, x 47, x 48, x 49, x 50, x 51, x 52, x 53, x 54, x 55, x 56, x 57, x 58] := ⟨fun i => L.getD i undef, (slots_eta L 59 hL).trans (by show [L.getD 0 undef, L.getD 1 undef, L.getD 2 undef, L.getD 3 undef, L.getD 4 undef, L.getD 5 undef, L.getD 6 undef, L.getD 7 undef, L.getD 8 undef, L.getD 9 undef, L.getD 10 undef, L.getD 11 undef, L.getD 12 undef, L.getD 13 undef, L.getD 14 undef, L.getD 15 undef, L.getD 16 undef, L.getD 17 undef, L.getD 18 undef, L.getD 19 undef, L.getD 20 undef, L.getD 21 undef, L.getD 22 undef, L.getD 23 undef, L.getD 24 undef, L.getD 25 undef, L.getD 26 undef, L.getD 27 undef, L.getD 28 undef, L.getD 29 undef, L.getD 30 undef, L.getD 31 undef, L.getD 32 undef, L.getD 33 undef, L.getD 34 undef, L.getD 35 undef, L.getD 36 undef, L.getD 37 undef, L.getD 38 undef, L.getD 39 undef, L.getD 40 undef, L.getD 41 undef, L.getD 42 undef, L.getD 43 undef, L.getD 44 undef, L.getD 45 undef, L.getD 46 undef, L.getD 47 undef, L.getD 48 undef, L.getD 49 undef, L.getD 50 undef, L.getD 51 undef, L.getD 52 undef, L.getD 53 undef, L.getD 54 undef, L.getD 55 undef, L.getD 56 undef, L.getD 57 undef, L.getD 58 undef] = _; rw [slot_d hs3, slot_d hs4, slot_d hs5, slot_d hs6])⟩
     clear hL hs3 hs4 hs5 hs6
     replace hA := hA.grow gJ11
     replace hDA := hDA.grow gJ11
     replace hDB := hDB.grow gJ11
     replace G := G.grow gJ11
     replace B2 := B2.grow gJ11
     replace B7 := B7.grow gJ11
     replace B8 := B8.grow gJ11
     have zgJ11 := gJ11.size
     have lb900 := B900.lt
     refine th_n (hK13 _ _ ?_)
     clear hK13 K13
     refine wp_seq_k fun K14 hK14 => ?_
     refine D_start 17 59 (fun w => Mod (No) w) follows rfl rfl ?_  -- d2 r11
     intro w179 g179
     replace hA := hA.grow g179
     replace hDA := hDA.grow g179
     replace hDB := hDB.grow g179
     replace hZA2 := hZA2.grow g179
     replace G := G.grow g179
     replace B2 := B2.grow g179
     replace B7 := B7.grow g179
     replace B8 := B8.grow g179
     replace B900 := B900.grow g179
     have zg179 := g179.size
     have GS179 := Mod.refl (No) w179
     have B2d179 := B2
     have B8d179 := B8
     have B900d179 := B900
     refine Dq (i := 0) rfl GS179 (fun _ hs => Y_loadS Try.underlying35 rfl sz35 rfl (by first | exact hs.cells0 (B8.row (by rfl)))) ?_
     refine D_1 (i := 1) (by kernel_rfl) ?_
     refine E_call rfl rfl en50 (HeapValid_p (fun _ => True) _ _ ⟨h.cells, [(h.cells.length : Int), -1, -1, -1]⟩ _ _ _ _ _ (hDA.weak (fun _ _ => trivial)) ((R1.of_blkE B7).weak (fun _ _ => trivial)) (by have h9 := hsm.size; unfold hsize at *; simp only [List.length_cons, List.length_nil]; omega) rfl rfl) ?_  -- k5 impl.HeapValid
     rintro v180 w180 ⟨rfl, g180⟩
     replace hA := hA.grow g180
     replace hDA := hDA.grow g180
     replace hDB := hDB.grow g180
     replace hZA2 := hZA2.grow g180
     replace G := G.grow g180
     replace GS179 := GS179.grow g180
     replace B2 := B2.grow g180
     replace B7 := B7.grow g180
     replace B8 := B8.grow g180
     replace B900 := B900.grow g180
     have zg180 := g180.size
     refine ⟨GS179, ?_⟩
     refine Dq (i := 2) rfl GS179 (fun _ _ => Y_not rfl) ?_
     refine Dq (i := 3) rfl GS179 (fun _ _ => Y_move rfl) ?_
     refine D_g 46 rfl (fun hb4 => ?_) (fun hb4 => ?_)  -- g1
     · -- g1T
      first | with_reducible (replace hb4 := nb_nt hb4) | with_reducible (replace hb4 := nb_tt hb4) | with_reducible (replace hb4 := nb_bt hb4) | skip
      refine Dqon (i := 4) rfl rfl rfl GS179 (fun _ hs => Y_loadS Try.underlying35 rfl sz35 rfl (by first | exact hs.cells0 (B900.row (by rfl)) | exact hs.cells0 (B900d179.row (by rfl)))) ?_
      refine D_1 (i := 5) (by kernel_rfl) ?_
      refine E_calln rfl rfl rfl rfl en50 (HeapValid_p (fun _ => True) _ _ ⟨h.cells ++ [⟨true, 0, [((h.cells.length + 1 : Nat) : Int)]⟩], h.roots⟩ _ _ _ _ _ (hZA2.weak (fun _ _ => trivial)) (hDB.weak (fun _ _ => trivial)) (by have h9 := hsm.more (z := ⟨true, 0, [((h.cells.length + 1 : Nat) : Int)]⟩) (by simp); omega) (by simp) rfl) ?_  -- k6 impl.HeapValid
      rintro v181 w181 ⟨rfl, g181⟩
      replace hA := hA.grow g181
      replace hDA := hDA.grow g181
      replace hDB := hDB.grow g181
      replace hZA2 := hZA2.grow g181
      replace G := G.grow g181
      replace GS179 := GS179.grow g181
      replace B2 := B2.grow g181
      replace B7 := B7.grow g181
      replace B8 := B8.grow g181
      replace B900 := B900.grow g181
      have zg181 := g181.size
      refine ⟨GS179, ?_⟩
      refine Dqon (i := 6) rfl rfl rfl GS179 (fun _ _ => Y_not rfl) ?_
      refine Dq (i := 7) rfl GS179 (fun _ _ => Y_pickT rfl rfl) ?_
      refine Dq (i := 8) rfl GS179 (fun _ _ => Y_move rfl) ?_
      refine D_g 51 rfl (fun hb5 => ?_) (fun hb5 => ?_)  -- g2
      · -- g2T
       first | with_reducible (replace hb5 := nb_nt hb5) | with_reducible (replace hb5 := nb_tt hb5) | with_reducible (replace hb5 := nb_bt hb5) | skip
       refine Dqon (i := 9) rfl rfl rfl GS179 (fun _ _ => Y_field Try.underlying35 rfl fz35_0 (by decide) rfl) ?_
       refine Dqon (i := 10) rfl rfl rfl GS179 (fun _ hs => Y_load Try.underlying32 rfl rfl (by first | exact hs.cell0 (B2.at (by rfl)) | exact hs.cell0 (B2d179.at (by rfl)))) ?_
       refine D_1 (i := 11) (by kernel_rfl) ?_
       refine E_calln rfl rfl rfl rfl en51 (impl_EmptyHeap_c _) ?_  -- k7 impl.EmptyHeap
       rintro v182 w182 ⟨A182, B182, n1182, c1182, n2182, c2182, rs182, rfl, hn1182, hn2182, O182, g182⟩
       replace hA := hA.grow g182
       replace hDA := hDA.grow g182
       replace hDB := hDB.grow g182
       replace hZA2 := hZA2.grow g182
       replace G := G.grow g182
       replace GS179 := GS179.grow g182
       replace B2 := B2.grow g182
       replace B7 := B7.grow g182
       replace B8 := B8.grow g182
       replace B900 := B900.grow g182
       have zg182 := g182.size
       subst hn2182
       have hEB := O182.lt.r1
       refine ⟨GS179, ?_⟩
       refine Dqon (i := 12) rfl rfl rfl GS179 (fun _ _ => Y_part Try.underlying35 rfl Try.underlying33 rfl rfl rfl) ?_
       refine Dqon (i := 13) rfl rfl rfl GS179 (fun _ _ => Y_build (cs := [_, _]) zr35 pc35 rfl rfl) ?_
       refine D_1 (i := 14) (by kernel_rfl) ?_
       refine E_calln rfl rfl rfl rfl en50 (HeapValid_p (fun _ => True) _ _ ⟨h.cells, List.replicate 4 (-1)⟩ _ _ _ _ _ (hDA.weak (fun _ _ => trivial)) (hEB.weak (fun _ _ => trivial)) (by have h9 := hsm.size; unfold hsize at *; simp only [List.length_replicate]; omega) rfl rfl) ?_  -- k8 impl.HeapValid
       rintro v183 w183 ⟨rfl, g183⟩
       replace hA := hA.grow g183
       replace hDA := hDA.grow g183
       replace hDB := hDB.grow g183
       replace hZA2 := hZA2.grow g183
       replace hEB := hEB.grow g183
       replace G := G.grow g183
       replace GS179 := GS179.grow g183
       replace B2 := B2.grow g183
       replace B7 := B7.grow g183
       replace B8 := B8.grow g183
       replace B900 := B900.grow g183
       have zg183 := g183.size
       refine ⟨GS179, ?_⟩
       refine Dq (i := 15) rfl GS179 (fun _ _ => Y_pickT rfl rfl) ?_
       refine Dq (i := 16) rfl GS179 (fun _ _ => Y_assign rfl) ?_
       refine D_en (by kernel_rfl) rfl rfl ?_
       refine th_n (hK14 _ _ ?_)
       clear hK14 K14
       refine wp_ret ?_
       refine ret_r1 rfl rfl ?_  -- r3
       first | exact ⟨rfl, G⟩ | exact ⟨vB (free_roots va), G⟩
      · -- g2F
       first | with_reducible (replace hb5 := nb_nf hb5) | with_reducible (replace hb5 := nb_tf hb5) | with_reducible (replace hb5 := nb_bf hb5) | skip
       rw [bad_ref] at hb5; cases hb5
     · -- g1F
      first | with_reducible (replace hb4 := nb_nf hb4) | with_reducible (replace hb4 := nb_tf hb4) | with_reducible (replace hb4 := nb_bf hb4) | skip
      rw [bad_root] at hb4; cases hb4

end Go.Proofs.Ytikgflhepclfgaa
