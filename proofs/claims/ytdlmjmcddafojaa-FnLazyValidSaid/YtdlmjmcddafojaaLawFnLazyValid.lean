/-
  The law FnLazyValid returns true.
  Conditions: those that each theorem states.
-/
import Derived.Test.YtdlmjmcddafojaaQfS4
set_option linter.unusedVariables false
set_option linter.unusedSimpArgs false
namespace Go.Proofs.Ytdlmjmcddafojaa
open Go Go.RowKit
attribute [local irreducible] wpList wpAnyH Code.wp dOp

theorem LazyValid_p (Pr : Nat → Prop) (A B C : Option Addr) (h : LH) (ms : List Bool) (x : Int) (c d e n : Nat) (w : World) (hA : RC Pr w A h.cells) (hB : R1 Pr w B (ints h.roots)) (hC : R1 Pr w C (bools ms)) (hz : hsize h ≤ 1048576) (hxz : ms.length ≤ 1048576) (hx : -9223372036854775808 ≤ x ∧ x ≤ 9223372036854775807) (hn : n = ms.length) :
    Calls Try.prog 15 #[.agg #[.slice A h.cells.length c, .slice B h.roots.length d, .slice C n e, .int .i64 x]] w (Ret fun v w' => v = .bool (lazB h ms x) ∧ Grow w w') := by
  subst hn
  exact impl_LazyValid_c Pr A B C h ms x c d e w hA hB hC hz hxz hx
theorem lazy_more {h : LH} {ms : List Bool} {x : Int} (hl : ms.length = h.cells.length) : lazB h (ms ++ [true]) x = false :=
  lazB_f2 (by rw [List.length_append, hl]; simp)
theorem lazy_zero {h : LH} {N : Nat} (hv : validB h = true) (hN : N = h.cells.length) (h0 : 0 < (metV h).length) : lazB h (mB N []) 0 = false := by
  subst hN
  obtain ⟨n, hn, hnl⟩ : ∃ n : Nat, (n : Int) ∈ metV h ∧ n < h.cells.length := by
    have hm := List.getElem_mem h0
    have hb := (met_bndV hv).2 _ hm
    obtain ⟨n, e⟩ := Int.eq_ofNat_of_zero_le hb.1
    rw [e] at hm hb
    exact ⟨n, hm, by omega⟩
  rw [show (0 : Int) = ((0 : Nat) : Int) from rfl, lazB_t hv (mB_len _ _) (Nat.zero_le _)]
  refine lzOk_bad hnl ?_
  rw [metV_t hv] at hn
  have hr : rB h n = true := rB_mem.2 hn
  have hi : inB (mB h.cells.length []) n = false := by
    unfold inB
    rw [mB_get hnl]
    simp
  unfold lzBad
  rw [hr, hi]
  rfl


set_option maxHeartbeats 4000000 in
set_option maxRecDepth 20000 in
theorem laws_FnLazyValid_c (Pr : Nat → Prop) (A : Option Addr) (xs : List Int) (c : Nat) (w : World) (hA : R1 Pr w A (u8s xs)) (hn : xs.length ≤ 9223372036854775807) (hcap : xs.length ≤ c) (hrg : ∀ y ∈ xs, 0 ≤ y ∧ y ≤ 255) :
    Calls Try.prog 4 #[.slice A xs.length c] w (Ret fun v w' => v = .bool true ∧ Grow w w') := by
 refine enter Try.func4 rfl Try.ntmps4 (L := [_,_,_,_,_,_,_,_,_,_,_,_,_,_,_,_,_,_,_,_,_,_,_,_,_,_,_,_,_,_,_,_,_,_,_,_,_,_,_,_,_,_,_,_,_,_,_,_,_,_,_,_,_,_]) rfl ?_
 have G := Mod.refl No w
 have hA0 := hA
 refine wp_seq_k fun K1 hK1 => ?_
 refine Sb 54 rfl ?_  -- 0
 refine S_val (Y_assign rfl) ?_
 refine S_nl rfl rfl ?_
 refine th_n (hK1 _ _ ?_)
 clear hK1 K1
 refine wp_seq_k fun K2 hK2 => ?_
 refine wp_seq_k fun K3 hK3 => ?_
 refine Sb 54 rfl ?_  -- 1
 refine S_val (Y_move rfl) ?_
 refine S_val (Y_len Try.underlying22 rfl) ?_
 refine S_val (Y_gtr rfl rfl) ?_
 refine S_nl rfl rfl ?_
 refine th_n (hK3 _ _ ?_)
 clear hK3 K3
 refine S_if rfl (fun hb1 => ?_) (fun hb1 => ?_)  -- c1
 · -- c1T
  replace hb1 := nb_tt hb1
  refine wp_seq_k fun K4 hK4 => ?_
  refine Sb 54 rfl ?_  -- 2
  refine S_val (Y_assign rfl) ?_
  refine S_nl rfl rfl ?_
  refine th_n (hK4 _ _ ?_)
  clear hK4 K4
  refine wp_ret ?_
  refine th_r ?_
  clear hK2 K2
  refine ret_r1 rfl rfl ?_  -- r1
  first | exact ⟨rfl, G⟩ | exact ⟨vN (lazy_zero hv9 hml h0), G⟩ | exact ⟨by simp [lazy_more hml, lazy_zero hv9 hml h0], G⟩
 · -- c1F
  replace hb1 := nb_tf hb1
  have hx : xs.length ≤ 1048576 := by omega
  refine wp_skip ?_
  refine th_n (hK2 _ _ ?_)
  clear hK2 K2
  refine wp_seq_k fun K5 hK5 => ?_
  refine Sb 54 rfl ?_  -- 3
  refine S_val (Y_move rfl) ?_
  refine S_call rfl en14 (spec_DrawLazyValid_c _ _ _ _ _ (by assumption) (by omega) (by omega) (by assumption)) ?_  -- k1 spec.DrawLazyValid
  rintro v1 w1 ⟨hD1, ns1, y1, A1, B1, C1, n11, c11, n21, c21, n31, c31, rfl, hn11, hn21, hn31, hz1, hy1, hr1, RC1, RR1, RM1, g1⟩
  replace hA := hA.grow g1
  replace G := G.grow g1
  have zg1 := g1.size
  subst hn11
  subst hn21
  subst hn31
  obtain ⟨h, rfl⟩ : ∃ x, x = hD1 := ⟨_, rfl⟩
  obtain ⟨ms, rfl⟩ : ∃ x, x = ns1 := ⟨_, rfl⟩
  obtain ⟨xL, rfl⟩ : ∃ x, x = y1 := ⟨_, rfl⟩
  obtain ⟨AD, rfl⟩ : ∃ x, x = A1 := ⟨_, rfl⟩
  obtain ⟨BD, rfl⟩ : ∃ x, x = B1 := ⟨_, rfl⟩
  obtain ⟨CD, rfl⟩ : ∃ x, x = C1 := ⟨_, rfl⟩
  obtain ⟨cD, rfl⟩ : ∃ x, x = c11 := ⟨_, rfl⟩
  obtain ⟨dD, rfl⟩ : ∃ x, x = c21 := ⟨_, rfl⟩
  obtain ⟨eD, rfl⟩ : ∃ x, x = c31 := ⟨_, rfl⟩
  have hzD := hz1
  have hzcD := hsize_cells h
  have hmD := hy1
  have hxD := hr1
  have hDA := RC1.below
  have hDB := RR1.below
  have hDM := RM1.below
  refine S_alloc (cs := [_, _, _, _]) zr42 rfl ?_
  intro b2 w2 fb2 g2 B2
  have lb2 := B2.lt
  replace hA := hA.grow g2
  replace hDA := hDA.grow g2
  replace hDB := hDB.grow g2
  replace hDM := hDM.grow g2
  replace G := G.grow g2
  have zg2 := g2.size
  refine S_stM (pre := []) (old := [_, _, _, _]) (post := []) (vs := [_, _, _, _]) sz42 rfl rfl rfl (by first | rfl | assumption) B2 rfl rfl ?_
  intro w3 m3 X3
  replace B2 := Blk.eq (ys := [_, _, _, _]) X3 rfl
  clear X3
  replace G := G.abv m3
  replace hA := hA0.grow G
  replace hDA := hDA.md m3
  replace hDB := hDB.md m3
  replace hDM := hDM.md m3
  have zm3 := m3.size
  refine S_nl rfl rfl ?_
  refine th_n (hK5 _ _ ?_)
  clear hK5 K5
  refine wp_seq_k fun K6 hK6 => ?_
  refine Sb 54 rfl ?_  -- 4
  refine S_val (Y_loadS Try.underlying42 rfl sz42 rfl (B2.row (by rfl))) ?_  -- l1
  refine S_call rfl en15 (impl_LazyValid_c _ _ _ _ h ms xL _ _ _ _ hDA hDB hDM (by omega) (by omega) (by omega)) ?_  -- k2 impl.LazyValid
  rintro v4 w4 ⟨rfl, g4⟩
  replace hA := hA.grow g4
  replace hDA := hDA.grow g4
  replace hDB := hDB.grow g4
  replace hDM := hDM.grow g4
  replace G := G.grow g4
  replace B2 := B2.grow g4
  have zg4 := g4.size
  refine S_val (Y_assign rfl) ?_
  refine S_nl rfl rfl ?_
  refine th_n (hK6 _ _ ?_)
  clear hK6 K6
  refine wp_seq_k fun K7 hK7 => ?_
  refine wp_seq_k fun K8 hK8 => ?_
  refine Sb 54 rfl ?_  -- 5
  refine S_val (Y_move rfl) ?_
  refine S_val (Y_loadS Try.underlying42 rfl sz42 rfl (B2.row (by rfl))) ?_  -- l2
  refine S_call rfl en16 (spec_LazyValid_c _ _ _ _ h ms xL _ _ _ _ hDA hDB hDM (by omega) (by omega) (by omega)) ?_  -- k3 spec.LazyValid
  rintro v5 w5 ⟨rfl, g5⟩
  replace hA := hA.grow g5
  replace hDA := hDA.grow g5
  replace hDB := hDB.grow g5
  replace hDM := hDM.grow g5
  replace G := G.grow g5
  replace B2 := B2.grow g5
  have zg5 := g5.size
  refine S_val (Y_neb Try.underlying4 rfl rfl) ?_
  refine S_nl rfl rfl ?_
  refine th_n (hK8 _ _ ?_)
  clear hK8 K8
  refine S_if rfl (fun hb2 => ?_) (fun hb2 => ?_)  -- c2
  · -- c2T
   replace hb2 := nb_nt hb2
   first | exact absurd rfl hb2 | (simp at hb2; done)
  · -- c2F
   replace hb2 := nb_nf hb2
   refine wp_skip ?_
   refine th_n (hK7 _ _ ?_)
   clear hK7 K7
   refine wp_seq_k fun K9 hK9 => ?_
   refine wp_seq_k fun K10 hK10 => ?_
   refine Sb 54 rfl ?_  -- 7
   refine S_val (Y_move rfl) ?_
   refine S_val (Y_not rfl) ?_
   refine S_nl rfl rfl ?_
   refine th_n (hK10 _ _ ?_)
   clear hK10 K10
   refine S_if rfl (fun hb3 => ?_) (fun hb3 => ?_)  -- c3
   · -- c3T
    first | with_reducible (replace hb3 := nb_nt hb3) | with_reducible (replace hb3 := nb_tt hb3) | with_reducible (replace hb3 := nb_bt hb3) | skip
    refine wp_seq_k fun K11 hK11 => ?_
    refine Sb 54 rfl ?_  -- 8
    refine S_call rfl en9 (laws_alive_c _) ?_  -- k4 laws.alive
    rintro v6 w6 ⟨rfl, g6⟩
    replace hA := hA.grow g6
    replace hDA := hDA.grow g6
    replace hDB := hDB.grow g6
    replace hDM := hDM.grow g6
    replace G := G.grow g6
    replace B2 := B2.grow g6
    have zg6 := g6.size
    refine S_val (Y_assign rfl) ?_
    refine S_nl rfl rfl ?_
    refine th_n (hK11 _ _ ?_)
    clear hK11 K11
    refine wp_ret ?_
    refine th_r ?_
    clear hK9 K9
    refine ret_r1 rfl rfl ?_  -- r2
    first | exact ⟨rfl, G⟩ | exact ⟨vN (lazy_zero hv9 hml h0), G⟩ | exact ⟨by simp [lazy_more hml, lazy_zero hv9 hml h0], G⟩
   · -- c3F
    first | with_reducible (replace hb3 := nb_nf hb3) | with_reducible (replace hb3 := nb_tf hb3) | with_reducible (replace hb3 := nb_bf hb3) | skip
    have hlz : lazB h ms xL = true := by first | assumption | simpa using hb3
    obtain ⟨va, hml, hx0, hxN⟩ := lazB_true hlz
    have hv9 := valid_iff.2 va
    have h40 := va.le
    have hle := metV_len h
    have hDA2 : RC (fun _ => True) w5 AD h.cells := hDA.weak (fun _ _ => trivial)
    have hDB2 : R1 (fun _ => True) w5 BD (ints h.roots) := hDB.weak (fun _ _ => trivial)
    refine wp_skip ?_
    refine th_n (hK9 _ _ ?_)
    clear hK9 K9
    refine wp_seq_k fun K12 hK12 => ?_
    refine D_cut (fun a' w' => ∃ (b900 : Nat) (AM : Option Addr) (cM : Nat) (L : List Value), a' = ⟨L.toArray, []⟩ ∧ L.length = 54 ∧ L[3]? = some (.pointer (some ⟨b2, 0, none⟩)) ∧ L[4]? = some (.bool (lazB h ms xL)) ∧ L[5]? = some (.pointer (some ⟨b900, 0, none⟩)) ∧ Mod (No) w5 w' ∧ (Blk w' b900 42 [.slice AD h.cells.length cD, .slice BD h.roots.length dD, .slice AM (ms.length + 1) cM, .int .i64 xL].toArray) ∧ (R1 (fun i => i < w'.heap.size) w' AM (bools (ms ++ [true])))) ?_ ?_
    · -- cut
     refine D_start 13 54 (fun w => Mod (No) w) follows rfl rfl ?_  -- d1 r9
     intro w7 g7
     replace hA := hA.grow g7
     replace hDA := hDA.grow g7
     replace hDB := hDB.grow g7
     replace hDM := hDM.grow g7
     replace G := G.grow g7
     replace B2 := B2.grow g7
     have zg7 := g7.size
     have GS7 := Mod.refl (No) w7
     have B2d7 := B2
     refine Dq (i := 0) rfl GS7 (fun _ _ => Y_field Try.underlying42 rfl fz42_0 (by decide) rfl) ?_
     refine Dq (i := 1) rfl GS7 (fun _ hs => Y_loadS Try.underlying26 rfl sz26 rfl (by first | exact hs.cells0 ((CellsAt.of_blk (pre := []) (us := [_, _]) (post := [_, _]) B2 rfl)))) ?_
     refine Dq (i := 3) rfl GS7 (fun _ _ => Y_field Try.underlying42 rfl fz42_1 (by decide) rfl) ?_
     refine Dq (i := 4) rfl GS7 (fun _ hs => Y_load Try.underlying40 rfl rfl (hs.cell0 (B2.at (by rfl)))) ?_
     refine Dq (i := 8) rfl GS7 (fun _ _ => Y_field Try.underlying42 rfl fz42_2 (by decide) rfl) ?_
     refine Dq (i := 9) rfl GS7 (fun _ hs => Y_load Try.underlying3 rfl rfl (hs.cell0 (B2.at (by rfl)))) ?_
     refine D_3 (i := 2) (j := 6) (k := 11) (by kernel_rfl) ?_ ?_ ?_
     · -- operation 2 comes up
      refine E_bs0 (i := 2) rfl Try.underlying40 sz4 ?_
      intro b9 w9 fb9 g9 B9
      refine ⟨GS7.grow g9, ?_⟩
      have lb9 := B9.lt
      replace hA := hA.grow g9
      replace hDA := hDA.grow g9
      replace hDB := hDB.grow g9
      replace hDM := hDM.grow g9
      replace G := G.grow g9
      replace GS7 := GS7.grow g9
      replace B2 := B2.grow g9
      have zg9 := g9.size
      refine D_3 (i := 5) (j := 6) (k := 11) (by kernel_rfl) ?_ ?_ ?_
      · -- operation 5 comes up
       obtain ⟨z1, hz1⟩ : ∃ x, x = w9.heap.size := ⟨_, rfl⟩
       have O1 : OW (fun i => i = b9) w9 4 1 (some ⟨b9, 0, none⟩) 0 0 [] := OW.of_blk B9 rfl (by decide) rfl
       refine E_app0 (i := 5) rfl (news := bools ms) Try.underlying40 zr4 sz4 by4 rfl rfl O1 (by rw [bools_len]; omega) (by have hsr := Src.r1 hDM; rw [bools_len] at hsr; exact hsr) bools_one (by omega) (Pr' := fun i => i = b9 ∨ z1 ≤ i) (fun i hi => .inl hi) (by first | omega | (dsimp only; omega)) ?_
       intro A10 cap10 w10 X10 m10
       replace G := G.abv m10
       replace GS7 := GS7.abv m10
       replace hA := hA0.grow G
       replace hDA := hDA.md m10
       replace hDB := hDB.md m10
       replace hDM := hDM.md m10
       replace B2 := B2.md m10
       have zm10 := m10.size
       obtain ⟨z2, hz2⟩ : ∃ x, x = w10.heap.size := ⟨_, rfl⟩
       have O2 : OW (fun i => (i = b9 ∨ z1 ≤ i) ∧ i < z2) w10 4 1 A10 ms.length cap10 (bools ms) := by rw [hz2]; exact X10.lt
       clear O1 X10
       refine ⟨GS7, ?_⟩
       refine D_2 (i := 6) (j := 11) (by kernel_rfl) ?_ ?_
       · -- operation 6 comes up
        refine E_bs1 (cs := [_]) (i := 6) rfl Try.underlying40 zr4 sz4 rfl rfl rfl ?_
        intro b11 w11 fb11 g11 B11
        refine ⟨GS7.grow g11, ?_⟩
        have lb11 := B11.lt
        replace hA := hA.grow g11
        replace hDA := hDA.grow g11
        replace hDB := hDB.grow g11
        replace hDM := hDM.grow g11
        replace O2 := O2.grow g11
        replace G := G.grow g11
        replace GS7 := GS7.grow g11
        replace B2 := B2.grow g11
        have zg11 := g11.size
        refine D_2 (i := 7) (j := 11) (by kernel_rfl) ?_ ?_
        · -- operation 7 comes up
         obtain ⟨z3, hz3⟩ : ∃ x, x = w11.heap.size := ⟨_, rfl⟩
         refine E_app (i := 7) rfl Try.underlying40 zr4 sz4 by4 rfl rfl O2 rfl (Src.blk B11) (by simp [Value.oneCell']) (by omega) (Pr' := fun i => ((i = b9 ∨ z1 ≤ i) ∧ i < z2) ∨ z3 ≤ i) (fun i hi => .inl hi) (by first | omega | (dsimp only; omega)) ?_
         intro A12 cap12 w12 X12 m12
         have O3 : OW (fun i => ((i = b9 ∨ z1 ≤ i) ∧ i < z2) ∨ z3 ≤ i) w12 4 1 A12 (ms.length + 1) cap12 (bools (ms ++ [true])) := by rw [← bools_app]; exact X12
         clear X12
         replace G := G.abv m12
         replace GS7 := GS7.abv m12
         replace hA := hA0.grow G
         replace hDA := hDA.md m12
         replace hDB := hDB.md m12
         replace hDM := hDM.md m12
         replace B2 := B2.md m12
         have zm12 := m12.size
         have hMA := O3.lt.r1
         obtain ⟨AM, rfl⟩ : ∃ x, x = A12 := ⟨_, rfl⟩
         obtain ⟨cM, rfl⟩ : ∃ x, x = cap12 := ⟨_, rfl⟩
         refine ⟨GS7, ?_⟩
         refine Dq (i := 10) rfl GS7 (fun _ _ => Y_build (cs := [_, _, _, _]) zr42 pc42 rfl rfl) ?_
         refine D_1 (i := 11) (by kernel_rfl) ?_
         refine E_alloc (cs := [_, _, _, _]) rfl zr42 rfl (fun b13 w13 fb13 g13 B13 => ⟨GS7.grow g13, ?_⟩)
         have lb13 := B13.lt
         replace hA := hA.grow g13
         replace hDA := hDA.grow g13
         replace hDB := hDB.grow g13
         replace hDM := hDM.grow g13
         replace hMA := hMA.grow g13
         replace G := G.grow g13
         replace GS7 := GS7.grow g13
         replace B2 := B2.grow g13
         have zg13 := g13.size
         refine D_1 (i := 12) (by kernel_rfl) ?_
         refine E_stM (pre := []) (old := [_, _, _, _]) (post := []) (vs := [_, _, _, _]) (i := 12) rfl sz42 rfl rfl rfl (by first | rfl | assumption) B13 rfl rfl ?_
         intro w14 m14 X14
         replace B13 := Blk.eq (ys := [_, _, _, _]) X14 rfl
         clear X14
         replace G := G.abv m14
         replace GS7 := GS7.abv m14
         replace hA := hA0.grow G
         replace hDA := hDA.md m14
         replace hDB := hDB.md m14
         replace hDM := hDM.md m14
         replace hMA := hMA.md m14
         replace B2 := B2.md m14
         have zm14 := m14.size
         refine ⟨GS7, ?_⟩
         refine D_en (by kernel_rfl) rfl rfl ?_
         exact ⟨rfl, _, _, _, _, rfl, rfl, rfl, rfl, rfl, g7.grow GS7, B13, hMA.below⟩
        · -- operation 11 comes up
         refine E_alloc (cs := [_, _, _, _]) rfl zr42 rfl (fun b15 w15 fb15 g15 B15 => ⟨GS7.grow g15, ?_⟩)
         have lb15 := B15.lt
         replace hA := hA.grow g15
         replace hDA := hDA.grow g15
         replace hDB := hDB.grow g15
         replace hDM := hDM.grow g15
         replace O2 := O2.grow g15
         replace G := G.grow g15
         replace GS7 := GS7.grow g15
         replace B2 := B2.grow g15
         replace B11 := B11.grow g15
         have zg15 := g15.size
         refine D_1 (i := 7) (by kernel_rfl) ?_
         obtain ⟨z3, hz3⟩ : ∃ x, x = w15.heap.size := ⟨_, rfl⟩
         refine E_app (i := 7) rfl Try.underlying40 zr4 sz4 by4 rfl rfl O2 rfl (Src.blk B11) (by simp [Value.oneCell']) (by omega) (Pr' := fun i => ((i = b9 ∨ z1 ≤ i) ∧ i < z2) ∨ z3 ≤ i) (fun i hi => .inl hi) (by first | omega | (dsimp only; omega)) ?_
         intro A16 cap16 w16 X16 m16
         have O3 : OW (fun i => ((i = b9 ∨ z1 ≤ i) ∧ i < z2) ∨ z3 ≤ i) w16 4 1 A16 (ms.length + 1) cap16 (bools (ms ++ [true])) := by rw [← bools_app]; exact X16
         clear X16
         replace G := G.abv m16
         replace GS7 := GS7.abv m16
         replace hA := hA0.grow G
         replace hDA := hDA.md m16
         replace hDB := hDB.md m16
         replace hDM := hDM.md m16
         replace B2 := B2.md m16
         replace B15 := B15.md m16
         have zm16 := m16.size
         have hMA := O3.lt.r1
         obtain ⟨AM, rfl⟩ : ∃ x, x = A16 := ⟨_, rfl⟩
         obtain ⟨cM, rfl⟩ : ∃ x, x = cap16 := ⟨_, rfl⟩
         refine ⟨GS7, ?_⟩
         refine Dq (i := 10) rfl GS7 (fun _ _ => Y_build (cs := [_, _, _, _]) zr42 pc42 rfl rfl) ?_
         refine D_1 (i := 12) (by kernel_rfl) ?_
         refine E_stM (pre := []) (old := [_, _, _, _]) (post := []) (vs := [_, _, _, _]) (i := 12) rfl sz42 rfl rfl rfl (by first | rfl | assumption) B15 rfl rfl ?_
         intro w17 m17 X17
         replace B15 := Blk.eq (ys := [_, _, _, _]) X17 rfl
         clear X17
         replace G := G.abv m17
         replace GS7 := GS7.abv m17
         replace hA := hA0.grow G
         replace hDA := hDA.md m17
         replace hDB := hDB.md m17
         replace hDM := hDM.md m17
         replace hMA := hMA.md m17
         replace B2 := B2.md m17
         have zm17 := m17.size
         refine ⟨GS7, ?_⟩
         refine D_en (by kernel_rfl) rfl rfl ?_
         exact ⟨rfl, _, _, _, _, rfl, rfl, rfl, rfl, rfl, g7.grow GS7, B15, hMA.below⟩
       · -- operation 11 comes up
        refine E_alloc (cs := [_, _, _, _]) rfl zr42 rfl (fun b18 w18 fb18 g18 B18 => ⟨GS7.grow g18, ?_⟩)
        have lb18 := B18.lt
        replace hA := hA.grow g18
        replace hDA := hDA.grow g18
        replace hDB := hDB.grow g18
        replace hDM := hDM.grow g18
        replace O2 := O2.grow g18
        replace G := G.grow g18
        replace GS7 := GS7.grow g18
        replace B2 := B2.grow g18
        have zg18 := g18.size
        refine D_1 (i := 6) (by kernel_rfl) ?_
        refine E_bs1 (cs := [_]) (i := 6) rfl Try.underlying40 zr4 sz4 rfl rfl rfl ?_
        intro b19 w19 fb19 g19 B19
        refine ⟨GS7.grow g19, ?_⟩
        have lb19 := B19.lt
        replace hA := hA.grow g19
        replace hDA := hDA.grow g19
        replace hDB := hDB.grow g19
        replace hDM := hDM.grow g19
        replace O2 := O2.grow g19
        replace G := G.grow g19
        replace GS7 := GS7.grow g19
        replace B2 := B2.grow g19
        replace B18 := B18.grow g19
        have zg19 := g19.size
        refine D_1 (i := 7) (by kernel_rfl) ?_
        obtain ⟨z3, hz3⟩ : ∃ x, x = w19.heap.size := ⟨_, rfl⟩
        refine E_app (i := 7) rfl Try.underlying40 zr4 sz4 by4 rfl rfl O2 rfl (Src.blk B19) (by simp [Value.oneCell']) (by omega) (Pr' := fun i => ((i = b9 ∨ z1 ≤ i) ∧ i < z2) ∨ z3 ≤ i) (fun i hi => .inl hi) (by first | omega | (dsimp only; omega)) ?_
        intro A20 cap20 w20 X20 m20
        have O3 : OW (fun i => ((i = b9 ∨ z1 ≤ i) ∧ i < z2) ∨ z3 ≤ i) w20 4 1 A20 (ms.length + 1) cap20 (bools (ms ++ [true])) := by rw [← bools_app]; exact X20
        clear X20
        replace G := G.abv m20
        replace GS7 := GS7.abv m20
        replace hA := hA0.grow G
        replace hDA := hDA.md m20
        replace hDB := hDB.md m20
        replace hDM := hDM.md m20
        replace B2 := B2.md m20
        replace B18 := B18.md m20
        have zm20 := m20.size
        have hMA := O3.lt.r1
        obtain ⟨AM, rfl⟩ : ∃ x, x = A20 := ⟨_, rfl⟩
        obtain ⟨cM, rfl⟩ : ∃ x, x = cap20 := ⟨_, rfl⟩
        refine ⟨GS7, ?_⟩
        refine Dq (i := 10) rfl GS7 (fun _ _ => Y_build (cs := [_, _, _, _]) zr42 pc42 rfl rfl) ?_
        refine D_1 (i := 12) (by kernel_rfl) ?_
        refine E_stM (pre := []) (old := [_, _, _, _]) (post := []) (vs := [_, _, _, _]) (i := 12) rfl sz42 rfl rfl rfl (by first | rfl | assumption) B18 rfl rfl ?_
        intro w21 m21 X21
        replace B18 := Blk.eq (ys := [_, _, _, _]) X21 rfl
        clear X21
        replace G := G.abv m21
        replace GS7 := GS7.abv m21
        replace hA := hA0.grow G
        replace hDA := hDA.md m21
        replace hDB := hDB.md m21
        replace hDM := hDM.md m21
        replace hMA := hMA.md m21
        replace B2 := B2.md m21
        have zm21 := m21.size
        refine ⟨GS7, ?_⟩
        refine D_en (by kernel_rfl) rfl rfl ?_
        exact ⟨rfl, _, _, _, _, rfl, rfl, rfl, rfl, rfl, g7.grow GS7, B18, hMA.below⟩
      · -- operation 6 comes up
       refine E_bs1 (cs := [_]) (i := 6) rfl Try.underlying40 zr4 sz4 rfl rfl rfl ?_
       intro b22 w22 fb22 g22 B22
       refine ⟨GS7.grow g22, ?_⟩
       have lb22 := B22.lt
       replace hA := hA.grow g22
       replace hDA := hDA.grow g22
       replace hDB := hDB.grow g22
       replace hDM := hDM.grow g22
       replace G := G.grow g22
       replace GS7 := GS7.grow g22
       replace B2 := B2.grow g22
       replace B9 := B9.grow g22
       have zg22 := g22.size
       refine D_2 (i := 5) (j := 11) (by kernel_rfl) ?_ ?_
       · -- operation 5 comes up
        obtain ⟨z1, hz1⟩ : ∃ x, x = w22.heap.size := ⟨_, rfl⟩
        have O1 : OW (fun i => i = b9) w22 4 1 (some ⟨b9, 0, none⟩) 0 0 [] := OW.of_blk B9 rfl (by decide) rfl
        refine E_app0 (i := 5) rfl (news := bools ms) Try.underlying40 zr4 sz4 by4 rfl rfl O1 (by rw [bools_len]; omega) (by have hsr := Src.r1 hDM; rw [bools_len] at hsr; exact hsr) bools_one (by omega) (Pr' := fun i => i = b9 ∨ z1 ≤ i) (fun i hi => .inl hi) (by first | omega | (dsimp only; omega)) ?_
        intro A23 cap23 w23 X23 m23
        replace G := G.abv m23
        replace GS7 := GS7.abv m23
        replace hA := hA0.grow G
        replace hDA := hDA.md m23
        replace hDB := hDB.md m23
        replace hDM := hDM.md m23
        replace B2 := B2.md m23
        replace B22 := B22.md m23
        have zm23 := m23.size
        obtain ⟨z2, hz2⟩ : ∃ x, x = w23.heap.size := ⟨_, rfl⟩
        have O2 : OW (fun i => (i = b9 ∨ z1 ≤ i) ∧ i < z2) w23 4 1 A23 ms.length cap23 (bools ms) := by rw [hz2]; exact X23.lt
        clear O1 X23
        refine ⟨GS7, ?_⟩
        refine D_2 (i := 7) (j := 11) (by kernel_rfl) ?_ ?_
        · -- operation 7 comes up
         obtain ⟨z3, hz3⟩ : ∃ x, x = w23.heap.size := ⟨_, rfl⟩
         refine E_app (i := 7) rfl Try.underlying40 zr4 sz4 by4 rfl rfl O2 rfl (Src.blk B22) (by simp [Value.oneCell']) (by omega) (Pr' := fun i => ((i = b9 ∨ z1 ≤ i) ∧ i < z2) ∨ z3 ≤ i) (fun i hi => .inl hi) (by first | omega | (dsimp only; omega)) ?_
         intro A24 cap24 w24 X24 m24
         have O3 : OW (fun i => ((i = b9 ∨ z1 ≤ i) ∧ i < z2) ∨ z3 ≤ i) w24 4 1 A24 (ms.length + 1) cap24 (bools (ms ++ [true])) := by rw [← bools_app]; exact X24
         clear X24
         replace G := G.abv m24
         replace GS7 := GS7.abv m24
         replace hA := hA0.grow G
         replace hDA := hDA.md m24
         replace hDB := hDB.md m24
         replace hDM := hDM.md m24
         replace B2 := B2.md m24
         have zm24 := m24.size
         have hMA := O3.lt.r1
         obtain ⟨AM, rfl⟩ : ∃ x, x = A24 := ⟨_, rfl⟩
         obtain ⟨cM, rfl⟩ : ∃ x, x = cap24 := ⟨_, rfl⟩
         refine ⟨GS7, ?_⟩
         refine Dq (i := 10) rfl GS7 (fun _ _ => Y_build (cs := [_, _, _, _]) zr42 pc42 rfl rfl) ?_
         refine D_1 (i := 11) (by kernel_rfl) ?_
         refine E_alloc (cs := [_, _, _, _]) rfl zr42 rfl (fun b25 w25 fb25 g25 B25 => ⟨GS7.grow g25, ?_⟩)
         have lb25 := B25.lt
         replace hA := hA.grow g25
         replace hDA := hDA.grow g25
         replace hDB := hDB.grow g25
         replace hDM := hDM.grow g25
         replace hMA := hMA.grow g25
         replace G := G.grow g25
         replace GS7 := GS7.grow g25
         replace B2 := B2.grow g25
         have zg25 := g25.size
         refine D_1 (i := 12) (by kernel_rfl) ?_
         refine E_stM (pre := []) (old := [_, _, _, _]) (post := []) (vs := [_, _, _, _]) (i := 12) rfl sz42 rfl rfl rfl (by first | rfl | assumption) B25 rfl rfl ?_
         intro w26 m26 X26
         replace B25 := Blk.eq (ys := [_, _, _, _]) X26 rfl
         clear X26
         replace G := G.abv m26
         replace GS7 := GS7.abv m26
         replace hA := hA0.grow G
         replace hDA := hDA.md m26
         replace hDB := hDB.md m26
         replace hDM := hDM.md m26
         replace hMA := hMA.md m26
         replace B2 := B2.md m26
         have zm26 := m26.size
         refine ⟨GS7, ?_⟩
         refine D_en (by kernel_rfl) rfl rfl ?_
         exact ⟨rfl, _, _, _, _, rfl, rfl, rfl, rfl, rfl, g7.grow GS7, B25, hMA.below⟩
        · -- operation 11 comes up
         refine E_alloc (cs := [_, _, _, _]) rfl zr42 rfl (fun b27 w27 fb27 g27 B27 => ⟨GS7.grow g27, ?_⟩)
         have lb27 := B27.lt
         replace hA := hA.grow g27
         replace hDA := hDA.grow g27
         replace hDB := hDB.grow g27
         replace hDM := hDM.grow g27
         replace O2 := O2.grow g27
         replace G := G.grow g27
         replace GS7 := GS7.grow g27
         replace B2 := B2.grow g27
         replace B22 := B22.grow g27
         have zg27 := g27.size
         refine D_1 (i := 7) (by kernel_rfl) ?_
         obtain ⟨z3, hz3⟩ : ∃ x, x = w27.heap.size := ⟨_, rfl⟩
         refine E_app (i := 7) rfl Try.underlying40 zr4 sz4 by4 rfl rfl O2 rfl (Src.blk B22) (by simp [Value.oneCell']) (by omega) (Pr' := fun i => ((i = b9 ∨ z1 ≤ i) ∧ i < z2) ∨ z3 ≤ i) (fun i hi => .inl hi) (by first | omega | (dsimp only; omega)) ?_
         intro A28 cap28 w28 X28 m28
         have O3 : OW (fun i => ((i = b9 ∨ z1 ≤ i) ∧ i < z2) ∨ z3 ≤ i) w28 4 1 A28 (ms.length + 1) cap28 (bools (ms ++ [true])) := by rw [← bools_app]; exact X28
         clear X28
         replace G := G.abv m28
         replace GS7 := GS7.abv m28
         replace hA := hA0.grow G
         replace hDA := hDA.md m28
         replace hDB := hDB.md m28
         replace hDM := hDM.md m28
         replace B2 := B2.md m28
         replace B27 := B27.md m28
         have zm28 := m28.size
         have hMA := O3.lt.r1
         obtain ⟨AM, rfl⟩ : ∃ x, x = A28 := ⟨_, rfl⟩
         obtain ⟨cM, rfl⟩ : ∃ x, x = cap28 := ⟨_, rfl⟩
         refine ⟨GS7, ?_⟩
         refine Dq (i := 10) rfl GS7 (fun _ _ => Y_build (cs := [_, _, _, _]) zr42 pc42 rfl rfl) ?_
         refine D_1 (i := 12) (by kernel_rfl) ?_
         refine E_stM (pre := []) (old := [_, _, _, _]) (post := []) (vs := [_, _, _, _]) (i := 12) rfl sz42 rfl rfl rfl (by first | rfl | assumption) B27 rfl rfl ?_
         intro w29 m29 X29
         replace B27 := Blk.eq (ys := [_, _, _, _]) X29 rfl
         clear X29
         replace G := G.abv m29
         replace GS7 := GS7.abv m29
         replace hA := hA0.grow G
         replace hDA := hDA.md m29
         replace hDB := hDB.md m29
         replace hDM := hDM.md m29
         replace hMA := hMA.md m29
         replace B2 := B2.md m29
         have zm29 := m29.size
         refine ⟨GS7, ?_⟩
         refine D_en (by kernel_rfl) rfl rfl ?_
         exact ⟨rfl, _, _, _, _, rfl, rfl, rfl, rfl, rfl, g7.grow GS7, B27, hMA.below⟩
       · -- operation 11 comes up
        refine E_alloc (cs := [_, _, _, _]) rfl zr42 rfl (fun b30 w30 fb30 g30 B30 => ⟨GS7.grow g30, ?_⟩)
        have lb30 := B30.lt
        replace hA := hA.grow g30
        replace hDA := hDA.grow g30
        replace hDB := hDB.grow g30
        replace hDM := hDM.grow g30
        replace G := G.grow g30
        replace GS7 := GS7.grow g30
        replace B2 := B2.grow g30
        replace B9 := B9.grow g30
        replace B22 := B22.grow g30
        have zg30 := g30.size
        refine D_1 (i := 5) (by kernel_rfl) ?_
        obtain ⟨z1, hz1⟩ : ∃ x, x = w30.heap.size := ⟨_, rfl⟩
        have O1 : OW (fun i => i = b9) w30 4 1 (some ⟨b9, 0, none⟩) 0 0 [] := OW.of_blk B9 rfl (by decide) rfl
        refine E_app0 (i := 5) rfl (news := bools ms) Try.underlying40 zr4 sz4 by4 rfl rfl O1 (by rw [bools_len]; omega) (by have hsr := Src.r1 hDM; rw [bools_len] at hsr; exact hsr) bools_one (by omega) (Pr' := fun i => i = b9 ∨ z1 ≤ i) (fun i hi => .inl hi) (by first | omega | (dsimp only; omega)) ?_
        intro A31 cap31 w31 X31 m31
        replace G := G.abv m31
        replace GS7 := GS7.abv m31
        replace hA := hA0.grow G
        replace hDA := hDA.md m31
        replace hDB := hDB.md m31
        replace hDM := hDM.md m31
        replace B2 := B2.md m31
        replace B22 := B22.md m31
        replace B30 := B30.md m31
        have zm31 := m31.size
        obtain ⟨z2, hz2⟩ : ∃ x, x = w31.heap.size := ⟨_, rfl⟩
        have O2 : OW (fun i => (i = b9 ∨ z1 ≤ i) ∧ i < z2) w31 4 1 A31 ms.length cap31 (bools ms) := by rw [hz2]; exact X31.lt
        clear O1 X31
        refine ⟨GS7, ?_⟩
        refine D_1 (i := 7) (by kernel_rfl) ?_
        obtain ⟨z3, hz3⟩ : ∃ x, x = w31.heap.size := ⟨_, rfl⟩
        refine E_app (i := 7) rfl Try.underlying40 zr4 sz4 by4 rfl rfl O2 rfl (Src.blk B22) (by simp [Value.oneCell']) (by omega) (Pr' := fun i => ((i = b9 ∨ z1 ≤ i) ∧ i < z2) ∨ z3 ≤ i) (fun i hi => .inl hi) (by first | omega | (dsimp only; omega)) ?_
        intro A32 cap32 w32 X32 m32
        have O3 : OW (fun i => ((i = b9 ∨ z1 ≤ i) ∧ i < z2) ∨ z3 ≤ i) w32 4 1 A32 (ms.length + 1) cap32 (bools (ms ++ [true])) := by rw [← bools_app]; exact X32
        clear X32
        replace G := G.abv m32
        replace GS7 := GS7.abv m32
        replace hA := hA0.grow G
        replace hDA := hDA.md m32
        replace hDB := hDB.md m32
        replace hDM := hDM.md m32
        replace B2 := B2.md m32
        replace B30 := B30.md m32
        have zm32 := m32.size
        have hMA := O3.lt.r1
        obtain ⟨AM, rfl⟩ : ∃ x, x = A32 := ⟨_, rfl⟩
        obtain ⟨cM, rfl⟩ : ∃ x, x = cap32 := ⟨_, rfl⟩
        refine ⟨GS7, ?_⟩
        refine Dq (i := 10) rfl GS7 (fun _ _ => Y_build (cs := [_, _, _, _]) zr42 pc42 rfl rfl) ?_
        refine D_1 (i := 12) (by kernel_rfl) ?_
        refine E_stM (pre := []) (old := [_, _, _, _]) (post := []) (vs := [_, _, _, _]) (i := 12) rfl sz42 rfl rfl rfl (by first | rfl | assumption) B30 rfl rfl ?_
        intro w33 m33 X33
        replace B30 := Blk.eq (ys := [_, _, _, _]) X33 rfl
        clear X33
        replace G := G.abv m33
        replace GS7 := GS7.abv m33
        replace hA := hA0.grow G
        replace hDA := hDA.md m33
        replace hDB := hDB.md m33
        replace hDM := hDM.md m33
        replace hMA := hMA.md m33
        replace B2 := B2.md m33
        have zm33 := m33.size
        refine ⟨GS7, ?_⟩
        refine D_en (by kernel_rfl) rfl rfl ?_
        exact ⟨rfl, _, _, _, _, rfl, rfl, rfl, rfl, rfl, g7.grow GS7, B30, hMA.below⟩
      · -- operation 11 comes up
       refine E_alloc (cs := [_, _, _, _]) rfl zr42 rfl (fun b34 w34 fb34 g34 B34 => ⟨GS7.grow g34, ?_⟩)
       have lb34 := B34.lt
       replace hA := hA.grow g34
       replace hDA := hDA.grow g34
       replace hDB := hDB.grow g34
       replace hDM := hDM.grow g34
       replace G := G.grow g34
       replace GS7 := GS7.grow g34
       replace B2 := B2.grow g34
       replace B9 := B9.grow g34
       have zg34 := g34.size
       refine D_2 (i := 5) (j := 6) (by kernel_rfl) ?_ ?_
       · -- operation 5 comes up
        obtain ⟨z1, hz1⟩ : ∃ x, x = w34.heap.size := ⟨_, rfl⟩
        have O1 : OW (fun i => i = b9) w34 4 1 (some ⟨b9, 0, none⟩) 0 0 [] := OW.of_blk B9 rfl (by decide) rfl
        refine E_app0 (i := 5) rfl (news := bools ms) Try.underlying40 zr4 sz4 by4 rfl rfl O1 (by rw [bools_len]; omega) (by have hsr := Src.r1 hDM; rw [bools_len] at hsr; exact hsr) bools_one (by omega) (Pr' := fun i => i = b9 ∨ z1 ≤ i) (fun i hi => .inl hi) (by first | omega | (dsimp only; omega)) ?_
        intro A35 cap35 w35 X35 m35
        replace G := G.abv m35
        replace GS7 := GS7.abv m35
        replace hA := hA0.grow G
        replace hDA := hDA.md m35
        replace hDB := hDB.md m35
        replace hDM := hDM.md m35
        replace B2 := B2.md m35
        replace B34 := B34.md m35
        have zm35 := m35.size
        obtain ⟨z2, hz2⟩ : ∃ x, x = w35.heap.size := ⟨_, rfl⟩
        have O2 : OW (fun i => (i = b9 ∨ z1 ≤ i) ∧ i < z2) w35 4 1 A35 ms.length cap35 (bools ms) := by rw [hz2]; exact X35.lt
        clear O1 X35
        refine ⟨GS7, ?_⟩
        refine D_1 (i := 6) (by kernel_rfl) ?_
        refine E_bs1 (cs := [_]) (i := 6) rfl Try.underlying40 zr4 sz4 rfl rfl rfl ?_
        intro b36 w36 fb36 g36 B36
        refine ⟨GS7.grow g36, ?_⟩
        have lb36 := B36.lt
        replace hA := hA.grow g36
        replace hDA := hDA.grow g36
        replace hDB := hDB.grow g36
        replace hDM := hDM.grow g36
        replace O2 := O2.grow g36
        replace G := G.grow g36
        replace GS7 := GS7.grow g36
        replace B2 := B2.grow g36
        replace B34 := B34.grow g36
        have zg36 := g36.size
        refine D_1 (i := 7) (by kernel_rfl) ?_
        obtain ⟨z3, hz3⟩ : ∃ x, x = w36.heap.size := ⟨_, rfl⟩
        refine E_app (i := 7) rfl Try.underlying40 zr4 sz4 by4 rfl rfl O2 rfl (Src.blk B36) (by simp [Value.oneCell']) (by omega) (Pr' := fun i => ((i = b9 ∨ z1 ≤ i) ∧ i < z2) ∨ z3 ≤ i) (fun i hi => .inl hi) (by first | omega | (dsimp only; omega)) ?_
        intro A37 cap37 w37 X37 m37
        have O3 : OW (fun i => ((i = b9 ∨ z1 ≤ i) ∧ i < z2) ∨ z3 ≤ i) w37 4 1 A37 (ms.length + 1) cap37 (bools (ms ++ [true])) := by rw [← bools_app]; exact X37
        clear X37
        replace G := G.abv m37
        replace GS7 := GS7.abv m37
        replace hA := hA0.grow G
        replace hDA := hDA.md m37
        replace hDB := hDB.md m37
        replace hDM := hDM.md m37
        replace B2 := B2.md m37
        replace B34 := B34.md m37
        have zm37 := m37.size
        have hMA := O3.lt.r1
        obtain ⟨AM, rfl⟩ : ∃ x, x = A37 := ⟨_, rfl⟩
        obtain ⟨cM, rfl⟩ : ∃ x, x = cap37 := ⟨_, rfl⟩
        refine ⟨GS7, ?_⟩
        refine Dq (i := 10) rfl GS7 (fun _ _ => Y_build (cs := [_, _, _, _]) zr42 pc42 rfl rfl) ?_
        refine D_1 (i := 12) (by kernel_rfl) ?_
        refine E_stM (pre := []) (old := [_, _, _, _]) (post := []) (vs := [_, _, _, _]) (i := 12) rfl sz42 rfl rfl rfl (by first | rfl | assumption) B34 rfl rfl ?_
        intro w38 m38 X38
        replace B34 := Blk.eq (ys := [_, _, _, _]) X38 rfl
        clear X38
        replace G := G.abv m38
        replace GS7 := GS7.abv m38
        replace hA := hA0.grow G
        replace hDA := hDA.md m38
        replace hDB := hDB.md m38
        replace hDM := hDM.md m38
        replace hMA := hMA.md m38
        replace B2 := B2.md m38
        have zm38 := m38.size
        refine ⟨GS7, ?_⟩
        refine D_en (by kernel_rfl) rfl rfl ?_
        exact ⟨rfl, _, _, _, _, rfl, rfl, rfl, rfl, rfl, g7.grow GS7, B34, hMA.below⟩
       · -- operation 6 comes up
        refine E_bs1 (cs := [_]) (i := 6) rfl Try.underlying40 zr4 sz4 rfl rfl rfl ?_
        intro b39 w39 fb39 g39 B39
        refine ⟨GS7.grow g39, ?_⟩
        have lb39 := B39.lt
        replace hA := hA.grow g39
        replace hDA := hDA.grow g39
        replace hDB := hDB.grow g39
        replace hDM := hDM.grow g39
        replace G := G.grow g39
        replace GS7 := GS7.grow g39
        replace B2 := B2.grow g39
        replace B9 := B9.grow g39
        replace B34 := B34.grow g39
        have zg39 := g39.size
        refine D_1 (i := 5) (by kernel_rfl) ?_
        obtain ⟨z1, hz1⟩ : ∃ x, x = w39.heap.size := ⟨_, rfl⟩
        have O1 : OW (fun i => i = b9) w39 4 1 (some ⟨b9, 0, none⟩) 0 0 [] := OW.of_blk B9 rfl (by decide) rfl
        refine E_app0 (i := 5) rfl (news := bools ms) Try.underlying40 zr4 sz4 by4 rfl rfl O1 (by rw [bools_len]; omega) (by have hsr := Src.r1 hDM; rw [bools_len] at hsr; exact hsr) bools_one (by omega) (Pr' := fun i => i = b9 ∨ z1 ≤ i) (fun i hi => .inl hi) (by first | omega | (dsimp only; omega)) ?_
        intro A40 cap40 w40 X40 m40
        replace G := G.abv m40
        replace GS7 := GS7.abv m40
        replace hA := hA0.grow G
        replace hDA := hDA.md m40
        replace hDB := hDB.md m40
        replace hDM := hDM.md m40
        replace B2 := B2.md m40
        replace B34 := B34.md m40
        replace B39 := B39.md m40
        have zm40 := m40.size
        obtain ⟨z2, hz2⟩ : ∃ x, x = w40.heap.size := ⟨_, rfl⟩
        have O2 : OW (fun i => (i = b9 ∨ z1 ≤ i) ∧ i < z2) w40 4 1 A40 ms.length cap40 (bools ms) := by rw [hz2]; exact X40.lt
        clear O1 X40
        refine ⟨GS7, ?_⟩
        refine D_1 (i := 7) (by kernel_rfl) ?_
        obtain ⟨z3, hz3⟩ : ∃ x, x = w40.heap.size := ⟨_, rfl⟩
        refine E_app (i := 7) rfl Try.underlying40 zr4 sz4 by4 rfl rfl O2 rfl (Src.blk B39) (by simp [Value.oneCell']) (by omega) (Pr' := fun i => ((i = b9 ∨ z1 ≤ i) ∧ i < z2) ∨ z3 ≤ i) (fun i hi => .inl hi) (by first | omega | (dsimp only; omega)) ?_
        intro A41 cap41 w41 X41 m41
        have O3 : OW (fun i => ((i = b9 ∨ z1 ≤ i) ∧ i < z2) ∨ z3 ≤ i) w41 4 1 A41 (ms.length + 1) cap41 (bools (ms ++ [true])) := by rw [← bools_app]; exact X41
        clear X41
        replace G := G.abv m41
        replace GS7 := GS7.abv m41
        replace hA := hA0.grow G
        replace hDA := hDA.md m41
        replace hDB := hDB.md m41
        replace hDM := hDM.md m41
        replace B2 := B2.md m41
        replace B34 := B34.md m41
        have zm41 := m41.size
        have hMA := O3.lt.r1
        obtain ⟨AM, rfl⟩ : ∃ x, x = A41 := ⟨_, rfl⟩
        obtain ⟨cM, rfl⟩ : ∃ x, x = cap41 := ⟨_, rfl⟩
        refine ⟨GS7, ?_⟩
        refine Dq (i := 10) rfl GS7 (fun _ _ => Y_build (cs := [_, _, _, _]) zr42 pc42 rfl rfl) ?_
        refine D_1 (i := 12) (by kernel_rfl) ?_
        refine E_stM (pre := []) (old := [_, _, _, _]) (post := []) (vs := [_, _, _, _]) (i := 12) rfl sz42 rfl rfl rfl (by first | rfl | assumption) B34 rfl rfl ?_
        intro w42 m42 X42
        replace B34 := Blk.eq (ys := [_, _, _, _]) X42 rfl
        clear X42
        replace G := G.abv m42
        replace GS7 := GS7.abv m42
        replace hA := hA0.grow G
        replace hDA := hDA.md m42
        replace hDB := hDB.md m42
        replace hDM := hDM.md m42
        replace hMA := hMA.md m42
        replace B2 := B2.md m42
        have zm42 := m42.size
        refine ⟨GS7, ?_⟩
        refine D_en (by kernel_rfl) rfl rfl ?_
        exact ⟨rfl, _, _, _, _, rfl, rfl, rfl, rfl, rfl, g7.grow GS7, B34, hMA.below⟩
     · -- operation 6 comes up
      refine E_bs1 (cs := [_]) (i := 6) rfl Try.underlying40 zr4 sz4 rfl rfl rfl ?_
      intro b43 w43 fb43 g43 B43
      refine ⟨GS7.grow g43, ?_⟩
      have lb43 := B43.lt
      replace hA := hA.grow g43
      replace hDA := hDA.grow g43
      replace hDB := hDB.grow g43
      replace hDM := hDM.grow g43
      replace G := G.grow g43
      replace GS7 := GS7.grow g43
      replace B2 := B2.grow g43
      have zg43 := g43.size
      refine D_2 (i := 2) (j := 11) (by kernel_rfl) ?_ ?_
      · -- operation 2 comes up
       refine E_bs0 (i := 2) rfl Try.underlying40 sz4 ?_
       intro b44 w44 fb44 g44 B44
       refine ⟨GS7.grow g44, ?_⟩
       have lb44 := B44.lt
       replace hA := hA.grow g44
       replace hDA := hDA.grow g44
       replace hDB := hDB.grow g44
       replace hDM := hDM.grow g44
       replace G := G.grow g44
       replace GS7 := GS7.grow g44
       replace B2 := B2.grow g44
       replace B43 := B43.grow g44
       have zg44 := g44.size
       refine D_2 (i := 5) (j := 11) (by kernel_rfl) ?_ ?_
       · -- operation 5 comes up
        obtain ⟨z1, hz1⟩ : ∃ x, x = w44.heap.size := ⟨_, rfl⟩
        have O1 : OW (fun i => i = b44) w44 4 1 (some ⟨b44, 0, none⟩) 0 0 [] := OW.of_blk B44 rfl (by decide) rfl
        refine E_app0 (i := 5) rfl (news := bools ms) Try.underlying40 zr4 sz4 by4 rfl rfl O1 (by rw [bools_len]; omega) (by have hsr := Src.r1 hDM; rw [bools_len] at hsr; exact hsr) bools_one (by omega) (Pr' := fun i => i = b44 ∨ z1 ≤ i) (fun i hi => .inl hi) (by first | omega | (dsimp only; omega)) ?_
        intro A45 cap45 w45 X45 m45
        replace G := G.abv m45
        replace GS7 := GS7.abv m45
        replace hA := hA0.grow G
        replace hDA := hDA.md m45
        replace hDB := hDB.md m45
        replace hDM := hDM.md m45
        replace B2 := B2.md m45
        replace B43 := B43.md m45
        have zm45 := m45.size
        obtain ⟨z2, hz2⟩ : ∃ x, x = w45.heap.size := ⟨_, rfl⟩
        have O2 : OW (fun i => (i = b44 ∨ z1 ≤ i) ∧ i < z2) w45 4 1 A45 ms.length cap45 (bools ms) := by rw [hz2]; exact X45.lt
        clear O1 X45
        refine ⟨GS7, ?_⟩
        refine D_2 (i := 7) (j := 11) (by kernel_rfl) ?_ ?_
        · -- operation 7 comes up
         obtain ⟨z3, hz3⟩ : ∃ x, x = w45.heap.size := ⟨_, rfl⟩
         refine E_app (i := 7) rfl Try.underlying40 zr4 sz4 by4 rfl rfl O2 rfl (Src.blk B43) (by simp [Value.oneCell']) (by omega) (Pr' := fun i => ((i = b44 ∨ z1 ≤ i) ∧ i < z2) ∨ z3 ≤ i) (fun i hi => .inl hi) (by first | omega | (dsimp only; omega)) ?_
         intro A46 cap46 w46 X46 m46
         have O3 : OW (fun i => ((i = b44 ∨ z1 ≤ i) ∧ i < z2) ∨ z3 ≤ i) w46 4 1 A46 (ms.length + 1) cap46 (bools (ms ++ [true])) := by rw [← bools_app]; exact X46
         clear X46
         replace G := G.abv m46
         replace GS7 := GS7.abv m46
         replace hA := hA0.grow G
         replace hDA := hDA.md m46
         replace hDB := hDB.md m46
         replace hDM := hDM.md m46
         replace B2 := B2.md m46
         have zm46 := m46.size
         have hMA := O3.lt.r1
         obtain ⟨AM, rfl⟩ : ∃ x, x = A46 := ⟨_, rfl⟩
         obtain ⟨cM, rfl⟩ : ∃ x, x = cap46 := ⟨_, rfl⟩
         refine ⟨GS7, ?_⟩
         refine Dq (i := 10) rfl GS7 (fun _ _ => Y_build (cs := [_, _, _, _]) zr42 pc42 rfl rfl) ?_
         refine D_1 (i := 11) (by kernel_rfl) ?_
         refine E_alloc (cs := [_, _, _, _]) rfl zr42 rfl (fun b47 w47 fb47 g47 B47 => ⟨GS7.grow g47, ?_⟩)
         have lb47 := B47.lt
         replace hA := hA.grow g47
         replace hDA := hDA.grow g47
         replace hDB := hDB.grow g47
         replace hDM := hDM.grow g47
         replace hMA := hMA.grow g47
         replace G := G.grow g47
         replace GS7 := GS7.grow g47
         replace B2 := B2.grow g47
         have zg47 := g47.size
         refine D_1 (i := 12) (by kernel_rfl) ?_
         refine E_stM (pre := []) (old := [_, _, _, _]) (post := []) (vs := [_, _, _, _]) (i := 12) rfl sz42 rfl rfl rfl (by first | rfl | assumption) B47 rfl rfl ?_
         intro w48 m48 X48
         replace B47 := Blk.eq (ys := [_, _, _, _]) X48 rfl
         clear X48
         replace G := G.abv m48
         replace GS7 := GS7.abv m48
         replace hA := hA0.grow G
         replace hDA := hDA.md m48
         replace hDB := hDB.md m48
         replace hDM := hDM.md m48
         replace hMA := hMA.md m48
         replace B2 := B2.md m48
         have zm48 := m48.size
         refine ⟨GS7, ?_⟩
         refine D_en (by kernel_rfl) rfl rfl ?_
         exact ⟨rfl, _, _, _, _, rfl, rfl, rfl, rfl, rfl, g7.grow GS7, B47, hMA.below⟩
        · -- operation 11 comes up
         refine E_alloc (cs := [_, _, _, _]) rfl zr42 rfl (fun b49 w49 fb49 g49 B49 => ⟨GS7.grow g49, ?_⟩)
         have lb49 := B49.lt
         replace hA := hA.grow g49
         replace hDA := hDA.grow g49
         replace hDB := hDB.grow g49
         replace hDM := hDM.grow g49
         replace O2 := O2.grow g49
         replace G := G.grow g49
         replace GS7 := GS7.grow g49
         replace B2 := B2.grow g49
         replace B43 := B43.grow g49
         have zg49 := g49.size
         refine D_1 (i := 7) (by kernel_rfl) ?_
         obtain ⟨z3, hz3⟩ : ∃ x, x = w49.heap.size := ⟨_, rfl⟩
         refine E_app (i := 7) rfl Try.underlying40 zr4 sz4 by4 rfl rfl O2 rfl (Src.blk B43) (by simp [Value.oneCell']) (by omega) (Pr' := fun i => ((i = b44 ∨ z1 ≤ i) ∧ i < z2) ∨ z3 ≤ i) (fun i hi => .inl hi) (by first | omega | (dsimp only; omega)) ?_
         intro A50 cap50 w50 X50 m50
         have O3 : OW (fun i => ((i = b44 ∨ z1 ≤ i) ∧ i < z2) ∨ z3 ≤ i) w50 4 1 A50 (ms.length + 1) cap50 (bools (ms ++ [true])) := by rw [← bools_app]; exact X50
         clear X50
         replace G := G.abv m50
         replace GS7 := GS7.abv m50
         replace hA := hA0.grow G
         replace hDA := hDA.md m50
         replace hDB := hDB.md m50
         replace hDM := hDM.md m50
         replace B2 := B2.md m50
         replace B49 := B49.md m50
         have zm50 := m50.size
         have hMA := O3.lt.r1
         obtain ⟨AM, rfl⟩ : ∃ x, x = A50 := ⟨_, rfl⟩
         obtain ⟨cM, rfl⟩ : ∃ x, x = cap50 := ⟨_, rfl⟩
         refine ⟨GS7, ?_⟩
         refine Dq (i := 10) rfl GS7 (fun _ _ => Y_build (cs := [_, _, _, _]) zr42 pc42 rfl rfl) ?_
         refine D_1 (i := 12) (by kernel_rfl) ?_
         refine E_stM (pre := []) (old := [_, _, _, _]) (post := []) (vs := [_, _, _, _]) (i := 12) rfl sz42 rfl rfl rfl (by first | rfl | assumption) B49 rfl rfl ?_
         intro w51 m51 X51
         replace B49 := Blk.eq (ys := [_, _, _, _]) X51 rfl
         clear X51
         replace G := G.abv m51
         replace GS7 := GS7.abv m51
         replace hA := hA0.grow G
         replace hDA := hDA.md m51
         replace hDB := hDB.md m51
         replace hDM := hDM.md m51
         replace hMA := hMA.md m51
         replace B2 := B2.md m51
         have zm51 := m51.size
         refine ⟨GS7, ?_⟩
         refine D_en (by kernel_rfl) rfl rfl ?_
         exact ⟨rfl, _, _, _, _, rfl, rfl, rfl, rfl, rfl, g7.grow GS7, B49, hMA.below⟩
       · -- operation 11 comes up
        refine E_alloc (cs := [_, _, _, _]) rfl zr42 rfl (fun b52 w52 fb52 g52 B52 => ⟨GS7.grow g52, ?_⟩)
        have lb52 := B52.lt
        replace hA := hA.grow g52
        replace hDA := hDA.grow g52
        replace hDB := hDB.grow g52
        replace hDM := hDM.grow g52
        replace G := G.grow g52
        replace GS7 := GS7.grow g52
        replace B2 := B2.grow g52
        replace B43 := B43.grow g52
        replace B44 := B44.grow g52
        have zg52 := g52.size
        refine D_1 (i := 5) (by kernel_rfl) ?_
        obtain ⟨z1, hz1⟩ : ∃ x, x = w52.heap.size := ⟨_, rfl⟩
        have O1 : OW (fun i => i = b44) w52 4 1 (some ⟨b44, 0, none⟩) 0 0 [] := OW.of_blk B44 rfl (by decide) rfl
        refine E_app0 (i := 5) rfl (news := bools ms) Try.underlying40 zr4 sz4 by4 rfl rfl O1 (by rw [bools_len]; omega) (by have hsr := Src.r1 hDM; rw [bools_len] at hsr; exact hsr) bools_one (by omega) (Pr' := fun i => i = b44 ∨ z1 ≤ i) (fun i hi => .inl hi) (by first | omega | (dsimp only; omega)) ?_
        intro A53 cap53 w53 X53 m53
        replace G := G.abv m53
        replace GS7 := GS7.abv m53
        replace hA := hA0.grow G
        replace hDA := hDA.md m53
        replace hDB := hDB.md m53
        replace hDM := hDM.md m53
        replace B2 := B2.md m53
        replace B43 := B43.md m53
        replace B52 := B52.md m53
        have zm53 := m53.size
        obtain ⟨z2, hz2⟩ : ∃ x, x = w53.heap.size := ⟨_, rfl⟩
        have O2 : OW (fun i => (i = b44 ∨ z1 ≤ i) ∧ i < z2) w53 4 1 A53 ms.length cap53 (bools ms) := by rw [hz2]; exact X53.lt
        clear O1 X53
        refine ⟨GS7, ?_⟩
        refine D_1 (i := 7) (by kernel_rfl) ?_
        obtain ⟨z3, hz3⟩ : ∃ x, x = w53.heap.size := ⟨_, rfl⟩
        refine E_app (i := 7) rfl Try.underlying40 zr4 sz4 by4 rfl rfl O2 rfl (Src.blk B43) (by simp [Value.oneCell']) (by omega) (Pr' := fun i => ((i = b44 ∨ z1 ≤ i) ∧ i < z2) ∨ z3 ≤ i) (fun i hi => .inl hi) (by first | omega | (dsimp only; omega)) ?_
        intro A54 cap54 w54 X54 m54
        have O3 : OW (fun i => ((i = b44 ∨ z1 ≤ i) ∧ i < z2) ∨ z3 ≤ i) w54 4 1 A54 (ms.length + 1) cap54 (bools (ms ++ [true])) := by rw [← bools_app]; exact X54
        clear X54
        replace G := G.abv m54
        replace GS7 := GS7.abv m54
        replace hA := hA0.grow G
        replace hDA := hDA.md m54
        replace hDB := hDB.md m54
        replace hDM := hDM.md m54
        replace B2 := B2.md m54
        replace B52 := B52.md m54
        have zm54 := m54.size
        have hMA := O3.lt.r1
        obtain ⟨AM, rfl⟩ : ∃ x, x = A54 := ⟨_, rfl⟩
        obtain ⟨cM, rfl⟩ : ∃ x, x = cap54 := ⟨_, rfl⟩
        refine ⟨GS7, ?_⟩
        refine Dq (i := 10) rfl GS7 (fun _ _ => Y_build (cs := [_, _, _, _]) zr42 pc42 rfl rfl) ?_
        refine D_1 (i := 12) (by kernel_rfl) ?_
        refine E_stM (pre := []) (old := [_, _, _, _]) (post := []) (vs := [_, _, _, _]) (i := 12) rfl sz42 rfl rfl rfl (by first | rfl | assumption) B52 rfl rfl ?_
        intro w55 m55 X55
        replace B52 := Blk.eq (ys := [_, _, _, _]) X55 rfl
        clear X55
        replace G := G.abv m55
        replace GS7 := GS7.abv m55
        replace hA := hA0.grow G
        replace hDA := hDA.md m55
        replace hDB := hDB.md m55
        replace hDM := hDM.md m55
        replace hMA := hMA.md m55
        replace B2 := B2.md m55
        have zm55 := m55.size
        refine ⟨GS7, ?_⟩
        refine D_en (by kernel_rfl) rfl rfl ?_
        exact ⟨rfl, _, _, _, _, rfl, rfl, rfl, rfl, rfl, g7.grow GS7, B52, hMA.below⟩
      · -- operation 11 comes up
       refine E_alloc (cs := [_, _, _, _]) rfl zr42 rfl (fun b56 w56 fb56 g56 B56 => ⟨GS7.grow g56, ?_⟩)
       have lb56 := B56.lt
       replace hA := hA.grow g56
       replace hDA := hDA.grow g56
       replace hDB := hDB.grow g56
       replace hDM := hDM.grow g56
       replace G := G.grow g56
       replace GS7 := GS7.grow g56
       replace B2 := B2.grow g56
       replace B43 := B43.grow g56
       have zg56 := g56.size
       refine D_1 (i := 2) (by kernel_rfl) ?_
       refine E_bs0 (i := 2) rfl Try.underlying40 sz4 ?_
       intro b57 w57 fb57 g57 B57
       refine ⟨GS7.grow g57, ?_⟩
       have lb57 := B57.lt
       replace hA := hA.grow g57
       replace hDA := hDA.grow g57
       replace hDB := hDB.grow g57
       replace hDM := hDM.grow g57
       replace G := G.grow g57
       replace GS7 := GS7.grow g57
       replace B2 := B2.grow g57
       replace B43 := B43.grow g57
       replace B56 := B56.grow g57
       have zg57 := g57.size
       refine D_1 (i := 5) (by kernel_rfl) ?_
       obtain ⟨z1, hz1⟩ : ∃ x, x = w57.heap.size := ⟨_, rfl⟩
       have O1 : OW (fun i => i = b57) w57 4 1 (some ⟨b57, 0, none⟩) 0 0 [] := OW.of_blk B57 rfl (by decide) rfl
       refine E_app0 (i := 5) rfl (news := bools ms) Try.underlying40 zr4 sz4 by4 rfl rfl O1 (by rw [bools_len]; omega) (by have hsr := Src.r1 hDM; rw [bools_len] at hsr; exact hsr) bools_one (by omega) (Pr' := fun i => i = b57 ∨ z1 ≤ i) (fun i hi => .inl hi) (by first | omega | (dsimp only; omega)) ?_
       intro A58 cap58 w58 X58 m58
       replace G := G.abv m58
       replace GS7 := GS7.abv m58
       replace hA := hA0.grow G
       replace hDA := hDA.md m58
       replace hDB := hDB.md m58
       replace hDM := hDM.md m58
       replace B2 := B2.md m58
       replace B43 := B43.md m58
       replace B56 := B56.md m58
       have zm58 := m58.size
       obtain ⟨z2, hz2⟩ : ∃ x, x = w58.heap.size := ⟨_, rfl⟩
       have O2 : OW (fun i => (i = b57 ∨ z1 ≤ i) ∧ i < z2) w58 4 1 A58 ms.length cap58 (bools ms) := by rw [hz2]; exact X58.lt
       clear O1 X58
       refine ⟨GS7, ?_⟩
       refine D_1 (i := 7) (by kernel_rfl) ?_
       obtain ⟨z3, hz3⟩ : ∃ x, x = w58.heap.size := ⟨_, rfl⟩
       refine E_app (i := 7) rfl Try.underlying40 zr4 sz4 by4 rfl rfl O2 rfl (Src.blk B43) (by simp [Value.oneCell']) (by omega) (Pr' := fun i => ((i = b57 ∨ z1 ≤ i) ∧ i < z2) ∨ z3 ≤ i) (fun i hi => .inl hi) (by first | omega | (dsimp only; omega)) ?_
       intro A59 cap59 w59 X59 m59
       have O3 : OW (fun i => ((i = b57 ∨ z1 ≤ i) ∧ i < z2) ∨ z3 ≤ i) w59 4 1 A59 (ms.length + 1) cap59 (bools (ms ++ [true])) := by rw [← bools_app]; exact X59
       clear X59
       replace G := G.abv m59
       replace GS7 := GS7.abv m59
       replace hA := hA0.grow G
       replace hDA := hDA.md m59
       replace hDB := hDB.md m59
       replace hDM := hDM.md m59
       replace B2 := B2.md m59
       replace B56 := B56.md m59
       have zm59 := m59.size
       have hMA := O3.lt.r1
       obtain ⟨AM, rfl⟩ : ∃ x, x = A59 := ⟨_, rfl⟩
       obtain ⟨cM, rfl⟩ : ∃ x, x = cap59 := ⟨_, rfl⟩
       refine ⟨GS7, ?_⟩
       refine Dq (i := 10) rfl GS7 (fun _ _ => Y_build (cs := [_, _, _, _]) zr42 pc42 rfl rfl) ?_
       refine D_1 (i := 12) (by kernel_rfl) ?_
       refine E_stM (pre := []) (old := [_, _, _, _]) (post := []) (vs := [_, _, _, _]) (i := 12) rfl sz42 rfl rfl rfl (by first | rfl | assumption) B56 rfl rfl ?_
       intro w60 m60 X60
       replace B56 := Blk.eq (ys := [_, _, _, _]) X60 rfl
       clear X60
       replace G := G.abv m60
       replace GS7 := GS7.abv m60
       replace hA := hA0.grow G
       replace hDA := hDA.md m60
       replace hDB := hDB.md m60
       replace hDM := hDM.md m60
       replace hMA := hMA.md m60
       replace B2 := B2.md m60
       have zm60 := m60.size
       refine ⟨GS7, ?_⟩
       refine D_en (by kernel_rfl) rfl rfl ?_
       exact ⟨rfl, _, _, _, _, rfl, rfl, rfl, rfl, rfl, g7.grow GS7, B56, hMA.below⟩
     · -- operation 11 comes up
      refine E_alloc (cs := [_, _, _, _]) rfl zr42 rfl (fun b61 w61 fb61 g61 B61 => ⟨GS7.grow g61, ?_⟩)
      have lb61 := B61.lt
      replace hA := hA.grow g61
      replace hDA := hDA.grow g61
      replace hDB := hDB.grow g61
      replace hDM := hDM.grow g61
      replace G := G.grow g61
      replace GS7 := GS7.grow g61
      replace B2 := B2.grow g61
      have zg61 := g61.size
      refine D_2 (i := 2) (j := 6) (by kernel_rfl) ?_ ?_
      · -- operation 2 comes up
       refine E_bs0 (i := 2) rfl Try.underlying40 sz4 ?_
       intro b62 w62 fb62 g62 B62
       refine ⟨GS7.grow g62, ?_⟩
       have lb62 := B62.lt
       replace hA := hA.grow g62
       replace hDA := hDA.grow g62
       replace hDB := hDB.grow g62
       replace hDM := hDM.grow g62
       replace G := G.grow g62
       replace GS7 := GS7.grow g62
       replace B2 := B2.grow g62
       replace B61 := B61.grow g62
       have zg62 := g62.size
       refine D_2 (i := 5) (j := 6) (by kernel_rfl) ?_ ?_
       · -- operation 5 comes up
        obtain ⟨z1, hz1⟩ : ∃ x, x = w62.heap.size := ⟨_, rfl⟩
        have O1 : OW (fun i => i = b62) w62 4 1 (some ⟨b62, 0, none⟩) 0 0 [] := OW.of_blk B62 rfl (by decide) rfl
        refine E_app0 (i := 5) rfl (news := bools ms) Try.underlying40 zr4 sz4 by4 rfl rfl O1 (by rw [bools_len]; omega) (by have hsr := Src.r1 hDM; rw [bools_len] at hsr; exact hsr) bools_one (by omega) (Pr' := fun i => i = b62 ∨ z1 ≤ i) (fun i hi => .inl hi) (by first | omega | (dsimp only; omega)) ?_
        intro A63 cap63 w63 X63 m63
        replace G := G.abv m63
        replace GS7 := GS7.abv m63
        replace hA := hA0.grow G
        replace hDA := hDA.md m63
        replace hDB := hDB.md m63
        replace hDM := hDM.md m63
        replace B2 := B2.md m63
        replace B61 := B61.md m63
        have zm63 := m63.size
        obtain ⟨z2, hz2⟩ : ∃ x, x = w63.heap.size := ⟨_, rfl⟩
        have O2 : OW (fun i => (i = b62 ∨ z1 ≤ i) ∧ i < z2) w63 4 1 A63 ms.length cap63 (bools ms) := by rw [hz2]; exact X63.lt
        clear O1 X63
        refine ⟨GS7, ?_⟩
        refine D_1 (i := 6) (by kernel_rfl) ?_
        refine E_bs1 (cs := [_]) (i := 6) rfl Try.underlying40 zr4 sz4 rfl rfl rfl ?_
        intro b64 w64 fb64 g64 B64
        refine ⟨GS7.grow g64, ?_⟩
        have lb64 := B64.lt
        replace hA := hA.grow g64
        replace hDA := hDA.grow g64
        replace hDB := hDB.grow g64
        replace hDM := hDM.grow g64
        replace O2 := O2.grow g64
        replace G := G.grow g64
        replace GS7 := GS7.grow g64
        replace B2 := B2.grow g64
        replace B61 := B61.grow g64
        have zg64 := g64.size
        refine D_1 (i := 7) (by kernel_rfl) ?_
        obtain ⟨z3, hz3⟩ : ∃ x, x = w64.heap.size := ⟨_, rfl⟩
        refine E_app (i := 7) rfl Try.underlying40 zr4 sz4 by4 rfl rfl O2 rfl (Src.blk B64) (by simp [Value.oneCell']) (by omega) (Pr' := fun i => ((i = b62 ∨ z1 ≤ i) ∧ i < z2) ∨ z3 ≤ i) (fun i hi => .inl hi) (by first | omega | (dsimp only; omega)) ?_
        intro A65 cap65 w65 X65 m65
        have O3 : OW (fun i => ((i = b62 ∨ z1 ≤ i) ∧ i < z2) ∨ z3 ≤ i) w65 4 1 A65 (ms.length + 1) cap65 (bools (ms ++ [true])) := by rw [← bools_app]; exact X65
        clear X65
        replace G := G.abv m65
        replace GS7 := GS7.abv m65
        replace hA := hA0.grow G
        replace hDA := hDA.md m65
        replace hDB := hDB.md m65
        replace hDM := hDM.md m65
        replace B2 := B2.md m65
        replace B61 := B61.md m65
        have zm65 := m65.size
        have hMA := O3.lt.r1
        obtain ⟨AM, rfl⟩ : ∃ x, x = A65 := ⟨_, rfl⟩
        obtain ⟨cM, rfl⟩ : ∃ x, x = cap65 := ⟨_, rfl⟩
        refine ⟨GS7, ?_⟩
        refine Dq (i := 10) rfl GS7 (fun _ _ => Y_build (cs := [_, _, _, _]) zr42 pc42 rfl rfl) ?_
        refine D_1 (i := 12) (by kernel_rfl) ?_
        refine E_stM (pre := []) (old := [_, _, _, _]) (post := []) (vs := [_, _, _, _]) (i := 12) rfl sz42 rfl rfl rfl (by first | rfl | assumption) B61 rfl rfl ?_
        intro w66 m66 X66
        replace B61 := Blk.eq (ys := [_, _, _, _]) X66 rfl
        clear X66
        replace G := G.abv m66
        replace GS7 := GS7.abv m66
        replace hA := hA0.grow G
        replace hDA := hDA.md m66
        replace hDB := hDB.md m66
        replace hDM := hDM.md m66
        replace hMA := hMA.md m66
        replace B2 := B2.md m66
        have zm66 := m66.size
        refine ⟨GS7, ?_⟩
        refine D_en (by kernel_rfl) rfl rfl ?_
        exact ⟨rfl, _, _, _, _, rfl, rfl, rfl, rfl, rfl, g7.grow GS7, B61, hMA.below⟩
       · -- operation 6 comes up
        refine E_bs1 (cs := [_]) (i := 6) rfl Try.underlying40 zr4 sz4 rfl rfl rfl ?_
        intro b67 w67 fb67 g67 B67
        refine ⟨GS7.grow g67, ?_⟩
        have lb67 := B67.lt
        replace hA := hA.grow g67
        replace hDA := hDA.grow g67
        replace hDB := hDB.grow g67
        replace hDM := hDM.grow g67
        replace G := G.grow g67
        replace GS7 := GS7.grow g67
        replace B2 := B2.grow g67
        replace B61 := B61.grow g67
        replace B62 := B62.grow g67
        have zg67 := g67.size
        refine D_1 (i := 5) (by kernel_rfl) ?_
        obtain ⟨z1, hz1⟩ : ∃ x, x = w67.heap.size := ⟨_, rfl⟩
        have O1 : OW (fun i => i = b62) w67 4 1 (some ⟨b62, 0, none⟩) 0 0 [] := OW.of_blk B62 rfl (by decide) rfl
        refine E_app0 (i := 5) rfl (news := bools ms) Try.underlying40 zr4 sz4 by4 rfl rfl O1 (by rw [bools_len]; omega) (by have hsr := Src.r1 hDM; rw [bools_len] at hsr; exact hsr) bools_one (by omega) (Pr' := fun i => i = b62 ∨ z1 ≤ i) (fun i hi => .inl hi) (by first | omega | (dsimp only; omega)) ?_
        intro A68 cap68 w68 X68 m68
        replace G := G.abv m68
        replace GS7 := GS7.abv m68
        replace hA := hA0.grow G
        replace hDA := hDA.md m68
        replace hDB := hDB.md m68
        replace hDM := hDM.md m68
        replace B2 := B2.md m68
        replace B61 := B61.md m68
        replace B67 := B67.md m68
        have zm68 := m68.size
        obtain ⟨z2, hz2⟩ : ∃ x, x = w68.heap.size := ⟨_, rfl⟩
        have O2 : OW (fun i => (i = b62 ∨ z1 ≤ i) ∧ i < z2) w68 4 1 A68 ms.length cap68 (bools ms) := by rw [hz2]; exact X68.lt
        clear O1 X68
        refine ⟨GS7, ?_⟩
        refine D_1 (i := 7) (by kernel_rfl) ?_
        obtain ⟨z3, hz3⟩ : ∃ x, x = w68.heap.size := ⟨_, rfl⟩
        refine E_app (i := 7) rfl Try.underlying40 zr4 sz4 by4 rfl rfl O2 rfl (Src.blk B67) (by simp [Value.oneCell']) (by omega) (Pr' := fun i => ((i = b62 ∨ z1 ≤ i) ∧ i < z2) ∨ z3 ≤ i) (fun i hi => .inl hi) (by first | omega | (dsimp only; omega)) ?_
        intro A69 cap69 w69 X69 m69
        have O3 : OW (fun i => ((i = b62 ∨ z1 ≤ i) ∧ i < z2) ∨ z3 ≤ i) w69 4 1 A69 (ms.length + 1) cap69 (bools (ms ++ [true])) := by rw [← bools_app]; exact X69
        clear X69
        replace G := G.abv m69
        replace GS7 := GS7.abv m69
        replace hA := hA0.grow G
        replace hDA := hDA.md m69
        replace hDB := hDB.md m69
        replace hDM := hDM.md m69
        replace B2 := B2.md m69
        replace B61 := B61.md m69
        have zm69 := m69.size
        have hMA := O3.lt.r1
        obtain ⟨AM, rfl⟩ : ∃ x, x = A69 := ⟨_, rfl⟩
        obtain ⟨cM, rfl⟩ : ∃ x, x = cap69 := ⟨_, rfl⟩
        refine ⟨GS7, ?_⟩
        refine Dq (i := 10) rfl GS7 (fun _ _ => Y_build (cs := [_, _, _, _]) zr42 pc42 rfl rfl) ?_
        refine D_1 (i := 12) (by kernel_rfl) ?_
        refine E_stM (pre := []) (old := [_, _, _, _]) (post := []) (vs := [_, _, _, _]) (i := 12) rfl sz42 rfl rfl rfl (by first | rfl | assumption) B61 rfl rfl ?_
        intro w70 m70 X70
        replace B61 := Blk.eq (ys := [_, _, _, _]) X70 rfl
        clear X70
        replace G := G.abv m70
        replace GS7 := GS7.abv m70
        replace hA := hA0.grow G
        replace hDA := hDA.md m70
        replace hDB := hDB.md m70
        replace hDM := hDM.md m70
        replace hMA := hMA.md m70
        replace B2 := B2.md m70
        have zm70 := m70.size
        refine ⟨GS7, ?_⟩
        refine D_en (by kernel_rfl) rfl rfl ?_
        exact ⟨rfl, _, _, _, _, rfl, rfl, rfl, rfl, rfl, g7.grow GS7, B61, hMA.below⟩
      · -- operation 6 comes up
       refine E_bs1 (cs := [_]) (i := 6) rfl Try.underlying40 zr4 sz4 rfl rfl rfl ?_
       intro b71 w71 fb71 g71 B71
       refine ⟨GS7.grow g71, ?_⟩
       have lb71 := B71.lt
       replace hA := hA.grow g71
       replace hDA := hDA.grow g71
       replace hDB := hDB.grow g71
       replace hDM := hDM.grow g71
       replace G := G.grow g71
       replace GS7 := GS7.grow g71
       replace B2 := B2.grow g71
       replace B61 := B61.grow g71
       have zg71 := g71.size
       refine D_1 (i := 2) (by kernel_rfl) ?_
       refine E_bs0 (i := 2) rfl Try.underlying40 sz4 ?_
       intro b72 w72 fb72 g72 B72
       refine ⟨GS7.grow g72, ?_⟩
       have lb72 := B72.lt
       replace hA := hA.grow g72
       replace hDA := hDA.grow g72
       replace hDB := hDB.grow g72
       replace hDM := hDM.grow g72
       replace G := G.grow g72
       replace GS7 := GS7.grow g72
       replace B2 := B2.grow g72
       replace B61 := B61.grow g72
       replace B71 := B71.grow g72
       have zg72 := g72.size
       refine D_1 (i := 5) (by kernel_rfl) ?_
       obtain ⟨z1, hz1⟩ : ∃ x, x = w72.heap.size := ⟨_, rfl⟩
       have O1 : OW (fun i => i = b72) w72 4 1 (some ⟨b72, 0, none⟩) 0 0 [] := OW.of_blk B72 rfl (by decide) rfl
       refine E_app0 (i := 5) rfl (news := bools ms) Try.underlying40 zr4 sz4 by4 rfl rfl O1 (by rw [bools_len]; omega) (by have hsr := Src.r1 hDM; rw [bools_len] at hsr; exact hsr) bools_one (by omega) (Pr' := fun i => i = b72 ∨ z1 ≤ i) (fun i hi => .inl hi) (by first | omega | (dsimp only; omega)) ?_
       intro A73 cap73 w73 X73 m73
       replace G := G.abv m73
       replace GS7 := GS7.abv m73
       replace hA := hA0.grow G
       replace hDA := hDA.md m73
       replace hDB := hDB.md m73
       replace hDM := hDM.md m73
       replace B2 := B2.md m73
       replace B61 := B61.md m73
       replace B71 := B71.md m73
       have zm73 := m73.size
       obtain ⟨z2, hz2⟩ : ∃ x, x = w73.heap.size := ⟨_, rfl⟩
       have O2 : OW (fun i => (i = b72 ∨ z1 ≤ i) ∧ i < z2) w73 4 1 A73 ms.length cap73 (bools ms) := by rw [hz2]; exact X73.lt
       clear O1 X73
       refine ⟨GS7, ?_⟩
       refine D_1 (i := 7) (by kernel_rfl) ?_
       obtain ⟨z3, hz3⟩ : ∃ x, x = w73.heap.size := ⟨_, rfl⟩
       refine E_app (i := 7) rfl Try.underlying40 zr4 sz4 by4 rfl rfl O2 rfl (Src.blk B71) (by simp [Value.oneCell']) (by omega) (Pr' := fun i => ((i = b72 ∨ z1 ≤ i) ∧ i < z2) ∨ z3 ≤ i) (fun i hi => .inl hi) (by first | omega | (dsimp only; omega)) ?_
       intro A74 cap74 w74 X74 m74
       have O3 : OW (fun i => ((i = b72 ∨ z1 ≤ i) ∧ i < z2) ∨ z3 ≤ i) w74 4 1 A74 (ms.length + 1) cap74 (bools (ms ++ [true])) := by rw [← bools_app]; exact X74
       clear X74
       replace G := G.abv m74
       replace GS7 := GS7.abv m74
       replace hA := hA0.grow G
       replace hDA := hDA.md m74
       replace hDB := hDB.md m74
       replace hDM := hDM.md m74
       replace B2 := B2.md m74
       replace B61 := B61.md m74
       have zm74 := m74.size
       have hMA := O3.lt.r1
       obtain ⟨AM, rfl⟩ : ∃ x, x = A74 := ⟨_, rfl⟩
       obtain ⟨cM, rfl⟩ : ∃ x, x = cap74 := ⟨_, rfl⟩
       refine ⟨GS7, ?_⟩
       refine Dq (i := 10) rfl GS7 (fun _ _ => Y_build (cs := [_, _, _, _]) zr42 pc42 rfl rfl) ?_
       refine D_1 (i := 12) (by kernel_rfl) ?_
       refine E_stM (pre := []) (old := [_, _, _, _]) (post := []) (vs := [_, _, _, _]) (i := 12) rfl sz42 rfl rfl rfl (by first | rfl | assumption) B61 rfl rfl ?_
       intro w75 m75 X75
       replace B61 := Blk.eq (ys := [_, _, _, _]) X75 rfl
       clear X75
       replace G := G.abv m75
       replace GS7 := GS7.abv m75
       replace hA := hA0.grow G
       replace hDA := hDA.md m75
       replace hDB := hDB.md m75
       replace hDM := hDM.md m75
       replace hMA := hMA.md m75
       replace B2 := B2.md m75
       have zm75 := m75.size
       refine ⟨GS7, ?_⟩
       refine D_en (by kernel_rfl) rfl rfl ?_
       exact ⟨rfl, _, _, _, _, rfl, rfl, rfl, rfl, rfl, g7.grow GS7, B61, hMA.below⟩
    · -- behind the cut
     rintro a' w8 ⟨b900, AM, cM, L, rfl, hL, hs3, hs4, hs5, gJ8, B900, hMA⟩
     obtain ⟨x, rfl⟩ : ∃ x : Nat → Value, L = [x 0, x 1, x 2, (.pointer (some ⟨b2, 0, none⟩)), (.bool (lazB h ms xL)), (.pointer (some ⟨b900, 0, none⟩)), x 6, x 7, x 8, x 9, x 10, x 11, x 12, x 13, x 14, x 15, x 16, x 17, x 18, x 19, x 20, x 21, x 22, x 23, x 24, x 25, x 26, x 27, x 28, x 29, x 30, x 31, x 32, x 33, x 34, x 35, x 36, x 37, x 38, x 39, x 40, x 41, x 42, x 43, x 44, x 45, x 46, x 47, x 48, x 49, x 50, x 51, x 52, x 53] := ⟨fun i => L.getD i undef, (slots_eta L 54 hL).trans (by show [L.getD 0 undef, L.getD 1 undef, L.getD 2 undef, L.getD 3 undef, L.getD 4 undef, L.getD 5 undef, L.getD 6 undef, L.getD 7 undef, L.getD 8 undef, L.getD 9 undef, L.getD 10 undef, L.getD 11 undef, L.getD 12 undef, L.getD 13 undef, L.getD 14 undef, L.getD 15 undef, L.getD 16 undef, L.getD 17 undef, L.getD 18 undef, L.getD 19 undef, L.getD 20 undef, L.getD 21 undef, L.getD 22 undef, L.getD 23 undef, L.getD 24 undef, L.getD 25 undef, L.getD 26 undef, L.getD 27 undef, L.getD 28 undef, L.getD 29 undef, L.getD 30 undef, L.getD 31 undef, L.getD 32 undef, L.getD 33 undef, L.getD 34 undef, L.getD 35 undef, L.getD 36 undef, L.getD 37 undef, L.getD 38 undef, L.getD 39 undef, L.getD 40 undef, L.getD 41 undef, L.getD 42 undef, L.getD 43 undef, L.getD 44 undef, L.getD 45 undef, L.getD 46 undef, L.getD 47 undef, L.getD 48 undef, L.getD 49 undef, L.getD 50 undef, L.getD 51 undef, L.getD 52 undef, L.getD 53 undef] = _; rw [slot_d hs3, slot_d hs4, slot_d hs5])⟩
     clear hL hs3 hs4 hs5
     replace hA := hA.grow gJ8
     replace hDA := hDA.grow gJ8
     replace hDB := hDB.grow gJ8
     replace hDM := hDM.grow gJ8
     replace G := G.grow gJ8
     replace B2 := B2.grow gJ8
     have zgJ8 := gJ8.size
     have lb900 := B900.lt
     refine th_n (hK12 _ _ ?_)
     clear hK12 K12
     refine wp_seq_k fun K13 hK13 => ?_
     refine D_cut (fun a' w' => ∃ (b901 : Nat) (AN : Option Addr) (cN : Nat) (L : List Value), a' = ⟨L.toArray, []⟩ ∧ L.length = 54 ∧ L[3]? = some (.pointer (some ⟨b2, 0, none⟩)) ∧ L[4]? = some (.bool (lazB h ms xL)) ∧ L[5]? = some (.pointer (some ⟨b900, 0, none⟩)) ∧ L[6]? = some (.pointer (some ⟨b901, 0, none⟩)) ∧ Mod (No) w8 w' ∧ (Blk w' b901 42 [.slice AD h.cells.length cD, .slice BD h.roots.length dD, .slice AN ms.length cN, .int .i64 0].toArray) ∧ (R1 (fun i => i < w'.heap.size) w' AN (bools (mB ms.length [])))) ?_ ?_
     · -- cut
      refine D_start 9 54 (fun w => Mod (No) w) follows rfl rfl ?_  -- d2 r10
      intro w76 g76
      replace hA := hA.grow g76
      replace hDA := hDA.grow g76
      replace hDB := hDB.grow g76
      replace hDM := hDM.grow g76
      replace hMA := hMA.grow g76
      replace G := G.grow g76
      replace B2 := B2.grow g76
      replace B900 := B900.grow g76
      have zg76 := g76.size
      have GS76 := Mod.refl (No) w76
      have B2d76 := B2
      refine Dq (i := 0) rfl GS76 (fun _ _ => Y_field Try.underlying42 rfl fz42_0 (by decide) rfl) ?_
      refine Dq (i := 1) rfl GS76 (fun _ hs => Y_loadS Try.underlying26 rfl sz26 rfl (by first | exact hs.cells0 ((CellsAt.of_blk (pre := []) (us := [_, _]) (post := [_, _]) B2 rfl)))) ?_
      refine Dq (i := 2) rfl GS76 (fun _ _ => Y_field Try.underlying42 rfl fz42_1 (by decide) rfl) ?_
      refine Dq (i := 3) rfl GS76 (fun _ hs => Y_load Try.underlying40 rfl rfl (hs.cell0 (B2.at (by rfl)))) ?_
      refine Dq (i := 4) rfl GS76 (fun _ _ => Y_len Try.underlying40 rfl) ?_
      refine D_2 (i := 5) (j := 7) (by kernel_rfl) ?_ ?_
      · -- operation 5 comes up
       refine E_make (i := 5) (n := ms.length) (l := ms.length) (z := [.bool false]) rfl Try.underlying40 zr4 sz4 by4 rfl rfl (by omega) (by omega) (by omega) ?_
       intro bm w78 fbm g78 BM
       have lbm := BM.lt
       refine ⟨GS76.grow g78, ?_⟩
       replace hA := hA.grow g78
       replace hDA := hDA.grow g78
       replace hDB := hDB.grow g78
       replace hDM := hDM.grow g78
       replace hMA := hMA.grow g78
       replace G := G.grow g78
       replace GS76 := GS76.grow g78
       replace B2 := B2.grow g78
       replace B900 := B900.grow g78
       have zg78 := g78.size
       have BN := Blk.eq BM (mB_zero _)
       have hNA := R1.of_blkE BN
       clear BM BN
       refine Dq (i := 6) rfl GS76 (fun _ _ => Y_build (cs := [_, _, _, _]) zr42 pc42 rfl rfl) ?_
       refine D_1 (i := 7) (by kernel_rfl) ?_
       refine E_alloc (cs := [_, _, _, _]) rfl zr42 rfl (fun b79 w79 fb79 g79 B79 => ⟨GS76.grow g79, ?_⟩)
       have lb79 := B79.lt
       replace hA := hA.grow g79
       replace hDA := hDA.grow g79
       replace hDB := hDB.grow g79
       replace hDM := hDM.grow g79
       replace hMA := hMA.grow g79
       replace hNA := hNA.grow g79
       replace G := G.grow g79
       replace GS76 := GS76.grow g79
       replace B2 := B2.grow g79
       replace B900 := B900.grow g79
       have zg79 := g79.size
       refine D_1 (i := 8) (by kernel_rfl) ?_
       refine E_stM (pre := []) (old := [_, _, _, _]) (post := []) (vs := [_, _, _, _]) (i := 8) rfl sz42 rfl rfl rfl (by first | rfl | assumption) B79 rfl rfl ?_
       intro w80 m80 X80
       replace B79 := Blk.eq (ys := [_, _, _, _]) X80 rfl
       clear X80
       replace G := G.abv m80
       replace GS76 := GS76.abv m80
       replace hA := hA0.grow G
       replace hDA := hDA.md m80
       replace hDB := hDB.md m80
       replace hDM := hDM.md m80
       replace hMA := hMA.md m80
       replace hNA := hNA.md m80
       replace B2 := B2.md m80
       replace B900 := B900.md m80
       have zm80 := m80.size
       refine ⟨GS76, ?_⟩
       refine D_en (by kernel_rfl) rfl rfl ?_
       exact ⟨rfl, _, _, _, _, rfl, rfl, rfl, rfl, rfl, rfl, g76.grow GS76, B79, hNA.below⟩
      · -- operation 7 comes up
       refine E_alloc (cs := [_, _, _, _]) rfl zr42 rfl (fun b81 w81 fb81 g81 B81 => ⟨GS76.grow g81, ?_⟩)
       have lb81 := B81.lt
       replace hA := hA.grow g81
       replace hDA := hDA.grow g81
       replace hDB := hDB.grow g81
       replace hDM := hDM.grow g81
       replace hMA := hMA.grow g81
       replace G := G.grow g81
       replace GS76 := GS76.grow g81
       replace B2 := B2.grow g81
       replace B900 := B900.grow g81
       have zg81 := g81.size
       refine D_1 (i := 5) (by kernel_rfl) ?_
       refine E_make (i := 5) (n := ms.length) (l := ms.length) (z := [.bool false]) rfl Try.underlying40 zr4 sz4 by4 rfl rfl (by omega) (by omega) (by omega) ?_
       intro bm w82 fbm g82 BM
       have lbm := BM.lt
       refine ⟨GS76.grow g82, ?_⟩
       replace hA := hA.grow g82
       replace hDA := hDA.grow g82
       replace hDB := hDB.grow g82
       replace hDM := hDM.grow g82
       replace hMA := hMA.grow g82
       replace G := G.grow g82
       replace GS76 := GS76.grow g82
       replace B2 := B2.grow g82
       replace B900 := B900.grow g82
       replace B81 := B81.grow g82
       have zg82 := g82.size
       have BN := Blk.eq BM (mB_zero _)
       have hNA := R1.of_blkE BN
       clear BM BN
       refine Dq (i := 6) rfl GS76 (fun _ _ => Y_build (cs := [_, _, _, _]) zr42 pc42 rfl rfl) ?_
       refine D_1 (i := 8) (by kernel_rfl) ?_
       refine E_stM (pre := []) (old := [_, _, _, _]) (post := []) (vs := [_, _, _, _]) (i := 8) rfl sz42 rfl rfl rfl (by first | rfl | assumption) B81 rfl rfl ?_
       intro w83 m83 X83
       replace B81 := Blk.eq (ys := [_, _, _, _]) X83 rfl
       clear X83
       replace G := G.abv m83
       replace GS76 := GS76.abv m83
       replace hA := hA0.grow G
       replace hDA := hDA.md m83
       replace hDB := hDB.md m83
       replace hDM := hDM.md m83
       replace hMA := hMA.md m83
       replace hNA := hNA.md m83
       replace B2 := B2.md m83
       replace B900 := B900.md m83
       have zm83 := m83.size
       refine ⟨GS76, ?_⟩
       refine D_en (by kernel_rfl) rfl rfl ?_
       exact ⟨rfl, _, _, _, _, rfl, rfl, rfl, rfl, rfl, rfl, g76.grow GS76, B81, hNA.below⟩
     · -- behind the cut
      rintro a' w77 ⟨b901, AN, cN, L, rfl, hL, hs3, hs4, hs5, hs6, gJ77, B901, hNA⟩
      obtain ⟨x, rfl⟩ : ∃ x : Nat → Value, L = [x 0, x 1, x 2, (.pointer (some ⟨b2, 0, none⟩)), (.bool (lazB h ms xL)), (.pointer (some ⟨b900, 0, none⟩)), (.pointer (some ⟨b901, 0, none⟩)), x 7, x 8, x 9, x 10, x 11, x 12, x 13, x 14, x 15, x 16, x 17, x 18, x 19, x 20, x 21, x 22, x 23, x 24, x 25, x 26, x 27, x 28, x 29, x 30, x 31, x 32, x 33, x 34, x 35, x 36, x 37, x 38, x 39, x 40, x 41, x 42, x 43, x 44, x 45, x 46, x 47, x 48, x 49, x 50, x 51, x 52, x 53] := ⟨fun i => L.getD i undef, (slots_eta L 54 hL).trans (by show [L.getD 0 undef, L.getD 1 undef, L.getD 2 undef, L.getD 3 undef, L.getD 4 undef, L.getD 5 undef, L.getD 6 undef, L.getD 7 undef, L.getD 8 undef, L.getD 9 undef, L.getD 10 undef, L.getD 11 undef, L.getD 12 undef, L.getD 13 undef, L.getD 14 undef, L.getD 15 undef, L.getD 16 undef, L.getD 17 undef, L.getD 18 undef, L.getD 19 undef, L.getD 20 undef, L.getD 21 undef, L.getD 22 undef, L.getD 23 undef, L.getD 24 undef, L.getD 25 undef, L.getD 26 undef, L.getD 27 undef, L.getD 28 undef, L.getD 29 undef, L.getD 30 undef, L.getD 31 undef, L.getD 32 undef, L.getD 33 undef, L.getD 34 undef, L.getD 35 undef, L.getD 36 undef, L.getD 37 undef, L.getD 38 undef, L.getD 39 undef, L.getD 40 undef, L.getD 41 undef, L.getD 42 undef, L.getD 43 undef, L.getD 44 undef, L.getD 45 undef, L.getD 46 undef, L.getD 47 undef, L.getD 48 undef, L.getD 49 undef, L.getD 50 undef, L.getD 51 undef, L.getD 52 undef, L.getD 53 undef] = _; rw [slot_d hs3, slot_d hs4, slot_d hs5, slot_d hs6])⟩
      clear hL hs3 hs4 hs5 hs6
      replace hA := hA.grow gJ77
      replace hDA := hDA.grow gJ77
      replace hDB := hDB.grow gJ77
      replace hDM := hDM.grow gJ77
      replace hMA := hMA.grow gJ77
      replace G := G.grow gJ77
      replace B2 := B2.grow gJ77
      replace B900 := B900.grow gJ77
      have zgJ77 := gJ77.size
      have lb901 := B901.lt
      refine th_n (hK13 _ _ ?_)
      clear hK13 K13
      refine wp_seq_k fun K14 hK14 => ?_
      refine Sb 54 rfl ?_  -- 11
      refine S_val (Y_loadS Try.underlying42 rfl sz42 rfl (B900.row (by rfl))) ?_  -- l8
      refine S_call rfl en15 (LazyValid_p (fun _ => True) _ _ _ h (ms ++ [true]) xL _ _ _ _ _ (hDA.weak (fun _ _ => trivial)) (hDB.weak (fun _ _ => trivial)) (hMA.weak (fun _ _ => trivial)) (by omega) (by rw [List.length_append]; simp only [List.length_cons, List.length_nil]; omega) (by omega) (by simp)) ?_  -- k5 impl.LazyValid
      rintro v84 w84 ⟨rfl, g84⟩
      replace hA := hA.grow g84
      replace hDA := hDA.grow g84
      replace hDB := hDB.grow g84
      replace hDM := hDM.grow g84
      replace hMA := hMA.grow g84
      replace hNA := hNA.grow g84
      replace G := G.grow g84
      replace B2 := B2.grow g84
      replace B900 := B900.grow g84
      replace B901 := B901.grow g84
      have zg84 := g84.size
      refine S_val (Y_not rfl) ?_
      refine S_val (Y_move rfl) ?_
      refine S_g 42 rfl (fun hb4 => ?_) (fun hb4 => ?_)  -- g1
      · -- g1T
       first | with_reducible (replace hb4 := nb_nt hb4) | with_reducible (replace hb4 := nb_tt hb4) | with_reducible (replace hb4 := nb_bt hb4) | skip
       refine S_on rfl rfl ?_
       refine S_val (Y_field Try.underlying42 rfl fz42_0 (by decide) rfl) ?_
       refine S_on rfl rfl ?_
       refine S_val (Y_loadS Try.underlying26 rfl sz26 rfl (CellsAt.of_blk (pre := []) (us := [_, _]) (post := [_, _]) B2 rfl)) ?_  -- l9
       refine S_on rfl rfl ?_
       refine S_call rfl en17 (impl_MetOrder_c _ _ _ _ _ _ _ (by assumption) (by assumption) (by omega)) ?_  -- k6 impl.MetOrder
       rintro v85 w85 ⟨A85, q85, cap85, rfl, hq85, O85, g85⟩
       replace hA := hA.grow g85
       replace hDA := hDA.grow g85
       replace hDB := hDB.grow g85
       replace hDM := hDM.grow g85
       replace hMA := hMA.grow g85
       replace hNA := hNA.grow g85
       replace G := G.grow g85
       replace B2 := B2.grow g85
       replace B900 := B900.grow g85
       replace B901 := B901.grow g85
       have zg85 := g85.size
       subst hq85
       refine S_on rfl rfl ?_
       refine S_val (Y_len Try.underlying24 rfl) ?_
       refine S_on rfl rfl ?_
       refine S_val (Y_eql rfl rfl) ?_
       refine S_on rfl rfl ?_
       refine S_val (Y_move rfl) ?_
       refine S_g 48 rfl (fun hb5 => ?_) (fun hb5 => ?_)  -- g2
       · -- g2T
        replace hb5 := nb_tt hb5
        refine S_off rfl rfl ?_
        refine S_off rfl rfl ?_
        refine S_off rfl rfl ?_
        refine S_on rfl rfl ?_
        refine S_val (Y_pickT rfl rfl) ?_
        refine S_val (Y_pickT rfl rfl) ?_
        refine S_val (Y_assign rfl) ?_
        refine S_nl rfl rfl ?_
        refine th_n (hK14 _ _ ?_)
        clear hK14 K14
        refine wp_ret ?_
        refine ret_r1 rfl rfl ?_  -- r3
        first | exact ⟨rfl, G⟩ | exact ⟨vN (lazy_zero hv9 hml h0), G⟩ | exact ⟨by simp [lazy_more hml, lazy_zero hv9 hml h0], G⟩
       · -- g2F
        replace hb5 := nb_tf hb5
        have h0 : 0 < (metV h).length := by omega
        refine S_on rfl rfl ?_
        refine S_val (Y_loadS Try.underlying42 rfl sz42 rfl (B901.row (by rfl))) ?_  -- l10
        refine S_on rfl rfl ?_
        refine S_call rfl en15 (LazyValid_p (fun _ => True) _ _ _ h (mB ms.length []) 0 _ _ _ _ _ (hDA.weak (fun _ _ => trivial)) (hDB.weak (fun _ _ => trivial)) (hNA.weak (fun _ _ => trivial)) (by omega) (by rw [mB_len]; omega) (by omega) (by rw [mB_len])) ?_  -- k7 impl.LazyValid
        rintro v86 w86 ⟨rfl, g86⟩
        replace hA := hA.grow g86
        replace hDA := hDA.grow g86
        replace hDB := hDB.grow g86
        replace hDM := hDM.grow g86
        replace hMA := hMA.grow g86
        replace hNA := hNA.grow g86
        replace O85 := O85.grow g86
        replace G := G.grow g86
        replace B2 := B2.grow g86
        replace B900 := B900.grow g86
        replace B901 := B901.grow g86
        have zg86 := g86.size
        refine S_on rfl rfl ?_
        refine S_val (Y_not rfl) ?_
        refine S_on rfl rfl ?_
        refine S_val (Y_pickF rfl rfl) ?_
        refine S_val (Y_pickT rfl rfl) ?_
        refine S_val (Y_assign rfl) ?_
        refine S_nl rfl rfl ?_
        refine th_n (hK14 _ _ ?_)
        clear hK14 K14
        refine wp_ret ?_
        refine ret_r1 rfl rfl ?_  -- r4
        first | exact ⟨rfl, G⟩ | exact ⟨vN (lazy_zero hv9 hml h0), G⟩ | exact ⟨by simp [lazy_more hml, lazy_zero hv9 hml h0], G⟩
      · -- g1F
       first | with_reducible (replace hb4 := nb_nf hb4) | with_reducible (replace hb4 := nb_tf hb4) | with_reducible (replace hb4 := nb_bf hb4) | skip
       first | (rw [lazy_more hml] at hb4; cases hb4) | (simp [lazy_more hml] at hb4; done)

end Go.Proofs.Ytdlmjmcddafojaa
