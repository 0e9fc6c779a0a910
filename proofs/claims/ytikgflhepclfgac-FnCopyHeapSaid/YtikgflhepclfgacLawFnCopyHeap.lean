/-
  The law FnCopyHeap returns true.
  Conditions: those that each theorem states.
-/
import Derived.Test.YtikgflhepclfgacQb6
set_option linter.unusedVariables false
set_option linter.unusedSimpArgs false
namespace Go.Proofs.Ytikgflhepclfgac
open Go Go.RowKit
attribute [local irreducible] wpList wpAnyH Code.wp dOp

set_option maxHeartbeats 400000 in
set_option maxRecDepth 20000 in
theorem laws_FnCopyHeap_c (Pr : Nat → Prop) (A : Option Addr) (xs : List Int) (c : Nat) (w : World) (hA : R1 Pr w A (u8s xs)) (hn : xs.length ≤ 9223372036854775807) (hcap : xs.length ≤ c) (hrg : ∀ y ∈ xs, 0 ≤ y ∧ y ≤ 255) :
    Calls Try.prog 9 #[.slice A xs.length c] w (Ret fun v w' => v = .bool true ∧ Grow w w') := by
 refine enter Try.func9 rfl Try.ntmps9 (L := [_,_,_,_,_,_,_,_,_,_,_,_,_,_,_,_,_,_,_,_,_,_,_,_,_,_,_,_,_,_,_,_,_,_,_,_,_,_,_,_,_,_,_,_,_,_,_,_,_,_,_,_,_,_,_]) rfl ?_
 have G := Mod.refl No w
 have hA0 := hA
 refine wp_seq_k fun K1 hK1 => ?_
 refine Sb 55 rfl ?_  -- 0
 refine S_val (Y_assign rfl) ?_
 refine S_nl rfl rfl ?_
 refine th_n (hK1 _ _ ?_)
 clear hK1 K1
 refine wp_seq_k fun K2 hK2 => ?_
 refine wp_seq_k fun K3 hK3 => ?_
 refine Sb 55 rfl ?_  -- 1
 refine S_val (Y_move rfl) ?_
 refine S_val (Y_len Try.underlying39 rfl) ?_
 refine S_val (Y_gtr rfl rfl) ?_
 refine S_nl rfl rfl ?_
 refine th_n (hK3 _ _ ?_)
 clear hK3 K3
 refine S_if rfl (fun hb1 => ?_) (fun hb1 => ?_)  -- c1
 · -- c1T
  replace hb1 := nb_tt hb1
  refine wp_seq_k fun K4 hK4 => ?_
  refine Sb 55 rfl ?_  -- 2
  refine S_val (Y_assign rfl) ?_
  refine S_nl rfl rfl ?_
  refine th_n (hK4 _ _ ?_)
  clear hK4 K4
  refine wp_ret ?_
  refine th_r ?_
  clear hK2 K2
  refine ret_r1 rfl rfl ?_  -- r1
  first | exact ⟨rfl, G⟩ | exact ⟨vT hcc, G⟩
 · -- c1F
  replace hb1 := nb_tf hb1
  have hx : xs.length ≤ 1048576 := by omega
  refine wp_skip ?_
  refine th_n (hK2 _ _ ?_)
  clear hK2 K2
  refine wp_seq_k fun K5 hK5 => ?_
  refine Sb 55 rfl ?_  -- 3
  refine S_val (Y_move rfl) ?_
  refine S_call rfl en46 (spec_DrawCopyHeap_c _ _ _ _ _ (by assumption) (by omega) (by omega) (by assumption)) ?_  -- k1 spec.DrawCopyHeap
  rintro v1 w1 ⟨hD1, A1, B1, n11, c11, n21, c21, rfl, hn11, hn21, hz1, RC1, RR1, g1⟩
  replace hA := hA.grow g1
  replace G := G.grow g1
  have zg1 := g1.size
  subst hn11
  subst hn21
  obtain ⟨h, rfl⟩ : ∃ x, x = hD1 := ⟨_, rfl⟩
  obtain ⟨AD, rfl⟩ : ∃ x, x = A1 := ⟨_, rfl⟩
  obtain ⟨BD, rfl⟩ : ∃ x, x = B1 := ⟨_, rfl⟩
  obtain ⟨cD, rfl⟩ : ∃ x, x = c11 := ⟨_, rfl⟩
  obtain ⟨dD, rfl⟩ : ∃ x, x = c21 := ⟨_, rfl⟩
  have hzD := hz1
  have hzcD := hsize_cells h
  have hzrD := hsize_roots h
  have hDA := RC1.below
  have hDB := RR1.below
  have hzc := copyV_small h
  have hzcc := copyV_small (copyV h)
  refine S_alloc (cs := [_, _]) zr32 rfl ?_
  intro b2 w2 fb2 g2 B2
  have lb2 := B2.lt
  replace hA := hA.grow g2
  replace hDA := hDA.grow g2
  replace hDB := hDB.grow g2
  replace G := G.grow g2
  have zg2 := g2.size
  refine S_stM (pre := []) (old := [_, _]) (post := []) (vs := [_, _]) sz32 rfl rfl rfl (by first | rfl | assumption) B2 rfl rfl ?_
  intro w3 m3 X3
  replace B2 := Blk.eq (ys := [_, _]) X3 rfl
  clear X3
  replace G := G.abv m3
  replace hA := hA0.grow G
  replace hDA := hDA.md m3
  replace hDB := hDB.md m3
  have zm3 := m3.size
  refine S_nl rfl rfl ?_
  refine th_n (hK5 _ _ ?_)
  clear hK5 K5
  refine wp_seq_k fun K6 hK6 => ?_
  refine Sb 55 rfl ?_  -- 4
  refine S_val (Y_loadS Try.underlying32 rfl sz32 rfl (B2.row (by rfl))) ?_  -- l1
  refine S_call rfl en47 (impl_CopyHeap_c _ _ _ _ _ _ _ (by assumption) (by assumption) (by omega)) ?_  -- k2 impl.CopyHeap
  rintro v4 w4 ⟨A4, B4, n14, c14, n24, c24, rs4, rfl, hn14, hn24, O4, g4⟩
  replace hA := hA.grow g4
  replace hDA := hDA.grow g4
  replace hDB := hDB.grow g4
  replace G := G.grow g4
  replace B2 := B2.grow g4
  have zg4 := g4.size
  subst hn14
  subst hn24
  have hAC := O4.lt.rc
  have hBC := O4.lt.r1
  refine S_alloc (cs := [_, _]) zr32 rfl ?_
  intro b5 w5 fb5 g5 B5
  have lb5 := B5.lt
  replace hA := hA.grow g5
  replace hDA := hDA.grow g5
  replace hDB := hDB.grow g5
  replace hAC := hAC.grow g5
  replace hBC := hBC.grow g5
  replace G := G.grow g5
  replace B2 := B2.grow g5
  have zg5 := g5.size
  refine S_stM (pre := []) (old := [_, _]) (post := []) (vs := [_, _]) sz32 rfl rfl rfl (by first | rfl | assumption) B5 rfl rfl ?_
  intro w6 m6 X6
  replace B5 := Blk.eq (ys := [_, _]) X6 rfl
  clear X6
  replace G := G.abv m6
  replace hA := hA0.grow G
  replace hDA := hDA.md m6
  replace hDB := hDB.md m6
  replace hAC := hAC.md m6
  replace hBC := hBC.md m6
  replace B2 := B2.md m6
  have zm6 := m6.size
  refine S_nl rfl rfl ?_
  refine th_n (hK6 _ _ ?_)
  clear hK6 K6
  refine wp_seq_k fun K7 hK7 => ?_
  refine wp_seq_k fun K8 hK8 => ?_
  refine D_start 5 55 (fun w => Mod (No) w) follows rfl rfl ?_  -- d1 r5
  intro w7 g7
  replace hA := hA.grow g7
  replace hDA := hDA.grow g7
  replace hDB := hDB.grow g7
  replace hAC := hAC.grow g7
  replace hBC := hBC.grow g7
  replace G := G.grow g7
  replace B2 := B2.grow g7
  replace B5 := B5.grow g7
  have zg7 := g7.size
  have GS7 := Mod.refl (No) w7
  have B2d7 := B2
  have B5d7 := B5
  refine Dq (i := 0) rfl GS7 (fun _ hs => Y_loadS Try.underlying32 rfl sz32 rfl (by first | exact hs.cells0 (B5.row (by rfl)))) ?_
  refine Dq (i := 1) rfl GS7 (fun _ hs => Y_loadS Try.underlying32 rfl sz32 rfl (by first | exact hs.cells0 (B2.row (by rfl)))) ?_
  refine D_1 (i := 2) (by kernel_rfl) ?_
  refine E_call rfl rfl en48 (spec_CopyHeap_c _ _ _ _ _ _ _ (by assumption) (by assumption) (by omega)) ?_  -- k3 spec.CopyHeap
  rintro v8 w8 ⟨A8, B8, n18, c18, n28, c28, rs8, rfl, hn18, hn28, O8, g8⟩
  replace hA := hA.grow g8
  replace hDA := hDA.grow g8
  replace hDB := hDB.grow g8
  replace hAC := hAC.grow g8
  replace hBC := hBC.grow g8
  replace G := G.grow g8
  replace GS7 := GS7.grow g8
  replace B2 := B2.grow g8
  replace B5 := B5.grow g8
  have zg8 := g8.size
  subst hn18
  subst hn28
  have hAS := O8.lt.rc
  have hBS := O8.lt.r1
  refine ⟨GS7, ?_⟩
  refine D_1 (i := 3) (by kernel_rfl) ?_
  refine E_call rfl rfl en27 (laws_sameHeap_c _ _ _ _ _ _ (copyV h) (copyV h) _ _ _ _ _ hAC hBC hAS hBS (by omega)) ?_  -- k4 laws.sameHeap
  rintro v9 w9 ⟨rfl, g9⟩
  replace hA := hA.grow g9
  replace hDA := hDA.grow g9
  replace hDB := hDB.grow g9
  replace hAC := hAC.grow g9
  replace hBC := hBC.grow g9
  replace hAS := hAS.grow g9
  replace hBS := hBS.grow g9
  replace G := G.grow g9
  replace GS7 := GS7.grow g9
  replace B2 := B2.grow g9
  replace B5 := B5.grow g9
  have zg9 := g9.size
  refine ⟨GS7, ?_⟩
  refine Dq (i := 4) rfl GS7 (fun _ _ => Y_not rfl) ?_
  refine D_en (by kernel_rfl) rfl rfl ?_
  refine th_n (hK8 _ _ ?_)
  clear hK8 K8
  refine S_if rfl (fun hb2 => ?_) (fun hb2 => ?_)  -- c2
  · -- c2T
   first | with_reducible (replace hb2 := nb_nt hb2) | with_reducible (replace hb2 := nb_tt hb2) | with_reducible (replace hb2 := nb_bt hb2) | skip
   exact absurd rfl hb2
  · -- c2F
   first | with_reducible (replace hb2 := nb_nf hb2) | with_reducible (replace hb2 := nb_tf hb2) | with_reducible (replace hb2 := nb_bf hb2) | skip
   refine wp_skip ?_
   refine th_n (hK7 _ _ ?_)
   clear hK7 K7
   refine wp_seq_k fun K9 hK9 => ?_
   refine wp_seq_k fun K10 hK10 => ?_
   refine Sb 55 rfl ?_  -- 7
   refine S_val (Y_loadS Try.underlying32 rfl sz32 rfl (B2.row (by rfl))) ?_  -- l4
   refine S_call rfl en49 (spec_HeapValid_c _ _ _ _ _ _ _ (by assumption) (by assumption) (by omega)) ?_  -- k5 spec.HeapValid
   rintro v10 w10 ⟨rfl, g10⟩
   replace hA := hA.grow g10
   replace hDA := hDA.grow g10
   replace hDB := hDB.grow g10
   replace hAC := hAC.grow g10
   replace hBC := hBC.grow g10
   replace hAS := hAS.grow g10
   replace hBS := hBS.grow g10
   replace G := G.grow g10
   replace B2 := B2.grow g10
   replace B5 := B5.grow g10
   have zg10 := g10.size
   refine S_val (Y_not rfl) ?_
   refine S_nl rfl rfl ?_
   refine th_n (hK10 _ _ ?_)
   clear hK10 K10
   refine S_if rfl (fun hb3 => ?_) (fun hb3 => ?_)  -- c3
   · -- c3T
    first | with_reducible (replace hb3 := nb_nt hb3) | with_reducible (replace hb3 := nb_tt hb3) | with_reducible (replace hb3 := nb_bt hb3) | skip
    have hcf := copyV_f hb3
    have hcr : (copyV h).roots.length = 0 := by rw [hcf]; rfl
    refine wp_seq_k fun K11 hK11 => ?_
    refine Sb 55 rfl ?_  -- 8
    refine S_val (Y_field Try.underlying32 rfl fz32_1 (by decide) rfl) ?_
    refine S_val (Y_load Try.underlying23 rfl rfl (B5.at (by rfl))) ?_  -- l5
    refine S_val (Y_len Try.underlying23 rfl) ?_
    refine S_val (Y_eql rfl rfl) ?_
    refine S_val (Y_move rfl) ?_
    refine S_g 26 rfl (fun hb4 => ?_) (fun hb4 => ?_)  -- g1
    · -- g1T
     replace hb4 := nb_tt hb4
     refine S_on rfl rfl ?_
     refine S_call rfl en22 (laws_alive_c _) ?_  -- k6 laws.alive
     rintro v11 w11 ⟨rfl, g11⟩
     replace hA := hA.grow g11
     replace hDA := hDA.grow g11
     replace hDB := hDB.grow g11
     replace hAC := hAC.grow g11
     replace hBC := hBC.grow g11
     replace hAS := hAS.grow g11
     replace hBS := hBS.grow g11
     replace G := G.grow g11
     replace B2 := B2.grow g11
     replace B5 := B5.grow g11
     have zg11 := g11.size
     refine S_val (Y_pickT rfl rfl) ?_
     refine S_val (Y_assign rfl) ?_
     refine S_nl rfl rfl ?_
     refine th_n (hK11 _ _ ?_)
     clear hK11 K11
     refine wp_ret ?_
     refine th_r ?_
     clear hK9 K9
     refine ret_r1 rfl rfl ?_  -- r2
     first | exact ⟨rfl, G⟩ | exact ⟨vT hcc, G⟩
    · -- g1F
     replace hb4 := nb_tf hb4
     omega
   · -- c3F
    first | with_reducible (replace hb3 := nb_nf hb3) | with_reducible (replace hb3 := nb_tf hb3) | with_reducible (replace hb3 := nb_bf hb3) | skip
    have va := valid_iff.1 hb3
    have hv9 := hb3
    have h40 := va.le
    have hr4 := va.roots4
    have hcu := copy_used va
    have hcv := valid_iff.2 (copy_valid va)
    have hcw := copy_view va
    have hcc := copy_copy va
    refine wp_skip ?_
    refine th_n (hK9 _ _ ?_)
    clear hK9 K9
    refine wp_seq_k fun K12 hK12 => ?_
    refine Sb 55 rfl ?_  -- 9
    refine S_val (Y_loadS Try.underlying32 rfl sz32 rfl (B5.row (by rfl))) ?_  -- l6
    refine S_call rfl en28 (impl_UsedCells_c _ _ _ (copyV h) _ _ _ hAC hBC (by omega)) ?_  -- k7 impl.UsedCells
    rintro v12 w12 ⟨rfl, g12⟩
    replace hA := hA.grow g12
    replace hDA := hDA.grow g12
    replace hDB := hDB.grow g12
    replace hAC := hAC.grow g12
    replace hBC := hBC.grow g12
    replace hAS := hAS.grow g12
    replace hBS := hBS.grow g12
    replace G := G.grow g12
    replace B2 := B2.grow g12
    replace B5 := B5.grow g12
    have zg12 := g12.size
    rw [hcu]
    refine S_val (Y_move rfl) ?_
    refine S_val (Y_extract rfl rfl) ?_
    refine S_val (Y_extract rfl rfl) ?_
    refine S_val (Y_assign rfl) ?_
    refine S_val (Y_assign rfl) ?_
    refine S_nl rfl rfl ?_
    refine th_n (hK12 _ _ ?_)
    clear hK12 K12
    refine wp_seq_k fun K13 hK13 => ?_
    refine D_start 22 55 (fun w => Mod (No) w) follows rfl rfl ?_  -- d2 r10
    intro w13 g13
    replace hA := hA.grow g13
    replace hDA := hDA.grow g13
    replace hDB := hDB.grow g13
    replace hAC := hAC.grow g13
    replace hBC := hBC.grow g13
    replace hAS := hAS.grow g13
    replace hBS := hBS.grow g13
    replace G := G.grow g13
    replace B2 := B2.grow g13
    replace B5 := B5.grow g13
    have zg13 := g13.size
    have GS13 := Mod.refl (No) w13
    have B2d13 := B2
    have B5d13 := B5
    refine Dq (i := 0) rfl GS13 (fun _ _ => Y_move rfl) ?_
    refine Dq (i := 1) rfl GS13 (fun _ _ => Y_move rfl) ?_
    refine Dq (i := 2) rfl GS13 (fun _ _ => Y_eql rfl rfl) ?_
    refine Dq (i := 3) rfl GS13 (fun _ _ => Y_move rfl) ?_
    refine D_g 37 rfl (fun hb4 => ?_) (fun hb4 => ?_)  -- g2
    · -- g2T
     replace hb4 := nb_tt hb4
     refine Dqon (i := 4) rfl rfl rfl GS13 (fun _ _ => Y_move rfl) ?_
     refine Dqon (i := 5) rfl rfl rfl GS13 (fun _ _ => Y_field Try.underlying32 rfl fz32_0 (by decide) rfl) ?_
     refine Dqon (i := 6) rfl rfl rfl GS13 (fun _ hs => Y_load Try.underlying30 rfl rfl (hs.cell0 (B5.at (by rfl)))) ?_
     refine Dqon (i := 7) rfl rfl rfl GS13 (fun _ _ => Y_len Try.underlying30 rfl) ?_
     refine Dqon (i := 8) rfl rfl rfl GS13 (fun _ _ => Y_eql rfl rfl) ?_
     refine Dq (i := 9) rfl GS13 (fun _ _ => Y_pickT rfl rfl) ?_
     refine Dq (i := 10) rfl GS13 (fun _ _ => Y_move rfl) ?_
     refine D_g 44 rfl (fun hb5 => ?_) (fun hb5 => ?_)  -- g3
     · -- g3T
      first | with_reducible (replace hb5 := nb_nt hb5) | with_reducible (replace hb5 := nb_tt hb5) | with_reducible (replace hb5 := nb_bt hb5) | skip
      refine Dqon (i := 11) rfl rfl rfl GS13 (fun _ hs => Y_loadS Try.underlying32 rfl sz32 rfl (by first | exact hs.cells0 (B5.row (by rfl)))) ?_
      refine Dqon (i := 12) rfl rfl rfl GS13 (fun _ hs => Y_loadS Try.underlying32 rfl sz32 rfl (by first | exact hs.cells0 (B2.row (by rfl)))) ?_
      refine D_1 (i := 13) (by kernel_rfl) ?_
      refine E_calln rfl rfl rfl rfl en37 (impl_SameView_c _ _ _ _ _ _ (copyV h) h _ _ _ _ _ hAC hBC hDA hDB (by omega) (by omega)) ?_  -- k8 impl.SameView
      rintro v14 w14 ⟨rfl, g14⟩
      replace hA := hA.grow g14
      replace hDA := hDA.grow g14
      replace hDB := hDB.grow g14
      replace hAC := hAC.grow g14
      replace hBC := hBC.grow g14
      replace hAS := hAS.grow g14
      replace hBS := hBS.grow g14
      replace G := G.grow g14
      replace GS13 := GS13.grow g14
      replace B2 := B2.grow g14
      replace B5 := B5.grow g14
      have zg14 := g14.size
      refine ⟨GS13, ?_⟩
      refine Dq (i := 14) rfl GS13 (fun _ _ => Y_pickT rfl rfl) ?_
      refine Dq (i := 15) rfl GS13 (fun _ _ => Y_move rfl) ?_
      refine D_g 49 rfl (fun hb6 => ?_) (fun hb6 => ?_)  -- g4
      · -- g4T
       first | with_reducible (replace hb6 := nb_nt hb6) | with_reducible (replace hb6 := nb_tt hb6) | with_reducible (replace hb6 := nb_bt hb6) | skip
       refine Dqon (i := 16) rfl rfl rfl GS13 (fun _ hs => Y_loadS Try.underlying32 rfl sz32 rfl (by first | exact hs.cells0 (B5.row (by rfl)) | exact hs.cells0 (B5d13.row (by rfl)))) ?_
       refine Dqon (i := 18) rfl rfl rfl GS13 (fun _ hs => Y_loadS Try.underlying32 rfl sz32 rfl (by first | exact hs.cells0 (B5.row (by rfl)) | exact hs.cells0 (B5d13.row (by rfl)))) ?_
       refine D_1 (i := 17) (by kernel_rfl) ?_
       refine E_calln rfl rfl rfl rfl en47 (impl_CopyHeap_c _ _ _ (copyV h) _ _ _ hAC hBC (by omega)) ?_  -- k9 impl.CopyHeap
       rintro v15 w15 ⟨A15, B15, n115, c115, n215, c215, rs15, rfl, hn115, hn215, O15, g15⟩
       replace hA := hA.grow g15
       replace hDA := hDA.grow g15
       replace hDB := hDB.grow g15
       replace hAC := hAC.grow g15
       replace hBC := hBC.grow g15
       replace hAS := hAS.grow g15
       replace hBS := hBS.grow g15
       replace G := G.grow g15
       replace GS13 := GS13.grow g15
       replace B2 := B2.grow g15
       replace B5 := B5.grow g15
       have zg15 := g15.size
       subst hn115
       subst hn215
       have hAE := O15.lt.rc
       have hBE := O15.lt.r1
       refine ⟨GS13, ?_⟩
       refine D_1 (i := 19) (by kernel_rfl) ?_
       refine E_calln rfl rfl rfl rfl en27 (laws_sameHeap_c _ _ _ _ _ _ (copyV (copyV h)) (copyV h) _ _ _ _ _ hAE hBE hAC hBC (by omega)) ?_  -- k10 laws.sameHeap
       rintro v16 w16 ⟨rfl, g16⟩
       replace hA := hA.grow g16
       replace hDA := hDA.grow g16
       replace hDB := hDB.grow g16
       replace hAC := hAC.grow g16
       replace hBC := hBC.grow g16
       replace hAS := hAS.grow g16
       replace hBS := hBS.grow g16
       replace hAE := hAE.grow g16
       replace hBE := hBE.grow g16
       replace G := G.grow g16
       replace GS13 := GS13.grow g16
       replace B2 := B2.grow g16
       replace B5 := B5.grow g16
       have zg16 := g16.size
       refine ⟨GS13, ?_⟩
       refine Dq (i := 20) rfl GS13 (fun _ _ => Y_pickT rfl rfl) ?_
       refine Dq (i := 21) rfl GS13 (fun _ _ => Y_assign rfl) ?_
       refine D_en (by kernel_rfl) rfl rfl ?_
       refine th_n (hK13 _ _ ?_)
       clear hK13 K13
       refine wp_ret ?_
       refine ret_r1 rfl rfl ?_  -- r3
       first | exact ⟨rfl, G⟩ | exact ⟨vT hcc, G⟩
      · -- g4F
       first | with_reducible (replace hb6 := nb_nf hb6) | with_reducible (replace hb6 := nb_tf hb6) | with_reducible (replace hb6 := nb_bf hb6) | skip
       rw [sameV_of hcv hv9 hcw] at hb6; cases hb6
     · -- g3F
      first | with_reducible (replace hb5 := nb_nf hb5) | with_reducible (replace hb5 := nb_tf hb5) | with_reducible (replace hb5 := nb_bf hb5) | skip
      exact absurd rfl hb5
    · -- g2F
     replace hb4 := nb_tf hb4
     exact absurd rfl hb4

end Go.Proofs.Ytikgflhepclfgac
