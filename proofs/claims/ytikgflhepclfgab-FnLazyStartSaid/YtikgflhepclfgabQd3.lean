/-
  Walks through functions of the program and the reference, and the plain laws behind them: what one claim needs of them.
  Conditions: those that each theorem states.
-/
import Derived.Test.YtikgflhepclfgabQd2
set_option linter.unusedVariables false
set_option linter.unusedSimpArgs false
namespace Go.Proofs.Ytikgflhepclfgab
/-! WalkCp -/
section
open Go Go.RowKit
attribute [local irreducible] wpList wpAnyH Code.wp dOp
set_option maxHeartbeats 400000 in
set_option maxRecDepth 20000 in
theorem impl_copyHeap_c (Pr : Nat → Prop) (A B : Option Addr) (h : LH) (c d : Nat) (w : World) (hA : RC Pr w A h.cells) (hB : R1 Pr w B (ints h.roots)) (hz : hsize h ≤ 1048576) :
    Calls Try.prog 76 #[.agg #[.slice A h.cells.length c, .slice B h.roots.length d]] w (Ret fun v w' => ∃ A1 B1 n1 c1 n2 c2 rs, v = .agg #[.slice A1 n1 c1, .slice B1 n2 c2] ∧ n1 = (h).cells.length ∧ n2 = (h).roots.length ∧ OH (fun i => w.heap.size ≤ i) w' 37 3 A1 B1 (h) rs ∧ Grow w w') := by
 have hz1 := hsize_cells h
 have hz2 := hsize_roots h
 have hne : (37 : TypeId) ≠ 3 := by decide
 refine enter Try.func76 rfl Try.ntmps76 (L := [_,_,_,_,_,_,_,_,_,_,_,_,_,_,_,_,_,_,_,_,_,_,_,_,_,_,_,_,_,_,_,_,_,_,_,_,_]) rfl ?_
 have G := Mod.refl No w
 have hA0 := hA
 have hB0 := hB
 refine wp_seq_k fun K1 hK1 => ?_
 refine Sb 37 rfl ?_  -- 0
 refine S_box (cs := [_, _]) rfl rfl ?_
 intro b1 w1 fb1 g1 B1
 have lb1 := B1.lt
 replace hA := hA.grow g1
 replace hB := hB.grow g1
 replace G := G.grow g1
 have zg1 := g1.size
 refine S_alloc (cs := [_, _]) zr26 rfl ?_
 intro b2 w2 fb2 g2 B2
 have lb2 := B2.lt
 replace hA := hA.grow g2
 replace hB := hB.grow g2
 replace G := G.grow g2
 replace B1 := B1.grow g2
 have zg2 := g2.size
 refine S_nl rfl rfl ?_
 refine th_n (hK1 _ _ ?_)
 clear hK1 K1
 refine wp_seq_k fun K2 hK2 => ?_
 refine D_cut (fun a' w' => ∃ (b3 bm capR : Nat) (AR : Option Addr) (L : List Value), a' = ⟨L.toArray, []⟩ ∧ L.length = 37 ∧ L[0]? = some (.agg #[.slice A h.cells.length c, .slice B h.roots.length d]) ∧ L[1]? = some (.pointer (some ⟨b1, 0, none⟩)) ∧ L[2]? = some (.pointer (some ⟨b2, 0, none⟩)) ∧ L[3]? = some (.pointer (some ⟨b3, 0, none⟩)) ∧ Mod (No) w2 w' ∧ (Blk w' b3 26 [.slice (some ⟨bm, 0, none⟩) 0 (h.cells.length + 1), .slice AR h.roots.length capR].toArray) ∧ (Blk w' bm 37 (zeros [.bool false, .int .i64 0, .slice none 0 0] (h.cells.length + 1)).toArray) ∧ (OW (fun i => w2.heap.size ≤ i ∧ i ≠ bm ∧ i ≠ b3 ∧ i < w'.heap.size) w' 3 1 AR h.roots.length capR (ints h.roots)) ∧ (w2.heap.size ≤ b3 ∧ w2.heap.size ≤ bm ∧ bm ≠ b3 ∧ bm < w'.heap.size)) ?_ ?_
 · -- cut
  refine D_start 11 37 (fun w => Mod (No) w) follows rfl rfl ?_  -- d1 r1
  intro w3 g3
  replace hA := hA.grow g3
  replace hB := hB.grow g3
  replace G := G.grow g3
  replace B1 := B1.grow g3
  replace B2 := B2.grow g3
  have zg3 := g3.size
  have GS3 := Mod.refl (No) w3
  have B1d3 := B1
  refine Dq (i := 0) rfl GS3 (fun _ _ => Y_field Try.underlying26 rfl fz26_0 (by decide) rfl) ?_
  refine Dq (i := 1) rfl GS3 (fun _ hs => Y_load Try.underlying23 rfl rfl (hs.cell0 (B1.at (by rfl)))) ?_
  refine Dq (i := 2) rfl GS3 (fun _ _ => Y_len Try.underlying23 rfl) ?_
  refine Dq (i := 3) rfl GS3 (fun _ _ => Y_add (c := ((h.cells.length + 1 : Nat) : Int)) rfl rfl rfl (by omega) (by omega)) ?_
  refine Dq (i := 5) rfl GS3 (fun _ _ => Y_field Try.underlying26 rfl fz26_1 (by decide) rfl) ?_
  refine Dq (i := 6) rfl GS3 (fun _ hs => Y_load Try.underlying24 rfl rfl (hs.cell0 (B1.at (by rfl)))) ?_
  refine D_3 (i := 4) (j := 7) (k := 9) (by kernel_rfl) ?_ ?_ ?_
  · -- operation 4 comes up
   refine E_make (i := 4) (n := h.cells.length + 1) (l := 0) (z := [.bool false, .int .i64 0, .slice none 0 0]) rfl Try.underlying23 zr37 sz37 by37 rfl rfl (by omega) (by omega) (by omega) ?_
   intro bm w5 fbm g5 BM
   have lbm := BM.lt
   refine ⟨GS3.grow g5, ?_⟩
   replace hA := hA.grow g5
   replace hB := hB.grow g5
   replace G := G.grow g5
   replace GS3 := GS3.grow g5
   replace B1 := B1.grow g5
   replace B2 := B2.grow g5
   have zg5 := g5.size
   refine D_2 (i := 7) (j := 9) (by kernel_rfl) ?_ ?_
   · -- operation 7 comes up
    refine E_call rfl rfl en99 (impl_clone_int__c _ _ _ _ _ (by assumption) (by omega)) ?_  -- k1 impl.clone[int]
    rintro v6 w6 ⟨A6, q6, cap6, rfl, hq6, O6, g6⟩
    replace hA := hA.grow g6
    replace hB := hB.grow g6
    replace BM := BM.grow g6
    replace G := G.grow g6
    replace GS3 := GS3.grow g6
    replace B1 := B1.grow g6
    replace B2 := B2.grow g6
    have zg6 := g6.size
    subst hq6
    obtain ⟨AR, rfl⟩ : ∃ x, x = A6 := ⟨_, rfl⟩
    obtain ⟨capR, rfl⟩ : ∃ x, x = cap6 := ⟨_, rfl⟩
    have OX := O6.lt
    refine ⟨GS3, ?_⟩
    refine Dq (i := 8) rfl GS3 (fun _ _ => Y_build (cs := [_, _]) zr26 pc26 rfl rfl) ?_
    refine D_1 (i := 9) (by kernel_rfl) ?_
    refine E_alloc (cs := [_, _]) rfl zr26 rfl (fun b7 w7 fb7 g7 B7 => ⟨GS3.grow g7, ?_⟩)
    have lb7 := B7.lt
    replace hA := hA.grow g7
    replace hB := hB.grow g7
    replace BM := BM.grow g7
    replace OX := OX.grow g7
    replace G := G.grow g7
    replace GS3 := GS3.grow g7
    replace B1 := B1.grow g7
    replace B2 := B2.grow g7
    have zg7 := g7.size
    refine D_1 (i := 10) (by kernel_rfl) ?_
    refine E_stM (pre := []) (old := [_, _]) (post := []) (vs := [_, _]) (i := 10) rfl sz26 rfl rfl rfl (by first | rfl | assumption) B7 rfl rfl ?_
    intro w8 m8 X8
    replace B7 := Blk.eq (ys := [_, _]) X8 rfl
    clear X8
    replace G := G.abv m8
    replace GS3 := GS3.abv m8
    replace hA := hA0.grow G
    replace hB := hB0.grow G
    replace BM := BM.md m8
    replace OX := OX.md m8
    replace B1 := B1.md m8
    replace B2 := B2.md m8
    have zm8 := m8.size
    refine ⟨GS3, ?_⟩
    refine D_en (by kernel_rfl) rfl rfl ?_
    exact ⟨rfl, _, _, _, _, _, rfl, rfl, rfl, rfl, rfl, rfl, g3.grow GS3, B7, BM, OX.weak (fun i hi => by omega), ⟨by omega, by omega, by omega, by omega⟩⟩
   · -- operation 9 comes up
    refine E_alloc (cs := [_, _]) rfl zr26 rfl (fun b9 w9 fb9 g9 B9 => ⟨GS3.grow g9, ?_⟩)
    have lb9 := B9.lt
    replace hA := hA.grow g9
    replace hB := hB.grow g9
    replace BM := BM.grow g9
    replace G := G.grow g9
    replace GS3 := GS3.grow g9
    replace B1 := B1.grow g9
    replace B2 := B2.grow g9
    have zg9 := g9.size
    refine D_1 (i := 7) (by kernel_rfl) ?_
    refine E_call rfl rfl en99 (impl_clone_int__c _ _ _ _ _ (by assumption) (by omega)) ?_  -- k2 impl.clone[int]
    rintro v10 w10 ⟨A10, q10, cap10, rfl, hq10, O10, g10⟩
    replace hA := hA.grow g10
    replace hB := hB.grow g10
    replace BM := BM.grow g10
    replace G := G.grow g10
    replace GS3 := GS3.grow g10
    replace B1 := B1.grow g10
    replace B2 := B2.grow g10
    replace B9 := B9.grow g10
    have zg10 := g10.size
    subst hq10
    obtain ⟨AR, rfl⟩ : ∃ x, x = A10 := ⟨_, rfl⟩
    obtain ⟨capR, rfl⟩ : ∃ x, x = cap10 := ⟨_, rfl⟩
    have OX := O10.lt
    refine ⟨GS3, ?_⟩
    refine Dq (i := 8) rfl GS3 (fun _ _ => Y_build (cs := [_, _]) zr26 pc26 rfl rfl) ?_
    refine D_1 (i := 10) (by kernel_rfl) ?_
    refine E_stM (pre := []) (old := [_, _]) (post := []) (vs := [_, _]) (i := 10) rfl sz26 rfl rfl rfl (by first | rfl | assumption) B9 rfl rfl ?_
    intro w11 m11 X11
    replace B9 := Blk.eq (ys := [_, _]) X11 rfl
    clear X11
    replace G := G.abv m11
    replace GS3 := GS3.abv m11
    replace hA := hA0.grow G
    replace hB := hB0.grow G
    replace BM := BM.md m11
    replace OX := OX.md m11
    replace B1 := B1.md m11
    replace B2 := B2.md m11
    have zm11 := m11.size
    refine ⟨GS3, ?_⟩
    refine D_en (by kernel_rfl) rfl rfl ?_
    exact ⟨rfl, _, _, _, _, _, rfl, rfl, rfl, rfl, rfl, rfl, g3.grow GS3, B9, BM, OX.weak (fun i hi => by omega), ⟨by omega, by omega, by omega, by omega⟩⟩
  · -- operation 7 comes up
   refine E_call rfl rfl en99 (impl_clone_int__c _ _ _ _ _ (by assumption) (by omega)) ?_  -- k3 impl.clone[int]
   rintro v12 w12 ⟨A12, q12, cap12, rfl, hq12, O12, g12⟩
   replace hA := hA.grow g12
   replace hB := hB.grow g12
   replace G := G.grow g12
   replace GS3 := GS3.grow g12
   replace B1 := B1.grow g12
   replace B2 := B2.grow g12
   have zg12 := g12.size
   subst hq12
   obtain ⟨AR, rfl⟩ : ∃ x, x = A12 := ⟨_, rfl⟩
   obtain ⟨capR, rfl⟩ : ∃ x, x = cap12 := ⟨_, rfl⟩
   have OX := O12.lt
   refine ⟨GS3, ?_⟩
   refine D_2 (i := 4) (j := 9) (by kernel_rfl) ?_ ?_
   · -- operation 4 comes up
    refine E_make (i := 4) (n := h.cells.length + 1) (l := 0) (z := [.bool false, .int .i64 0, .slice none 0 0]) rfl Try.underlying23 zr37 sz37 by37 rfl rfl (by omega) (by omega) (by omega) ?_
    intro bm w13 fbm g13 BM
    have lbm := BM.lt
    refine ⟨GS3.grow g13, ?_⟩
    replace hA := hA.grow g13
    replace hB := hB.grow g13
    replace OX := OX.grow g13
    replace G := G.grow g13
    replace GS3 := GS3.grow g13
    replace B1 := B1.grow g13
    replace B2 := B2.grow g13
    have zg13 := g13.size
    refine Dq (i := 8) rfl GS3 (fun _ _ => Y_build (cs := [_, _]) zr26 pc26 rfl rfl) ?_
    refine D_1 (i := 9) (by kernel_rfl) ?_
    refine E_alloc (cs := [_, _]) rfl zr26 rfl (fun b14 w14 fb14 g14 B14 => ⟨GS3.grow g14, ?_⟩)
    have lb14 := B14.lt
    replace hA := hA.grow g14
    replace hB := hB.grow g14
    replace OX := OX.grow g14
    replace BM := BM.grow g14
    replace G := G.grow g14
    replace GS3 := GS3.grow g14
    replace B1 := B1.grow g14
    replace B2 := B2.grow g14
    have zg14 := g14.size
    refine D_1 (i := 10) (by kernel_rfl) ?_
    refine E_stM (pre := []) (old := [_, _]) (post := []) (vs := [_, _]) (i := 10) rfl sz26 rfl rfl rfl (by first | rfl | assumption) B14 rfl rfl ?_
    intro w15 m15 X15
    replace B14 := Blk.eq (ys := [_, _]) X15 rfl
    clear X15
    replace G := G.abv m15
    replace GS3 := GS3.abv m15
    replace hA := hA0.grow G
    replace hB := hB0.grow G
    replace OX := OX.md m15
    replace BM := BM.md m15
    replace B1 := B1.md m15
    replace B2 := B2.md m15
    have zm15 := m15.size
    refine ⟨GS3, ?_⟩
    refine D_en (by kernel_rfl) rfl rfl ?_
    exact ⟨rfl, _, _, _, _, _, rfl, rfl, rfl, rfl, rfl, rfl, g3.grow GS3, B14, BM, OX.weak (fun i hi => by omega), ⟨by omega, by omega, by omega, by omega⟩⟩
   · -- operation 9 comes up
    refine E_alloc (cs := [_, _]) rfl zr26 rfl (fun b16 w16 fb16 g16 B16 => ⟨GS3.grow g16, ?_⟩)
    have lb16 := B16.lt
    replace hA := hA.grow g16
    replace hB := hB.grow g16
    replace OX := OX.grow g16
    replace G := G.grow g16
    replace GS3 := GS3.grow g16
    replace B1 := B1.grow g16
    replace B2 := B2.grow g16
    have zg16 := g16.size
    refine D_1 (i := 4) (by kernel_rfl) ?_
    refine E_make (i := 4) (n := h.cells.length + 1) (l := 0) (z := [.bool false, .int .i64 0, .slice none 0 0]) rfl Try.underlying23 zr37 sz37 by37 rfl rfl (by omega) (by omega) (by omega) ?_
    intro bm w17 fbm g17 BM
    have lbm := BM.lt
    refine ⟨GS3.grow g17, ?_⟩
    replace hA := hA.grow g17
    replace hB := hB.grow g17
    replace OX := OX.grow g17
    replace G := G.grow g17
    replace GS3 := GS3.grow g17
    replace B1 := B1.grow g17
    replace B2 := B2.grow g17
    replace B16 := B16.grow g17
    have zg17 := g17.size
    refine Dq (i := 8) rfl GS3 (fun _ _ => Y_build (cs := [_, _]) zr26 pc26 rfl rfl) ?_
    refine D_1 (i := 10) (by kernel_rfl) ?_
    refine E_stM (pre := []) (old := [_, _]) (post := []) (vs := [_, _]) (i := 10) rfl sz26 rfl rfl rfl (by first | rfl | assumption) B16 rfl rfl ?_
    intro w18 m18 X18
    replace B16 := Blk.eq (ys := [_, _]) X18 rfl
    clear X18
    replace G := G.abv m18
    replace GS3 := GS3.abv m18
    replace hA := hA0.grow G
    replace hB := hB0.grow G
    replace OX := OX.md m18
    replace BM := BM.md m18
    replace B1 := B1.md m18
    replace B2 := B2.md m18
    have zm18 := m18.size
    refine ⟨GS3, ?_⟩
    refine D_en (by kernel_rfl) rfl rfl ?_
    exact ⟨rfl, _, _, _, _, _, rfl, rfl, rfl, rfl, rfl, rfl, g3.grow GS3, B16, BM, OX.weak (fun i hi => by omega), ⟨by omega, by omega, by omega, by omega⟩⟩
  · -- operation 9 comes up
   refine E_alloc (cs := [_, _]) rfl zr26 rfl (fun b19 w19 fb19 g19 B19 => ⟨GS3.grow g19, ?_⟩)
   have lb19 := B19.lt
   replace hA := hA.grow g19
   replace hB := hB.grow g19
   replace G := G.grow g19
   replace GS3 := GS3.grow g19
   replace B1 := B1.grow g19
   replace B2 := B2.grow g19
   have zg19 := g19.size
   refine D_2 (i := 4) (j := 7) (by kernel_rfl) ?_ ?_
   · -- operation 4 comes up
    refine E_make (i := 4) (n := h.cells.length + 1) (l := 0) (z := [.bool false, .int .i64 0, .slice none 0 0]) rfl Try.underlying23 zr37 sz37 by37 rfl rfl (by omega) (by omega) (by omega) ?_
    intro bm w20 fbm g20 BM
    have lbm := BM.lt
    refine ⟨GS3.grow g20, ?_⟩
    replace hA := hA.grow g20
    replace hB := hB.grow g20
    replace G := G.grow g20
    replace GS3 := GS3.grow g20
    replace B1 := B1.grow g20
    replace B2 := B2.grow g20
    replace B19 := B19.grow g20
    have zg20 := g20.size
    refine D_1 (i := 7) (by kernel_rfl) ?_
    refine E_call rfl rfl en99 (impl_clone_int__c _ _ _ _ _ (by assumption) (by omega)) ?_  -- k4 impl.clone[int]
    rintro v21 w21 ⟨A21, q21, cap21, rfl, hq21, O21, g21⟩
    replace hA := hA.grow g21
    replace hB := hB.grow g21
    replace BM := BM.grow g21
    replace G := G.grow g21
    replace GS3 := GS3.grow g21
    replace B1 := B1.grow g21
    replace B2 := B2.grow g21
    replace B19 := B19.grow g21
    have zg21 := g21.size
    subst hq21
    obtain ⟨AR, rfl⟩ : ∃ x, x = A21 := ⟨_, rfl⟩
    obtain ⟨capR, rfl⟩ : ∃ x, x = cap21 := ⟨_, rfl⟩
    have OX := O21.lt
    refine ⟨GS3, ?_⟩
    refine Dq (i := 8) rfl GS3 (fun _ _ => Y_build (cs := [_, _]) zr26 pc26 rfl rfl) ?_
    refine D_1 (i := 10) (by kernel_rfl) ?_
    refine E_stM (pre := []) (old := [_, _]) (post := []) (vs := [_, _]) (i := 10) rfl sz26 rfl rfl rfl (by first | rfl | assumption) B19 rfl rfl ?_
    intro w22 m22 X22
    replace B19 := Blk.eq (ys := [_, _]) X22 rfl
    clear X22
    replace G := G.abv m22
    replace GS3 := GS3.abv m22
    replace hA := hA0.grow G
    replace hB := hB0.grow G
    replace BM := BM.md m22
    replace OX := OX.md m22
    replace B1 := B1.md m22
    replace B2 := B2.md m22
    have zm22 := m22.size
    refine ⟨GS3, ?_⟩
    refine D_en (by kernel_rfl) rfl rfl ?_
    exact ⟨rfl, _, _, _, _, _, rfl, rfl, rfl, rfl, rfl, rfl, g3.grow GS3, B19, BM, OX.weak (fun i hi => by omega), ⟨by omega, by omega, by omega, by omega⟩⟩
   · -- operation 7 comes up
    refine E_call rfl rfl en99 (impl_clone_int__c _ _ _ _ _ (by assumption) (by omega)) ?_  -- k5 impl.clone[int]
    rintro v23 w23 ⟨A23, q23, cap23, rfl, hq23, O23, g23⟩
    replace hA := hA.grow g23
    replace hB := hB.grow g23
    replace G := G.grow g23
    replace GS3 := GS3.grow g23
    replace B1 := B1.grow g23
    replace B2 := B2.grow g23
    replace B19 := B19.grow g23
    have zg23 := g23.size
    subst hq23
    obtain ⟨AR, rfl⟩ : ∃ x, x = A23 := ⟨_, rfl⟩
    obtain ⟨capR, rfl⟩ : ∃ x, x = cap23 := ⟨_, rfl⟩
    have OX := O23.lt
    refine ⟨GS3, ?_⟩
    refine D_1 (i := 4) (by kernel_rfl) ?_
    refine E_make (i := 4) (n := h.cells.length + 1) (l := 0) (z := [.bool false, .int .i64 0, .slice none 0 0]) rfl Try.underlying23 zr37 sz37 by37 rfl rfl (by omega) (by omega) (by omega) ?_
    intro bm w24 fbm g24 BM
    have lbm := BM.lt
    refine ⟨GS3.grow g24, ?_⟩
    replace hA := hA.grow g24
    replace hB := hB.grow g24
    replace OX := OX.grow g24
    replace G := G.grow g24
    replace GS3 := GS3.grow g24
    replace B1 := B1.grow g24
    replace B2 := B2.grow g24
    replace B19 := B19.grow g24
    have zg24 := g24.size
    refine Dq (i := 8) rfl GS3 (fun _ _ => Y_build (cs := [_, _]) zr26 pc26 rfl rfl) ?_
    refine D_1 (i := 10) (by kernel_rfl) ?_
    refine E_stM (pre := []) (old := [_, _]) (post := []) (vs := [_, _]) (i := 10) rfl sz26 rfl rfl rfl (by first | rfl | assumption) B19 rfl rfl ?_
    intro w25 m25 X25
    replace B19 := Blk.eq (ys := [_, _]) X25 rfl
    clear X25
    replace G := G.abv m25
    replace GS3 := GS3.abv m25
    replace hA := hA0.grow G
    replace hB := hB0.grow G
    replace OX := OX.md m25
    replace BM := BM.md m25
    replace B1 := B1.md m25
    replace B2 := B2.md m25
    have zm25 := m25.size
    refine ⟨GS3, ?_⟩
    refine D_en (by kernel_rfl) rfl rfl ?_
    exact ⟨rfl, _, _, _, _, _, rfl, rfl, rfl, rfl, rfl, rfl, g3.grow GS3, B19, BM, OX.weak (fun i hi => by omega), ⟨by omega, by omega, by omega, by omega⟩⟩
 · -- behind the cut
  rintro a' w4 ⟨b3, bm, capR, AR, L, rfl, hL, hs0, hs1, hs2, hs3, gJ4, B3, BM, OX, hb39⟩
  obtain ⟨x, rfl⟩ : ∃ x : Nat → Value, L = [(.agg #[.slice A h.cells.length c, .slice B h.roots.length d]), (.pointer (some ⟨b1, 0, none⟩)), (.pointer (some ⟨b2, 0, none⟩)), (.pointer (some ⟨b3, 0, none⟩)), x 4, x 5, x 6, x 7, x 8, x 9, x 10, x 11, x 12, x 13, x 14, x 15, x 16, x 17, x 18, x 19, x 20, x 21, x 22, x 23, x 24, x 25, x 26, x 27, x 28, x 29, x 30, x 31, x 32, x 33, x 34, x 35, x 36] := ⟨fun i => L.getD i undef, (slots_eta L 37 hL).trans (by show [L.getD 0 undef, L.getD 1 undef, L.getD 2 undef, L.getD 3 undef, L.getD 4 undef, L.getD 5 undef, L.getD 6 undef, L.getD 7 undef, L.getD 8 undef, L.getD 9 undef, L.getD 10 undef, L.getD 11 undef, L.getD 12 undef, L.getD 13 undef, L.getD 14 undef, L.getD 15 undef, L.getD 16 undef, L.getD 17 undef, L.getD 18 undef, L.getD 19 undef, L.getD 20 undef, L.getD 21 undef, L.getD 22 undef, L.getD 23 undef, L.getD 24 undef, L.getD 25 undef, L.getD 26 undef, L.getD 27 undef, L.getD 28 undef, L.getD 29 undef, L.getD 30 undef, L.getD 31 undef, L.getD 32 undef, L.getD 33 undef, L.getD 34 undef, L.getD 35 undef, L.getD 36 undef] = _; rw [slot_d hs0, slot_d hs1, slot_d hs2, slot_d hs3])⟩
  clear hL hs0 hs1 hs2 hs3
  replace hA := hA.grow gJ4
  replace hB := hB.grow gJ4
  replace G := G.grow gJ4
  replace B1 := B1.grow gJ4
  replace B2 := B2.grow gJ4
  have zgJ4 := gJ4.size
  have lb3 := B3.lt
  obtain ⟨p1, p2, p3, p4⟩ := hb39
  refine th_n (hK2 _ _ ?_)
  clear hK2 K2
  refine wp_seq_k fun K3 hK3 => ?_
  refine wp_seq_k fun K4 hK4 => ?_
  refine Sb 37 rfl ?_  -- 2
  refine S_val (Y_field Try.underlying26 rfl fz26_0 (by decide) rfl) ?_
  refine S_val (Y_load Try.underlying23 rfl rfl (B1.at (by rfl))) ?_  -- l3
  refine S_val (Y_len Try.underlying23 rfl) ?_
  refine S_val (Y_move rfl) ?_
  refine S_nl rfl rfl ?_
  refine th_n (hK4 _ _ ?_)
  clear hK4 K4
  refine wp_block ?_
  obtain ⟨wz, hwz⟩ : ∃ x, x = w4.heap.size := ⟨_, rfl⟩
  have OC1 : OW (fun i => i = bm ∨ wz ≤ i) w4 37 3 (some ⟨bm, 0, none⟩) 0 (h.cells.length + 1) (flatC ([] : List LC) []) := OW.room BM rfl (by unfold maxLen; omega) (.inl rfl)
  have OR1 : ORs (fun i => wz ≤ i) w4 3 ([] : List LC) [] := ORs.nil _ _ _
  go_loopw [18] (fun u18 wr => (∃ (k q cap : Nat) (A1 : Option Addr) (rs : List (Option Addr × Nat)), u18 = .int .i64 k ∧ k ≤ h.cells.length ∧ q = k ∧ Blk wr b3 26 [.slice A1 q cap, .slice AR h.roots.length capR].toArray ∧ OW (fun i => i = bm ∨ wz ≤ i) wr 37 3 A1 q cap (flatC (h.cells.take k) rs) ∧ ORs (fun i => wz ≤ i) wr 3 (h.cells.take k) rs) ∧ Mod (fun i => i = b3 ∨ (i = bm ∨ wz ≤ i) ∨ wz ≤ i) w4 wr) (fun u18 wr => h.cells.length - (intOf u18).toNat)  -- L1
  case atStart =>
   refine ⟨?_, Mod.refl _ _⟩
   exact ⟨0, 0, _, _, [], rfl, by omega, rfl, B3, OC1, OR1⟩
  case round =>
   obtain ⟨w26, rfl⟩ : ∃ x : World, x = wr := ⟨_, rfl⟩
   obtain ⟨hrel, g26⟩ := hrel
   clear B3
   clear OC1
   clear OR1
   replace G := G.abv g26
   replace hA := hA0.grow G
   replace hB := hB0.grow G
   replace OX := OX.md g26
   replace B1 := B1.md g26
   replace B2 := B2.md g26
   have zg26 := g26.size
   obtain ⟨k, q1, cap1, A1, rs, rfl, hk, hq1, B3, OC1, OR1⟩ := hrel
   have hlk : (h.cells.take k).length = k := by simp; omega
   have GL26 := g26
   refine wp_seq_k fun K5 hK5 => ?_
   refine Sb 37 rfl ?_  -- 3
   refine S_val (Y_lss rfl rfl) ?_
   refine S_nl rfl rfl ?_
   refine th_n (hK5 _ _ ?_)
   clear hK5 K5
   refine wp_seq_k fun K6 hK6 => ?_
   refine S_if rfl (fun hb1 => ?_) (fun hb1 => ?_)  -- c1
   · -- c1T
    replace hb1 := nb_tt hb1
    have hk1 : k < h.cells.length := by omega
    obtain ⟨g2, o2, E2, d2, rfl, hp2, cc20, hE20⟩ := hA0.cell hk1
    have cc2 := cc20.grow G
    have hE2 := hE20.grow G
    have hr1 := hsize_refs h hk1
    replace OC1 := OC1.lt
    replace OR1 := OR1.lt
    refine wp_skip ?_
    refine th_n (hK6 _ _ ?_)
    clear hK6 K6
    refine wp_seq_k fun K7 hK7 => ?_
    refine wp_block ?_
    refine wp_seq_k fun K8 hK8 => ?_
    refine Sb 37 rfl ?_  -- 4
    refine S_val (Y_index Try.underlying23 sz37 rfl rfl (by first | assumption | omega)) ?_
    refine S_val (Y_loadS Try.underlying37 rfl sz37 rfl (by first | assumption | exact B1.row (by rfl) | exact B2.row (by rfl) | exact B3.row (by rfl))) ?_  -- l4
    refine S_alloc (cs := [_, _, _]) zr37 rfl ?_
    intro b27 w27 fb27 g27 B27
    have lb27 := B27.lt
    replace hA := hA.grow g27
    replace hB := hB.grow g27
    replace cc2 := cc2.grow g27
    replace hE2 := hE2.grow g27
    replace OX := OX.grow g27
    replace OC1 := OC1.grow g27
    replace OR1 := OR1.grow g27
    replace G := G.grow g27
    replace GL26 := GL26.grow g27
    replace B1 := B1.grow g27
    replace B2 := B2.grow g27
    replace B3 := B3.grow g27
    have zg27 := g27.size
    refine S_stM (pre := []) (old := [_, _, _]) (post := []) (vs := [_, _, _]) sz37 rfl rfl rfl (by first | rfl | assumption) B27 rfl rfl ?_
    intro w28 m28 X28
    replace B27 := Blk.eq (ys := [_, _, _]) X28 rfl
    clear X28
    replace G := G.abv m28
    first | replace GL26 := GL26.abv m28 | clear GL26
    replace hA := hA0.grow G
    replace hB := hB0.grow G
    replace cc2 := cc20.grow G
    replace hE2 := hE20.grow G
    replace OX := OX.md m28
    replace OC1 := OC1.md m28
    replace OR1 := OR1.md m28
    replace B1 := B1.md m28
    replace B2 := B2.md m28
    replace B3 := B3.md m28
    have zm28 := m28.size
    refine S_nl rfl rfl ?_
    refine th_n (hK8 _ _ ?_)
    clear hK8 K8
    refine D_start 14 37 (fun w => Mod (fun i => i = b3 ∨ ((i = bm ∨ wz ≤ i) ∧ i ≠ b27)) w) follows rfl rfl ?_  -- d2 r5
    intro w29 g29
    replace hA := hA.grow g29
    replace hB := hB.grow g29
    replace cc2 := cc2.grow g29
    replace hE2 := hE2.grow g29
    replace OX := OX.grow g29
    replace OC1 := OC1.grow g29
    replace OR1 := OR1.grow g29
    replace G := G.grow g29
    replace GL26 := GL26.grow g29
    replace B1 := B1.grow g29
    replace B2 := B2.grow g29
    replace B3 := B3.grow g29
    replace B27 := B27.grow g29
    have zg29 := g29.size
    have GS29 := Mod.refl (fun i => i = b3 ∨ ((i = bm ∨ wz ≤ i) ∧ i ≠ b27)) w29
    refine Dq (i := 0) rfl GS29 (fun _ _ => Y_field Try.underlying26 rfl fz26_0 (by decide) rfl) ?_
    refine Dq (i := 2) rfl GS29 (fun _ _ => Y_field Try.underlying37 rfl fz37_0 (by decide) rfl) ?_
    refine Dq (i := 3) rfl GS29 (fun _ hs => Y_load Try.underlying4 rfl rfl (by first | exact hs.cell (B27.at (by rfl)) (by intro h; first | omega | (dsimp only at h; omega)))) ?_
    refine Dq (i := 4) rfl GS29 (fun _ _ => Y_field Try.underlying37 rfl fz37_1 (by decide) rfl) ?_
    refine Dq (i := 5) rfl GS29 (fun _ hs => Y_load Try.underlying3 rfl rfl (by first | exact hs.cell (B27.at (by rfl)) (by intro h; first | omega | (dsimp only at h; omega)))) ?_
    refine Dq (i := 6) rfl GS29 (fun _ _ => Y_field Try.underlying37 rfl fz37_2 (by decide) rfl) ?_
    refine Dq (i := 7) rfl GS29 (fun _ hs => Y_load Try.underlying24 rfl rfl (by first | exact hs.cell (B27.at (by rfl)) (by intro h; first | omega | (dsimp only at h; omega)))) ?_
    refine D_2 (i := 1) (j := 8) (by kernel_rfl) ?_ ?_
    · -- operation 1 comes up
     refine E_val (i := 1) rfl (Y_load Try.underlying23 rfl rfl (B3.at (by rfl))) GS29 ?_
     refine D_1 (i := 8) (by kernel_rfl) ?_
     refine E_call rfl rfl en99 (impl_clone_int__c _ _ _ _ _ hE2 (by omega)) ?_  -- k6 impl.clone[int]
     rintro v31 w31 ⟨A31, q31, cap31, rfl, hq31, O31, g31⟩
     replace hA := hA.grow g31
     replace hB := hB.grow g31
     replace cc2 := cc2.grow g31
     replace hE2 := hE2.grow g31
     replace OX := OX.grow g31
     replace OC1 := OC1.grow g31
     replace OR1 := OR1.grow g31
     replace G := G.grow g31
     replace GL26 := GL26.grow g31
     replace GS29 := GS29.grow g31
     replace B1 := B1.grow g31
     replace B2 := B2.grow g31
     replace B3 := B3.grow g31
     replace B27 := B27.grow g31
     have zg31 := g31.size
     subst hq31
     obtain ⟨AY, rfl⟩ : ∃ x, x = A31 := ⟨_, rfl⟩
     obtain ⟨capY, rfl⟩ : ∃ x, x = cap31 := ⟨_, rfl⟩
     have OY := O31
     refine ⟨GS29, ?_⟩
     refine Dq (i := 9) rfl GS29 (fun _ _ => Y_build (cs := [_, _, _]) zr37 pc37 rfl rfl) ?_
     refine D_1 (i := 10) (by kernel_rfl) ?_
     refine E_bs1 (cs := [_, _, _]) (i := 10) rfl Try.underlying23 zr37 sz37 rfl rfl rfl ?_
     intro b32 w32 fb32 g32 B32
     refine ⟨GS29.grow g32, ?_⟩
     have lb32 := B32.lt
     replace hA := hA.grow g32
     replace hB := hB.grow g32
     replace cc2 := cc2.grow g32
     replace hE2 := hE2.grow g32
     replace OX := OX.grow g32
     replace OC1 := OC1.grow g32
     replace OR1 := OR1.grow g32
     replace OY := OY.grow g32
     replace G := G.grow g32
     replace GL26 := GL26.grow g32
     replace GS29 := GS29.grow g32
     replace B1 := B1.grow g32
     replace B2 := B2.grow g32
     replace B3 := B3.grow g32
     replace B27 := B27.grow g32
     have zg32 := g32.size
     refine D_1 (i := 11) (by kernel_rfl) ?_
     refine E_app2 (i := 11) rfl Try.underlying23 zr37 sz37 by37 rfl rfl OC1 rfl (Src.blk B32) (by simp [Value.oneCell']) (by omega) (Pr' := fun i => (i = bm ∨ wz ≤ i) ∧ i ≠ b27) (fun i hi => by omega) (by omega) ?_
     intro A33 cap33 w33 X33 m33 n33
     replace OR1 := OR1.app OC1 hne n33
     replace OC1 := X33
     clear X33 n33
     replace G := G.abv m33
     replace GL26 := GL26.trn m33
     replace GS29 := GS29.trn m33
     replace hA := hA0.grow G
     replace hB := hB0.grow G
     replace cc2 := cc20.grow G
     replace hE2 := hE20.grow G
     replace OX := OX.md m33
     replace OY := OY.md m33
     replace B1 := B1.md m33
     replace B2 := B2.md m33
     replace B3 := B3.md m33
     replace B27 := B27.md m33
     have zm33 := m33.size
     refine ⟨GS29, ?_⟩
     have OR2 := OR1.more (c := h.cells[k]) OY (fun i hi => by omega) (Pr' := fun i => wz ≤ i) (fun i hi => by omega) (fun i hi => by omega)
     replace OC1 : OW (fun i => (i = bm ∨ wz ≤ i) ∧ i ≠ b27) w33 37 3 A33 (q1 + 1) cap33 (flatC (h.cells.take (k + 1)) (rs ++ [(AY, capY)])) := by rw [List.take_succ_eq_append_getElem hk1, ← flat_more OR1.len]; exact OC1
     rw [← List.take_succ_eq_append_getElem hk1] at OR2
     refine Dq (i := 12) rfl GS29 (fun _ _ => Y_field Try.underlying26 rfl fz26_0 (by decide) rfl) ?_
     refine D_1 (i := 13) (by kernel_rfl) ?_
     refine E_stM (pre := []) (old := [_]) (post := [_]) (vs := [_]) (i := 13) rfl sz23 rfl rfl rfl (by first | rfl | assumption) B3 rfl rfl ?_
     intro w34 m34 X34
     replace B3 := Blk.eq (ys := [_, _]) X34 rfl
     clear X34
     replace G := G.abv m34
     replace GL26 := GL26.trn m34
     replace GS29 := GS29.trn m34
     replace hA := hA0.grow G
     replace hB := hB0.grow G
     replace cc2 := cc20.grow G
     replace hE2 := hE20.grow G
     replace OX := OX.md m34
     replace OC1 := OC1.md m34
     replace OR2 := OR2.md m34
     replace B1 := B1.md m34
     replace B2 := B2.md m34
     replace B27 := B27.md m34
     have zm34 := m34.size
     refine ⟨GS29, ?_⟩
     refine D_en (by kernel_rfl) rfl rfl ?_
     refine ib_n ?_
     refine th_n (hK7 _ _ ?_)
     clear hK7 K7
     refine Sb 37 rfl ?_  -- 6
     refine S_val (Y_inc rfl rfl (by omega)) ?_
     refine S_val (Y_move rfl) ?_
     refine S_nl rfl rfl ?_
     refine th_n ?_
     go_roundw  -- e1 of L1
     case rel =>
      refine ⟨?_, GL26⟩
      exact ⟨k + 1, _, _, _, _, rfl, by omega, by omega, B3, OC1.weak (fun i hi => hi.1), OR2⟩
     case measure =>
      exact dec_nat (by omega)
    · -- operation 8 comes up
     refine E_call rfl rfl en99 (impl_clone_int__c _ _ _ _ _ hE2 (by omega)) ?_  -- k7 impl.clone[int]
     rintro v35 w35 ⟨A35, q35, cap35, rfl, hq35, O35, g35⟩
     replace hA := hA.grow g35
     replace hB := hB.grow g35
     replace cc2 := cc2.grow g35
     replace hE2 := hE2.grow g35
     replace OX := OX.grow g35
     replace OC1 := OC1.grow g35
     replace OR1 := OR1.grow g35
     replace G := G.grow g35
     replace GL26 := GL26.grow g35
     replace GS29 := GS29.grow g35
     replace B1 := B1.grow g35
     replace B2 := B2.grow g35
     replace B3 := B3.grow g35
     replace B27 := B27.grow g35
     have zg35 := g35.size
     subst hq35
     obtain ⟨AY, rfl⟩ : ∃ x, x = A35 := ⟨_, rfl⟩
     obtain ⟨capY, rfl⟩ : ∃ x, x = cap35 := ⟨_, rfl⟩
     have OY := O35
     refine ⟨GS29, ?_⟩
     refine Dq (i := 9) rfl GS29 (fun _ _ => Y_build (cs := [_, _, _]) zr37 pc37 rfl rfl) ?_
     refine D_2 (i := 1) (j := 10) (by kernel_rfl) ?_ ?_
     · -- operation 1 comes up
      refine E_val (i := 1) rfl (Y_load Try.underlying23 rfl rfl (B3.at (by rfl))) GS29 ?_
      refine D_1 (i := 10) (by kernel_rfl) ?_
      refine E_bs1 (cs := [_, _, _]) (i := 10) rfl Try.underlying23 zr37 sz37 rfl rfl rfl ?_
      intro b37 w37 fb37 g37 B37
      refine ⟨GS29.grow g37, ?_⟩
      have lb37 := B37.lt
      replace hA := hA.grow g37
      replace hB := hB.grow g37
      replace cc2 := cc2.grow g37
      replace hE2 := hE2.grow g37
      replace OX := OX.grow g37
      replace OC1 := OC1.grow g37
      replace OR1 := OR1.grow g37
      replace OY := OY.grow g37
      replace G := G.grow g37
      replace GL26 := GL26.grow g37
      replace GS29 := GS29.grow g37
      replace B1 := B1.grow g37
      replace B2 := B2.grow g37
      replace B3 := B3.grow g37
      replace B27 := B27.grow g37
      have zg37 := g37.size
      refine D_1 (i := 11) (by kernel_rfl) ?_
      refine E_app2 (i := 11) rfl Try.underlying23 zr37 sz37 by37 rfl rfl OC1 rfl (Src.blk B37) (by simp [Value.oneCell']) (by omega) (Pr' := fun i => (i = bm ∨ wz ≤ i) ∧ i ≠ b27) (fun i hi => by omega) (by omega) ?_
      intro A38 cap38 w38 X38 m38 n38
      replace OR1 := OR1.app OC1 hne n38
      replace OC1 := X38
      clear X38 n38
      replace G := G.abv m38
      replace GL26 := GL26.trn m38
      replace GS29 := GS29.trn m38
      replace hA := hA0.grow G
      replace hB := hB0.grow G
      replace cc2 := cc20.grow G
      replace hE2 := hE20.grow G
      replace OX := OX.md m38
      replace OY := OY.md m38
      replace B1 := B1.md m38
      replace B2 := B2.md m38
      replace B3 := B3.md m38
      replace B27 := B27.md m38
      have zm38 := m38.size
      refine ⟨GS29, ?_⟩
      have OR2 := OR1.more (c := h.cells[k]) OY (fun i hi => by omega) (Pr' := fun i => wz ≤ i) (fun i hi => by omega) (fun i hi => by omega)
      replace OC1 : OW (fun i => (i = bm ∨ wz ≤ i) ∧ i ≠ b27) w38 37 3 A38 (q1 + 1) cap38 (flatC (h.cells.take (k + 1)) (rs ++ [(AY, capY)])) := by rw [List.take_succ_eq_append_getElem hk1, ← flat_more OR1.len]; exact OC1
      rw [← List.take_succ_eq_append_getElem hk1] at OR2
      refine Dq (i := 12) rfl GS29 (fun _ _ => Y_field Try.underlying26 rfl fz26_0 (by decide) rfl) ?_
      refine D_1 (i := 13) (by kernel_rfl) ?_
      refine E_stM (pre := []) (old := [_]) (post := [_]) (vs := [_]) (i := 13) rfl sz23 rfl rfl rfl (by first | rfl | assumption) B3 rfl rfl ?_
      intro w39 m39 X39
      replace B3 := Blk.eq (ys := [_, _]) X39 rfl
      clear X39
      replace G := G.abv m39
      replace GL26 := GL26.trn m39
      replace GS29 := GS29.trn m39
      replace hA := hA0.grow G
      replace hB := hB0.grow G
      replace cc2 := cc20.grow G
      replace hE2 := hE20.grow G
      replace OX := OX.md m39
      replace OC1 := OC1.md m39
      replace OR2 := OR2.md m39
      replace B1 := B1.md m39
      replace B2 := B2.md m39
      replace B27 := B27.md m39
      have zm39 := m39.size
      refine ⟨GS29, ?_⟩
      refine D_en (by kernel_rfl) rfl rfl ?_
      refine ib_n ?_
      refine th_n (hK7 _ _ ?_)
      clear hK7 K7
      refine Sb 37 rfl ?_  -- 6
      refine S_val (Y_inc rfl rfl (by omega)) ?_
      refine S_val (Y_move rfl) ?_
      refine S_nl rfl rfl ?_
      refine th_n ?_
      go_roundw  -- e2 of L1
      case rel =>
       refine ⟨?_, GL26⟩
       exact ⟨k + 1, _, _, _, _, rfl, by omega, by omega, B3, OC1.weak (fun i hi => hi.1), OR2⟩
      case measure =>
       exact dec_nat (by omega)
     · -- operation 10 comes up
      refine E_bs1 (cs := [_, _, _]) (i := 10) rfl Try.underlying23 zr37 sz37 rfl rfl rfl ?_
      intro b40 w40 fb40 g40 B40
      refine ⟨GS29.grow g40, ?_⟩
      have lb40 := B40.lt
      replace hA := hA.grow g40
      replace hB := hB.grow g40
      replace cc2 := cc2.grow g40
      replace hE2 := hE2.grow g40
      replace OX := OX.grow g40
      replace OC1 := OC1.grow g40
      replace OR1 := OR1.grow g40
      replace OY := OY.grow g40
      replace G := G.grow g40
      replace GL26 := GL26.grow g40
      replace GS29 := GS29.grow g40
      replace B1 := B1.grow g40
      replace B2 := B2.grow g40
      replace B3 := B3.grow g40
      replace B27 := B27.grow g40
      have zg40 := g40.size
      refine D_1 (i := 1) (by kernel_rfl) ?_
      refine E_val (i := 1) rfl (Y_load Try.underlying23 rfl rfl (B3.at (by rfl))) GS29 ?_
      refine D_1 (i := 11) (by kernel_rfl) ?_
      refine E_app2 (i := 11) rfl Try.underlying23 zr37 sz37 by37 rfl rfl OC1 rfl (Src.blk B40) (by simp [Value.oneCell']) (by omega) (Pr' := fun i => (i = bm ∨ wz ≤ i) ∧ i ≠ b27) (fun i hi => by omega) (by omega) ?_
      intro A42 cap42 w42 X42 m42 n42
      replace OR1 := OR1.app OC1 hne n42
      replace OC1 := X42
      clear X42 n42
      replace G := G.abv m42
      replace GL26 := GL26.trn m42
      replace GS29 := GS29.trn m42
      replace hA := hA0.grow G
      replace hB := hB0.grow G
      replace cc2 := cc20.grow G
      replace hE2 := hE20.grow G
      replace OX := OX.md m42
      replace OY := OY.md m42
      replace B1 := B1.md m42
      replace B2 := B2.md m42
      replace B3 := B3.md m42
      replace B27 := B27.md m42
      have zm42 := m42.size
      refine ⟨GS29, ?_⟩
      have OR2 := OR1.more (c := h.cells[k]) OY (fun i hi => by omega) (Pr' := fun i => wz ≤ i) (fun i hi => by omega) (fun i hi => by omega)
      replace OC1 : OW (fun i => (i = bm ∨ wz ≤ i) ∧ i ≠ b27) w42 37 3 A42 (q1 + 1) cap42 (flatC (h.cells.take (k + 1)) (rs ++ [(AY, capY)])) := by rw [List.take_succ_eq_append_getElem hk1, ← flat_more OR1.len]; exact OC1
      rw [← List.take_succ_eq_append_getElem hk1] at OR2
      refine Dq (i := 12) rfl GS29 (fun _ _ => Y_field Try.underlying26 rfl fz26_0 (by decide) rfl) ?_
      refine D_1 (i := 13) (by kernel_rfl) ?_
      refine E_stM (pre := []) (old := [_]) (post := [_]) (vs := [_]) (i := 13) rfl sz23 rfl rfl rfl (by first | rfl | assumption) B3 rfl rfl ?_
      intro w43 m43 X43
      replace B3 := Blk.eq (ys := [_, _]) X43 rfl
      clear X43
      replace G := G.abv m43
      replace GL26 := GL26.trn m43
      replace GS29 := GS29.trn m43
      replace hA := hA0.grow G
      replace hB := hB0.grow G
      replace cc2 := cc20.grow G
      replace hE2 := hE20.grow G
      replace OX := OX.md m43
      replace OC1 := OC1.md m43
      replace OR2 := OR2.md m43
      replace B1 := B1.md m43
      replace B2 := B2.md m43
      replace B27 := B27.md m43
      have zm43 := m43.size
      refine ⟨GS29, ?_⟩
      refine D_en (by kernel_rfl) rfl rfl ?_
      refine ib_n ?_
      refine th_n (hK7 _ _ ?_)
      clear hK7 K7
      refine Sb 37 rfl ?_  -- 6
      refine S_val (Y_inc rfl rfl (by omega)) ?_
      refine S_val (Y_move rfl) ?_
      refine S_nl rfl rfl ?_
      refine th_n ?_
      go_roundw  -- e3 of L1
      case rel =>
       refine ⟨?_, GL26⟩
       exact ⟨k + 1, _, _, _, _, rfl, by omega, by omega, B3, OC1.weak (fun i hi => hi.1), OR2⟩
      case measure =>
       exact dec_nat (by omega)
   · -- c1F
    replace hb1 := nb_tf hb1
    refine wp_exit ?_
    refine th_x ?_
    try clear GL26
    refine th_x ?_
    refine ib_e ?_
    refine th_n (hK3 _ _ ?_)
    clear hK6 K6 hK3 K3
    refine wp_seq_k fun K9 hK9 => ?_
    refine Sb 37 rfl ?_  -- 7
    refine S_val (Y_loadS Try.underlying26 rfl sz26 rfl (B3.row (by rfl))) ?_  -- l8
    refine S_stM (pre := []) (old := [_, _]) (post := []) (vs := [_, _]) sz26 rfl rfl rfl (by first | rfl | assumption) B2 rfl rfl ?_
    intro w44 m44 X44
    replace B2 := Blk.eq (ys := [_, _]) X44 rfl
    clear X44
    replace G := G.abv m44
    replace hA := hA0.grow G
    replace hB := hB0.grow G
    replace OX := OX.md m44
    replace OC1 := OC1.md m44
    replace OR1 := OR1.md m44
    replace B1 := B1.md m44
    replace B3 := B3.md m44
    have zm44 := m44.size
    refine S_nl rfl rfl ?_
    refine th_n (hK9 _ _ ?_)
    clear hK9 K9
    refine wp_ret ?_
    refine ret_rc (cs := [_, _]) Try.underlying26 rfl sz26 rfl rfl (B2.row (by rfl)) ?_  -- r1
    rw [List.take_of_length_le (by omega)] at hlk OC1 OR1
    rw [hq1, ← hlk] at OC1
    exact ⟨_, _, _, _, _, _, rs, rfl, by omega, rfl, OH.of_parts (h := h) (OC.grown OC1 OR1 (fun _ h => h) (fun _ h => .inr h)) OX.oi (fun k b h1 h2 h3 => by omega) (fun k hk => by omega) (fun k hk => by omega), G⟩
set_option maxHeartbeats 400000 in
set_option maxRecDepth 20000 in
theorem spec_l7Copy_c (Pr : Nat → Prop) (A B : Option Addr) (h : LH) (c d : Nat) (w : World) (hA : RC Pr w A h.cells) (hB : R1 Pr w B (ints h.roots)) (hz : hsize h ≤ 1048576) :
    Calls Try.prog 77 #[.agg #[.slice A h.cells.length c, .slice B h.roots.length d]] w (Ret fun v w' => ∃ A1 B1 n1 c1 n2 c2 rs, v = .agg #[.slice A1 n1 c1, .slice B1 n2 c2] ∧ n1 = (h).cells.length ∧ n2 = (h).roots.length ∧ OH (fun i => w.heap.size ≤ i) w' 37 3 A1 B1 (h) rs ∧ Grow w w') := by
 have hz1 := hsize_cells h
 have hz2 := hsize_roots h
 have hne : (37 : TypeId) ≠ 3 := by decide
 have hAl := hA.below
 have hBl := hB.below
 refine enter Try.func77 rfl Try.ntmps77 (L := [_,_,_,_,_,_,_,_,_,_,_,_,_,_,_,_,_,_,_,_,_,_,_,_,_,_,_,_,_,_,_,_,_,_,_,_,_,_,_,_,_,_,_,_]) rfl ?_
 have G := Mod.refl No w
 have hAl0 := hAl
 have hBl0 := hBl
 refine wp_seq_k fun K1 hK1 => ?_
 refine Sb 44 rfl ?_  -- 0
 refine S_box (cs := [_, _]) rfl rfl ?_
 intro b1 w1 fb1 g1 B1
 have lb1 := B1.lt
 replace hAl := hAl.grow g1
 replace hBl := hBl.grow g1
 replace G := G.grow g1
 have zg1 := g1.size
 refine S_alloc (cs := [_, _]) zr26 rfl ?_
 intro b2 w2 fb2 g2 B2
 have lb2 := B2.lt
 replace hAl := hAl.grow g2
 replace hBl := hBl.grow g2
 replace G := G.grow g2
 replace B1 := B1.grow g2
 have zg2 := g2.size
 refine S_nl rfl rfl ?_
 refine th_n (hK1 _ _ ?_)
 clear hK1 K1
 refine wp_seq_k fun K2 hK2 => ?_
 refine Sb 44 rfl ?_  -- 1
 refine S_bs0 Try.underlying24 sz3 ?_
 intro b3 w3 fb3 g3 B3
 have lb3 := B3.lt
 replace hAl := hAl.grow g3
 replace hBl := hBl.grow g3
 replace G := G.grow g3
 replace B1 := B1.grow g3
 replace B2 := B2.grow g3
 have zg3 := g3.size
 refine S_val (Y_field Try.underlying26 rfl fz26_1 (by decide) rfl) ?_
 refine S_val (Y_load Try.underlying24 rfl rfl (B1.at (by rfl))) ?_  -- l1
 have OY : OW (fun i => b2 < i) w3 3 1 (some ⟨b3, 0, none⟩) 0 0 [] := OW.of_blk B3 rfl (by decide) (by omega)
 refine S_app0 (news := ints h.roots) Try.underlying24 zr3 sz3 by3 rfl rfl OY (by rw [ints_len]; omega) (by have hsr := Src.r1 hBl; rw [ints_len] at hsr; exact hsr) ints_one (by omega) (Pr' := fun i => b2 < i) (fun i hi => hi) (by omega) ?_
 intro A4 cap4 w4 X4 m4
 replace OY := X4
 clear X4
 replace G := G.abv m4
 replace hAl := hAl0.grow G
 replace hBl := hBl0.grow G
 replace B1 := B1.md m4
 replace B2 := B2.md m4
 have zm4 := m4.size
 have OX := OY.lt
 obtain ⟨AR, rfl⟩ : ∃ x, x = A4 := ⟨_, rfl⟩
 obtain ⟨capR, rfl⟩ : ∃ x, x = cap4 := ⟨_, rfl⟩
 clear OY
 refine S_val (Y_build (cs := [_, _]) zr26 pc26 rfl rfl) ?_
 refine S_alloc (cs := [_, _]) zr26 rfl ?_
 intro b5 w5 fb5 g5 B5
 have lb5 := B5.lt
 replace hAl := hAl.grow g5
 replace hBl := hBl.grow g5
 replace OX := OX.grow g5
 replace G := G.grow g5
 replace B1 := B1.grow g5
 replace B2 := B2.grow g5
 have zg5 := g5.size
 refine S_stM (pre := []) (old := [_, _]) (post := []) (vs := [_, _]) sz26 rfl rfl rfl (by first | rfl | assumption) B5 rfl rfl ?_
 intro w6 m6 X6
 replace B5 := Blk.eq (ys := [_, _]) X6 rfl
 clear X6
 replace G := G.abv m6
 replace hAl := hAl0.grow G
 replace hBl := hBl0.grow G
 replace OX := OX.md m6
 replace B1 := B1.md m6
 replace B2 := B2.md m6
 have zm6 := m6.size
 refine S_nl rfl rfl ?_
 refine th_n (hK2 _ _ ?_)
 clear hK2 K2
 refine wp_seq_k fun K3 hK3 => ?_
 refine wp_seq_k fun K4 hK4 => ?_
 refine Sb 44 rfl ?_  -- 2
 refine S_val (Y_assign rfl) ?_
 refine S_nl rfl rfl ?_
 refine th_n (hK4 _ _ ?_)
 clear hK4 K4
 refine wp_block ?_
 obtain ⟨wz, hwz⟩ : ∃ x, x = w6.heap.size := ⟨_, rfl⟩
 have OC1 : OW (fun i => wz ≤ i) w6 37 3 none 0 0 (flatC ([] : List LC) []) := OW.nil _ _ _ _
 have OR1 : ORs (fun i => wz ≤ i) w6 3 ([] : List LC) [] := ORs.nil _ _ _
 go_loopw [4] (fun u4 wr => (∃ (k q cap : Nat) (A1 : Option Addr) (rs : List (Option Addr × Nat)), u4 = .int .i64 k ∧ k ≤ h.cells.length ∧ q = k ∧ Blk wr b5 26 [.slice A1 q cap, .slice AR h.roots.length capR].toArray ∧ OW (fun i => wz ≤ i) wr 37 3 A1 q cap (flatC (h.cells.take k) rs) ∧ ORs (fun i => wz ≤ i) wr 3 (h.cells.take k) rs) ∧ Mod (fun i => i = b5 ∨ (wz ≤ i) ∨ wz ≤ i) w6 wr) (fun u4 wr => h.cells.length - (intOf u4).toNat)  -- L1
 case atStart =>
  refine ⟨?_, Mod.refl _ _⟩
  exact ⟨0, 0, _, _, [], rfl, by omega, rfl, B5, OC1, OR1⟩
 case round =>
  obtain ⟨w7, rfl⟩ : ∃ x : World, x = wr := ⟨_, rfl⟩
  obtain ⟨hrel, g7⟩ := hrel
  clear B5
  clear OC1
  clear OR1
  replace G := G.abv g7
  replace hAl := hAl0.grow G
  replace hBl := hBl0.grow G
  replace OX := OX.md g7
  replace B1 := B1.md g7
  replace B2 := B2.md g7
  have zg7 := g7.size
  obtain ⟨k, q1, cap1, A1, rs, rfl, hk, hq1, B5, OC1, OR1⟩ := hrel
  have hlk : (h.cells.take k).length = k := by simp; omega
  have GL7 := g7
  refine wp_seq_k fun K5 hK5 => ?_
  refine wp_seq_k fun K6 hK6 => ?_
  refine Sb 44 rfl ?_  -- 3
  refine S_val (Y_move rfl) ?_
  refine S_val (Y_field Try.underlying26 rfl fz26_0 (by decide) rfl) ?_
  refine S_val (Y_load Try.underlying23 rfl rfl (B1.at (by rfl))) ?_  -- l2
  refine S_val (Y_len Try.underlying23 rfl) ?_
  refine S_val (Y_lss rfl rfl) ?_
  refine S_nl rfl rfl ?_
  refine th_n (hK6 _ _ ?_)
  clear hK6 K6
  refine S_if rfl (fun hb1 => ?_) (fun hb1 => ?_)  -- c1
  · -- c1T
   replace hb1 := nb_tt hb1
   have hk1 : k < h.cells.length := by omega
   obtain ⟨g2, o2, E2, d2, rfl, hp2, cc20, hE20⟩ := hAl0.cell hk1
   have cc2 := cc20.grow G
   have hE2 := hE20.grow G
   have hr1 := hsize_refs h hk1
   replace OC1 := OC1.lt
   replace OR1 := OR1.lt
   refine wp_skip ?_
   refine th_n (hK5 _ _ ?_)
   clear hK5 K5
   refine wp_seq_k fun K7 hK7 => ?_
   refine wp_block ?_
   refine D_start 27 44 (fun w => Mod (fun i => i = b5 ∨ wz ≤ i) w) follows rfl rfl ?_  -- d1 r5
   intro w8 g8
   replace hAl := hAl.grow g8
   replace hBl := hBl.grow g8
   replace cc2 := cc2.grow g8
   replace hE2 := hE2.grow g8
   replace OX := OX.grow g8
   replace OC1 := OC1.grow g8
   replace OR1 := OR1.grow g8
   replace G := G.grow g8
   replace GL7 := GL7.grow g8
   replace B1 := B1.grow g8
   replace B2 := B2.grow g8
   replace B5 := B5.grow g8
   have zg8 := g8.size
   have GS8 := Mod.refl (fun i => i = b5 ∨ wz ≤ i) w8
   refine Dq (i := 0) rfl GS8 (fun _ _ => Y_field Try.underlying26 rfl fz26_0 (by decide) rfl) ?_
   refine Dq (i := 2) rfl GS8 (fun _ _ => Y_field Try.underlying26 rfl fz26_0 (by decide) rfl) ?_
   refine Dq (i := 3) rfl GS8 (fun _ hs => Y_load Try.underlying23 rfl rfl (by first | exact hs.cell (B1.at (by rfl)) (by intro h; first | omega | (dsimp only at h; omega)))) ?_
   refine Dq (i := 4) rfl GS8 (fun _ _ => Y_move rfl) ?_
   refine Dq (i := 5) rfl GS8 (fun _ _ => Y_index Try.underlying23 sz37 rfl rfl (by first | assumption | omega)) ?_
   refine Dq (i := 6) rfl GS8 (fun _ _ => Y_field Try.underlying37 rfl fz37_0 (by decide) rfl) ?_
   refine Dq (i := 7) rfl GS8 (fun _ hs => Y_load Try.underlying4 rfl rfl (by first | exact hs.cell (by assumption) (by intro h; first | omega | (dsimp only at h; omega)) | exact hs.cell (cc2.at (by rfl)) (by intro h; first | omega | (dsimp only at h; omega)) | exact hs.cell (B1.at (by rfl)) (by intro h; first | omega | (dsimp only at h; omega)) | exact hs.cell (B2.at (by rfl)) (by intro h; first | omega | (dsimp only at h; omega)) | exact hs.cell (B5.at (by rfl)) (by intro h; first | omega | (dsimp only at h; omega)))) ?_
   refine Dq (i := 8) rfl GS8 (fun _ _ => Y_field Try.underlying26 rfl fz26_0 (by decide) rfl) ?_
   refine Dq (i := 9) rfl GS8 (fun _ hs => Y_load Try.underlying23 rfl rfl (by first | exact hs.cell (B1.at (by rfl)) (by intro h; first | omega | (dsimp only at h; omega)))) ?_
   refine Dq (i := 10) rfl GS8 (fun _ _ => Y_move rfl) ?_
   refine Dq (i := 11) rfl GS8 (fun _ _ => Y_index Try.underlying23 sz37 rfl rfl (by first | assumption | omega)) ?_
   refine Dq (i := 12) rfl GS8 (fun _ _ => Y_field Try.underlying37 rfl fz37_1 (by decide) rfl) ?_
   refine Dq (i := 13) rfl GS8 (fun _ hs => Y_load Try.underlying3 rfl rfl (by first | exact hs.cell (by assumption) (by intro h; first | omega | (dsimp only at h; omega)) | exact hs.cell (cc2.at (by rfl)) (by intro h; first | omega | (dsimp only at h; omega)) | exact hs.cell (B1.at (by rfl)) (by intro h; first | omega | (dsimp only at h; omega)) | exact hs.cell (B2.at (by rfl)) (by intro h; first | omega | (dsimp only at h; omega)) | exact hs.cell (B5.at (by rfl)) (by intro h; first | omega | (dsimp only at h; omega)))) ?_
   refine Dq (i := 15) rfl GS8 (fun _ _ => Y_field Try.underlying26 rfl fz26_0 (by decide) rfl) ?_
   refine Dq (i := 16) rfl GS8 (fun _ hs => Y_load Try.underlying23 rfl rfl (by first | exact hs.cell (B1.at (by rfl)) (by intro h; first | omega | (dsimp only at h; omega)))) ?_
   refine Dq (i := 17) rfl GS8 (fun _ _ => Y_move rfl) ?_
   refine Dq (i := 18) rfl GS8 (fun _ _ => Y_index Try.underlying23 sz37 rfl rfl (by first | assumption | omega)) ?_
   refine Dq (i := 19) rfl GS8 (fun _ _ => Y_field Try.underlying37 rfl fz37_2 (by decide) rfl) ?_
   refine Dq (i := 20) rfl GS8 (fun _ hs => Y_load Try.underlying24 rfl rfl (by first | exact hs.cell (by assumption) (by intro h; first | omega | (dsimp only at h; omega)) | exact hs.cell (cc2.at (by rfl)) (by intro h; first | omega | (dsimp only at h; omega)) | exact hs.cell (B1.at (by rfl)) (by intro h; first | omega | (dsimp only at h; omega)) | exact hs.cell (B2.at (by rfl)) (by intro h; first | omega | (dsimp only at h; omega)) | exact hs.cell (B5.at (by rfl)) (by intro h; first | omega | (dsimp only at h; omega)))) ?_
   refine D_2 (i := 1) (j := 14) (by kernel_rfl) ?_ ?_
   · -- operation 1 comes up
    refine E_val (i := 1) rfl (Y_load Try.underlying23 rfl rfl (B5.at (by rfl))) GS8 ?_
    refine D_1 (i := 14) (by kernel_rfl) ?_
    refine E_bs0 (i := 14) rfl Try.underlying24 sz3 ?_
    intro b10 w10 fb10 g10 B10
    refine ⟨GS8.grow g10, ?_⟩
    have lb10 := B10.lt
    replace hAl := hAl.grow g10
    replace hBl := hBl.grow g10
    replace cc2 := cc2.grow g10
    replace hE2 := hE2.grow g10
    replace OX := OX.grow g10
    replace OC1 := OC1.grow g10
    replace OR1 := OR1.grow g10
    replace G := G.grow g10
    replace GL7 := GL7.grow g10
    replace GS8 := GS8.grow g10
    replace B1 := B1.grow g10
    replace B2 := B2.grow g10
    replace B5 := B5.grow g10
    have zg10 := g10.size
    refine D_1 (i := 21) (by kernel_rfl) ?_
    have OY : OW (fun i => b10 ≤ i) w10 3 1 (some ⟨b10, 0, none⟩) 0 0 [] := OW.of_blk B10 rfl (by decide) (Nat.le_refl _)
    refine E_app0 (i := 21) rfl (news := ints h.cells[k].refs) Try.underlying24 zr3 sz3 by3 rfl rfl OY (by rw [ints_len]; omega) (by have hsr := Src.r1 hE2; rw [ints_len] at hsr; exact hsr) ints_one (by omega) (Pr' := fun i => b10 ≤ i) (fun i hi => hi) (by omega) ?_
    intro A11 cap11 w11 X11 m11
    replace OY := X11
    clear X11
    replace G := G.abv m11
    first | replace GL7 := GL7.abv m11 | clear GL7
    replace GS8 := GS8.abv m11
    replace hAl := hAl0.grow G
    replace hBl := hBl0.grow G
    replace cc2 := cc20.grow G
    replace hE2 := hE20.grow G
    replace OX := OX.md m11
    replace OC1 := OC1.md m11
    replace OR1 := OR1.md m11
    replace B1 := B1.md m11
    replace B2 := B2.md m11
    replace B5 := B5.md m11
    have zm11 := m11.size
    refine ⟨GS8, ?_⟩
    obtain ⟨AY, rfl⟩ : ∃ x, x = A11 := ⟨_, rfl⟩
    obtain ⟨capY, rfl⟩ : ∃ x, x = cap11 := ⟨_, rfl⟩
    refine Dq (i := 22) rfl GS8 (fun _ _ => Y_build (cs := [_, _, _]) zr37 pc37 rfl rfl) ?_
    refine D_1 (i := 23) (by kernel_rfl) ?_
    refine E_bs1 (cs := [_, _, _]) (i := 23) rfl Try.underlying23 zr37 sz37 rfl rfl rfl ?_
    intro b12 w12 fb12 g12 B12
    refine ⟨GS8.grow g12, ?_⟩
    have lb12 := B12.lt
    replace hAl := hAl.grow g12
    replace hBl := hBl.grow g12
    replace cc2 := cc2.grow g12
    replace hE2 := hE2.grow g12
    replace OX := OX.grow g12
    replace OC1 := OC1.grow g12
    replace OR1 := OR1.grow g12
    replace OY := OY.grow g12
    replace G := G.grow g12
    replace GL7 := GL7.grow g12
    replace GS8 := GS8.grow g12
    replace B1 := B1.grow g12
    replace B2 := B2.grow g12
    replace B5 := B5.grow g12
    have zg12 := g12.size
    refine D_1 (i := 24) (by kernel_rfl) ?_
    refine E_app2 (i := 24) rfl Try.underlying23 zr37 sz37 by37 rfl rfl OC1 rfl (Src.blk B12) (by simp [Value.oneCell']) (by omega) (Pr' := fun i => (wz ≤ i)) (fun i hi => by omega) (by omega) ?_
    intro A13 cap13 w13 X13 m13 n13
    replace OR1 := OR1.app OC1 hne n13
    replace OC1 := X13
    clear X13 n13
    replace G := G.abv m13
    replace GL7 := GL7.trn m13
    replace GS8 := GS8.trn m13
    replace hAl := hAl0.grow G
    replace hBl := hBl0.grow G
    replace cc2 := cc20.grow G
    replace hE2 := hE20.grow G
    replace OX := OX.md m13
    replace OY := OY.md m13
    replace B1 := B1.md m13
    replace B2 := B2.md m13
    replace B5 := B5.md m13
    have zm13 := m13.size
    refine ⟨GS8, ?_⟩
    have OR2 := OR1.more (c := h.cells[k]) OY (fun i hi => by omega) (Pr' := fun i => wz ≤ i) (fun i hi => by omega) (fun i hi => by omega)
    replace OC1 : OW (fun i => (wz ≤ i)) w13 37 3 A13 (q1 + 1) cap13 (flatC (h.cells.take (k + 1)) (rs ++ [(AY, capY)])) := by rw [List.take_succ_eq_append_getElem hk1, ← flat_more OR1.len]; exact OC1
    rw [← List.take_succ_eq_append_getElem hk1] at OR2
    refine Dq (i := 25) rfl GS8 (fun _ _ => Y_field Try.underlying26 rfl fz26_0 (by decide) rfl) ?_
    refine D_1 (i := 26) (by kernel_rfl) ?_
    refine E_stM (pre := []) (old := [_]) (post := [_]) (vs := [_]) (i := 26) rfl sz23 rfl rfl rfl (by first | rfl | assumption) B5 rfl rfl ?_
    intro w14 m14 X14
    replace B5 := Blk.eq (ys := [_, _]) X14 rfl
    clear X14
    replace G := G.abv m14
    replace GL7 := GL7.trn m14
    replace GS8 := GS8.trn m14
    replace hAl := hAl0.grow G
    replace hBl := hBl0.grow G
    replace cc2 := cc20.grow G
    replace hE2 := hE20.grow G
    replace OX := OX.md m14
    replace OC1 := OC1.md m14
    replace OR2 := OR2.md m14
    replace B1 := B1.md m14
    replace B2 := B2.md m14
    have zm14 := m14.size
    refine ⟨GS8, ?_⟩
    refine D_en (by kernel_rfl) rfl rfl ?_
    refine ib_n ?_
    refine th_n (hK7 _ _ ?_)
    clear hK7 K7
    refine Sb 44 rfl ?_  -- 4
    refine S_val (Y_move rfl) ?_
    refine S_val (Y_inc rfl rfl (by omega)) ?_
    refine S_val (Y_assign rfl) ?_
    refine S_nl rfl rfl ?_
    refine th_n ?_
    go_roundw  -- e1 of L1
    case rel =>
     refine ⟨?_, GL7⟩
     exact ⟨k + 1, _, _, _, _, rfl, by omega, by omega, B5, OC1, OR2⟩
    case measure =>
     exact dec_nat (by omega)
   · -- operation 14 comes up
    refine E_bs0 (i := 14) rfl Try.underlying24 sz3 ?_
    intro b15 w15 fb15 g15 B15
    refine ⟨GS8.grow g15, ?_⟩
    have lb15 := B15.lt
    replace hAl := hAl.grow g15
    replace hBl := hBl.grow g15
    replace cc2 := cc2.grow g15
    replace hE2 := hE2.grow g15
    replace OX := OX.grow g15
    replace OC1 := OC1.grow g15
    replace OR1 := OR1.grow g15
    replace G := G.grow g15
    replace GL7 := GL7.grow g15
    replace GS8 := GS8.grow g15
    replace B1 := B1.grow g15
    replace B2 := B2.grow g15
    replace B5 := B5.grow g15
    have zg15 := g15.size
    refine D_2 (i := 1) (j := 21) (by kernel_rfl) ?_ ?_
    · -- operation 1 comes up
     refine E_val (i := 1) rfl (Y_load Try.underlying23 rfl rfl (B5.at (by rfl))) GS8 ?_
     refine D_1 (i := 21) (by kernel_rfl) ?_
     have OY : OW (fun i => b15 ≤ i) w15 3 1 (some ⟨b15, 0, none⟩) 0 0 [] := OW.of_blk B15 rfl (by decide) (Nat.le_refl _)
     refine E_app0 (i := 21) rfl (news := ints h.cells[k].refs) Try.underlying24 zr3 sz3 by3 rfl rfl OY (by rw [ints_len]; omega) (by have hsr := Src.r1 hE2; rw [ints_len] at hsr; exact hsr) ints_one (by omega) (Pr' := fun i => b15 ≤ i) (fun i hi => hi) (by omega) ?_
     intro A17 cap17 w17 X17 m17
     replace OY := X17
     clear X17
     replace G := G.abv m17
     first | replace GL7 := GL7.abv m17 | clear GL7
     replace GS8 := GS8.abv m17
     replace hAl := hAl0.grow G
     replace hBl := hBl0.grow G
     replace cc2 := cc20.grow G
     replace hE2 := hE20.grow G
     replace OX := OX.md m17
     replace OC1 := OC1.md m17
     replace OR1 := OR1.md m17
     replace B1 := B1.md m17
     replace B2 := B2.md m17
     replace B5 := B5.md m17
     have zm17 := m17.size
     refine ⟨GS8, ?_⟩
     obtain ⟨AY, rfl⟩ : ∃ x, x = A17 := ⟨_, rfl⟩
     obtain ⟨capY, rfl⟩ : ∃ x, x = cap17 := ⟨_, rfl⟩
     refine Dq (i := 22) rfl GS8 (fun _ _ => Y_build (cs := [_, _, _]) zr37 pc37 rfl rfl) ?_
     refine D_1 (i := 23) (by kernel_rfl) ?_
     refine E_bs1 (cs := [_, _, _]) (i := 23) rfl Try.underlying23 zr37 sz37 rfl rfl rfl ?_
     intro b18 w18 fb18 g18 B18
     refine ⟨GS8.grow g18, ?_⟩
     have lb18 := B18.lt
     replace hAl := hAl.grow g18
     replace hBl := hBl.grow g18
     replace cc2 := cc2.grow g18
     replace hE2 := hE2.grow g18
     replace OX := OX.grow g18
     replace OC1 := OC1.grow g18
     replace OR1 := OR1.grow g18
     replace OY := OY.grow g18
     replace G := G.grow g18
     replace GL7 := GL7.grow g18
     replace GS8 := GS8.grow g18
     replace B1 := B1.grow g18
     replace B2 := B2.grow g18
     replace B5 := B5.grow g18
     have zg18 := g18.size
     refine D_1 (i := 24) (by kernel_rfl) ?_
     refine E_app2 (i := 24) rfl Try.underlying23 zr37 sz37 by37 rfl rfl OC1 rfl (Src.blk B18) (by simp [Value.oneCell']) (by omega) (Pr' := fun i => (wz ≤ i)) (fun i hi => by omega) (by omega) ?_
     intro A19 cap19 w19 X19 m19 n19
     replace OR1 := OR1.app OC1 hne n19
     replace OC1 := X19
     clear X19 n19
     replace G := G.abv m19
     replace GL7 := GL7.trn m19
     replace GS8 := GS8.trn m19
     replace hAl := hAl0.grow G
     replace hBl := hBl0.grow G
     replace cc2 := cc20.grow G
     replace hE2 := hE20.grow G
     replace OX := OX.md m19
     replace OY := OY.md m19
     replace B1 := B1.md m19
     replace B2 := B2.md m19
     replace B5 := B5.md m19
     have zm19 := m19.size
     refine ⟨GS8, ?_⟩
     have OR2 := OR1.more (c := h.cells[k]) OY (fun i hi => by omega) (Pr' := fun i => wz ≤ i) (fun i hi => by omega) (fun i hi => by omega)
     replace OC1 : OW (fun i => (wz ≤ i)) w19 37 3 A19 (q1 + 1) cap19 (flatC (h.cells.take (k + 1)) (rs ++ [(AY, capY)])) := by rw [List.take_succ_eq_append_getElem hk1, ← flat_more OR1.len]; exact OC1
     rw [← List.take_succ_eq_append_getElem hk1] at OR2
     refine Dq (i := 25) rfl GS8 (fun _ _ => Y_field Try.underlying26 rfl fz26_0 (by decide) rfl) ?_
     refine D_1 (i := 26) (by kernel_rfl) ?_
     refine E_stM (pre := []) (old := [_]) (post := [_]) (vs := [_]) (i := 26) rfl sz23 rfl rfl rfl (by first | rfl | assumption) B5 rfl rfl ?_
     intro w20 m20 X20
     replace B5 := Blk.eq (ys := [_, _]) X20 rfl
     clear X20
     replace G := G.abv m20
     replace GL7 := GL7.trn m20
     replace GS8 := GS8.trn m20
     replace hAl := hAl0.grow G
     replace hBl := hBl0.grow G
     replace cc2 := cc20.grow G
     replace hE2 := hE20.grow G
     replace OX := OX.md m20
     replace OC1 := OC1.md m20
     replace OR2 := OR2.md m20
     replace B1 := B1.md m20
     replace B2 := B2.md m20
     have zm20 := m20.size
     refine ⟨GS8, ?_⟩
     refine D_en (by kernel_rfl) rfl rfl ?_
     refine ib_n ?_
     refine th_n (hK7 _ _ ?_)
     clear hK7 K7
     refine Sb 44 rfl ?_  -- 4
     refine S_val (Y_move rfl) ?_
     refine S_val (Y_inc rfl rfl (by omega)) ?_
     refine S_val (Y_assign rfl) ?_
     refine S_nl rfl rfl ?_
     refine th_n ?_
     go_roundw  -- e2 of L1
     case rel =>
      refine ⟨?_, GL7⟩
      exact ⟨k + 1, _, _, _, _, rfl, by omega, by omega, B5, OC1, OR2⟩
     case measure =>
      exact dec_nat (by omega)
    · -- operation 21 comes up
     have OY : OW (fun i => b15 ≤ i) w15 3 1 (some ⟨b15, 0, none⟩) 0 0 [] := OW.of_blk B15 rfl (by decide) (Nat.le_refl _)
     refine E_app0 (i := 21) rfl (news := ints h.cells[k].refs) Try.underlying24 zr3 sz3 by3 rfl rfl OY (by rw [ints_len]; omega) (by have hsr := Src.r1 hE2; rw [ints_len] at hsr; exact hsr) ints_one (by omega) (Pr' := fun i => b15 ≤ i) (fun i hi => hi) (by omega) ?_
     intro A21 cap21 w21 X21 m21
     replace OY := X21
     clear X21
     replace G := G.abv m21
     first | replace GL7 := GL7.abv m21 | clear GL7
     replace GS8 := GS8.abv m21
     replace hAl := hAl0.grow G
     replace hBl := hBl0.grow G
     replace cc2 := cc20.grow G
     replace hE2 := hE20.grow G
     replace OX := OX.md m21
     replace OC1 := OC1.md m21
     replace OR1 := OR1.md m21
     replace B1 := B1.md m21
     replace B2 := B2.md m21
     replace B5 := B5.md m21
     have zm21 := m21.size
     refine ⟨GS8, ?_⟩
     obtain ⟨AY, rfl⟩ : ∃ x, x = A21 := ⟨_, rfl⟩
     obtain ⟨capY, rfl⟩ : ∃ x, x = cap21 := ⟨_, rfl⟩
     refine Dq (i := 22) rfl GS8 (fun _ _ => Y_build (cs := [_, _, _]) zr37 pc37 rfl rfl) ?_
     refine D_2 (i := 1) (j := 23) (by kernel_rfl) ?_ ?_
     · -- operation 1 comes up
      refine E_val (i := 1) rfl (Y_load Try.underlying23 rfl rfl (B5.at (by rfl))) GS8 ?_
      refine D_1 (i := 23) (by kernel_rfl) ?_
      refine E_bs1 (cs := [_, _, _]) (i := 23) rfl Try.underlying23 zr37 sz37 rfl rfl rfl ?_
      intro b23 w23 fb23 g23 B23
      refine ⟨GS8.grow g23, ?_⟩
      have lb23 := B23.lt
      replace hAl := hAl.grow g23
      replace hBl := hBl.grow g23
      replace cc2 := cc2.grow g23
      replace hE2 := hE2.grow g23
      replace OX := OX.grow g23
      replace OC1 := OC1.grow g23
      replace OR1 := OR1.grow g23
      replace OY := OY.grow g23
      replace G := G.grow g23
      replace GL7 := GL7.grow g23
      replace GS8 := GS8.grow g23
      replace B1 := B1.grow g23
      replace B2 := B2.grow g23
      replace B5 := B5.grow g23
      have zg23 := g23.size
      refine D_1 (i := 24) (by kernel_rfl) ?_
      refine E_app2 (i := 24) rfl Try.underlying23 zr37 sz37 by37 rfl rfl OC1 rfl (Src.blk B23) (by simp [Value.oneCell']) (by omega) (Pr' := fun i => (wz ≤ i)) (fun i hi => by omega) (by omega) ?_
      intro A24 cap24 w24 X24 m24 n24
      replace OR1 := OR1.app OC1 hne n24
      replace OC1 := X24
      clear X24 n24
      replace G := G.abv m24
      replace GL7 := GL7.trn m24
      replace GS8 := GS8.trn m24
      replace hAl := hAl0.grow G
      replace hBl := hBl0.grow G
      replace cc2 := cc20.grow G
      replace hE2 := hE20.grow G
      replace OX := OX.md m24
      replace OY := OY.md m24
      replace B1 := B1.md m24
      replace B2 := B2.md m24
      replace B5 := B5.md m24
      have zm24 := m24.size
      refine ⟨GS8, ?_⟩
      have OR2 := OR1.more (c := h.cells[k]) OY (fun i hi => by omega) (Pr' := fun i => wz ≤ i) (fun i hi => by omega) (fun i hi => by omega)
      replace OC1 : OW (fun i => (wz ≤ i)) w24 37 3 A24 (q1 + 1) cap24 (flatC (h.cells.take (k + 1)) (rs ++ [(AY, capY)])) := by rw [List.take_succ_eq_append_getElem hk1, ← flat_more OR1.len]; exact OC1
      rw [← List.take_succ_eq_append_getElem hk1] at OR2
      refine Dq (i := 25) rfl GS8 (fun _ _ => Y_field Try.underlying26 rfl fz26_0 (by decide) rfl) ?_
      refine D_1 (i := 26) (by kernel_rfl) ?_
      refine E_stM (pre := []) (old := [_]) (post := [_]) (vs := [_]) (i := 26) rfl sz23 rfl rfl rfl (by first | rfl | assumption) B5 rfl rfl ?_
      intro w25 m25 X25
      replace B5 := Blk.eq (ys := [_, _]) X25 rfl
      clear X25
      replace G := G.abv m25
      replace GL7 := GL7.trn m25
      replace GS8 := GS8.trn m25
      replace hAl := hAl0.grow G
      replace hBl := hBl0.grow G
      replace cc2 := cc20.grow G
      replace hE2 := hE20.grow G
      replace OX := OX.md m25
      replace OC1 := OC1.md m25
      replace OR2 := OR2.md m25
      replace B1 := B1.md m25
      replace B2 := B2.md m25
      have zm25 := m25.size
      refine ⟨GS8, ?_⟩
      refine D_en (by kernel_rfl) rfl rfl ?_
      refine ib_n ?_
      refine th_n (hK7 _ _ ?_)
      clear hK7 K7
      refine Sb 44 rfl ?_  -- 4
      refine S_val (Y_move rfl) ?_
      refine S_val (Y_inc rfl rfl (by omega)) ?_
      refine S_val (Y_assign rfl) ?_
      refine S_nl rfl rfl ?_
      refine th_n ?_
      go_roundw  -- e3 of L1
      case rel =>
       refine ⟨?_, GL7⟩
       exact ⟨k + 1, _, _, _, _, rfl, by omega, by omega, B5, OC1, OR2⟩
      case measure =>
       exact dec_nat (by omega)
     · -- operation 23 comes up
      refine E_bs1 (cs := [_, _, _]) (i := 23) rfl Try.underlying23 zr37 sz37 rfl rfl rfl ?_
      intro b26 w26 fb26 g26 B26
      refine ⟨GS8.grow g26, ?_⟩
      have lb26 := B26.lt
      replace hAl := hAl.grow g26
      replace hBl := hBl.grow g26
      replace cc2 := cc2.grow g26
      replace hE2 := hE2.grow g26
      replace OX := OX.grow g26
      replace OC1 := OC1.grow g26
      replace OR1 := OR1.grow g26
      replace OY := OY.grow g26
      replace G := G.grow g26
      replace GL7 := GL7.grow g26
      replace GS8 := GS8.grow g26
      replace B1 := B1.grow g26
      replace B2 := B2.grow g26
      replace B5 := B5.grow g26
      have zg26 := g26.size
      refine D_1 (i := 1) (by kernel_rfl) ?_
      refine E_val (i := 1) rfl (Y_load Try.underlying23 rfl rfl (B5.at (by rfl))) GS8 ?_
      refine D_1 (i := 24) (by kernel_rfl) ?_
      refine E_app2 (i := 24) rfl Try.underlying23 zr37 sz37 by37 rfl rfl OC1 rfl (Src.blk B26) (by simp [Value.oneCell']) (by omega) (Pr' := fun i => (wz ≤ i)) (fun i hi => by omega) (by omega) ?_
      intro A28 cap28 w28 X28 m28 n28
      replace OR1 := OR1.app OC1 hne n28
      replace OC1 := X28
      clear X28 n28
      replace G := G.abv m28
      replace GL7 := GL7.trn m28
      replace GS8 := GS8.trn m28
      replace hAl := hAl0.grow G
      replace hBl := hBl0.grow G
      replace cc2 := cc20.grow G
      replace hE2 := hE20.grow G
      replace OX := OX.md m28
      replace OY := OY.md m28
      replace B1 := B1.md m28
      replace B2 := B2.md m28
      replace B5 := B5.md m28
      have zm28 := m28.size
      refine ⟨GS8, ?_⟩
      have OR2 := OR1.more (c := h.cells[k]) OY (fun i hi => by omega) (Pr' := fun i => wz ≤ i) (fun i hi => by omega) (fun i hi => by omega)
      replace OC1 : OW (fun i => (wz ≤ i)) w28 37 3 A28 (q1 + 1) cap28 (flatC (h.cells.take (k + 1)) (rs ++ [(AY, capY)])) := by rw [List.take_succ_eq_append_getElem hk1, ← flat_more OR1.len]; exact OC1
      rw [← List.take_succ_eq_append_getElem hk1] at OR2
      refine Dq (i := 25) rfl GS8 (fun _ _ => Y_field Try.underlying26 rfl fz26_0 (by decide) rfl) ?_
      refine D_1 (i := 26) (by kernel_rfl) ?_
      refine E_stM (pre := []) (old := [_]) (post := [_]) (vs := [_]) (i := 26) rfl sz23 rfl rfl rfl (by first | rfl | assumption) B5 rfl rfl ?_
      intro w29 m29 X29
      replace B5 := Blk.eq (ys := [_, _]) X29 rfl
      clear X29
      replace G := G.abv m29
      replace GL7 := GL7.trn m29
      replace GS8 := GS8.trn m29
      replace hAl := hAl0.grow G
      replace hBl := hBl0.grow G
      replace cc2 := cc20.grow G
      replace hE2 := hE20.grow G
      replace OX := OX.md m29
      replace OC1 := OC1.md m29
      replace OR2 := OR2.md m29
      replace B1 := B1.md m29
      replace B2 := B2.md m29
      have zm29 := m29.size
      refine ⟨GS8, ?_⟩
      refine D_en (by kernel_rfl) rfl rfl ?_
      refine ib_n ?_
      refine th_n (hK7 _ _ ?_)
      clear hK7 K7
      refine Sb 44 rfl ?_  -- 4
      refine S_val (Y_move rfl) ?_
      refine S_val (Y_inc rfl rfl (by omega)) ?_
      refine S_val (Y_assign rfl) ?_
      refine S_nl rfl rfl ?_
      refine th_n ?_
      go_roundw  -- e4 of L1
      case rel =>
       refine ⟨?_, GL7⟩
       exact ⟨k + 1, _, _, _, _, rfl, by omega, by omega, B5, OC1, OR2⟩
      case measure =>
       exact dec_nat (by omega)
  · -- c1F
   replace hb1 := nb_tf hb1
   refine wp_exit ?_
   refine th_x ?_
   try clear GL7
   refine th_x ?_
   refine ib_e ?_
   refine th_n (hK3 _ _ ?_)
   clear hK5 K5 hK3 K3
   refine wp_seq_k fun K8 hK8 => ?_
   refine Sb 44 rfl ?_  -- 6
   refine S_val (Y_loadS Try.underlying26 rfl sz26 rfl (B5.row (by rfl))) ?_  -- l9
   refine S_stM (pre := []) (old := [_, _]) (post := []) (vs := [_, _]) sz26 rfl rfl rfl (by first | rfl | assumption) B2 rfl rfl ?_
   intro w30 m30 X30
   replace B2 := Blk.eq (ys := [_, _]) X30 rfl
   clear X30
   replace G := G.abv m30
   replace hAl := hAl0.grow G
   replace hBl := hBl0.grow G
   replace OX := OX.md m30
   replace OC1 := OC1.md m30
   replace OR1 := OR1.md m30
   replace B1 := B1.md m30
   replace B5 := B5.md m30
   have zm30 := m30.size
   refine S_nl rfl rfl ?_
   refine th_n (hK8 _ _ ?_)
   clear hK8 K8
   refine wp_ret ?_
   refine ret_rc (cs := [_, _]) Try.underlying26 rfl sz26 rfl rfl (B2.row (by rfl)) ?_  -- r1
   rw [List.take_of_length_le (by omega)] at hlk OC1 OR1
   rw [hq1, ← hlk] at OC1
   exact ⟨_, _, _, _, _, _, rs, rfl, by omega, rfl, OH.of_parts (h := h) (OC.grown OC1 OR1 (fun _ h => h) (fun _ h => h)) OX.oi (fun k b h1 h2 h3 => by omega) (fun k hk => by omega) (fun k hk => by omega), G⟩
end
/-! WalkN -/
section
open Go Go.RowKit
attribute [local irreducible] wpList wpAnyH Code.wp dOp
set_option maxHeartbeats 400000 in
set_option maxRecDepth 20000 in
theorem spec_CommandValid_c (op a b c : Int) (w : World) :
    Calls Try.prog 125 #[.agg #[.int .i64 op, .int .i64 a, .int .i64 b, .int .i64 c]] w (Ret fun v w' => v = .bool (cvB ⟨op, a, b, c⟩) ∧ Grow w w') := by
 refine enter Try.func125 rfl Try.ntmps125 (L := [_,_,_,_,_,_,_,_,_,_,_,_,_,_,_,_,_,_,_,_,_,_,_,_,_,_,_,_,_,_,_,_,_,_,_,_,_,_,_,_,_,_,_,_,_,_,_,_,_,_,_,_,_,_,_,_,_,_,_,_,_,_,_,_,_,_,_,_,_,_,_,_,_,_,_]) rfl ?_
 have G := Mod.refl No w
 refine wp_seq_k fun K1 hK1 => ?_
 refine Sb 75 rfl ?_  -- 0
 refine S_box (cs := [_, _, _, _]) rfl rfl ?_
 intro b1 w1 fb1 g1 B1
 have lb1 := B1.lt
 replace G := G.grow g1
 have zg1 := g1.size
 refine S_val (Y_assign rfl) ?_
 refine S_nl rfl rfl ?_
 refine th_n (hK1 _ _ ?_)
 clear hK1 K1
 refine wp_seq_k fun K2 hK2 => ?_
 refine Sb 75 rfl ?_  -- 1
 refine S_val (Y_field Try.underlying112 rfl fz112_1 (by decide) rfl) ?_
 refine S_val (Y_load Try.underlying3 rfl rfl (B1.at (by rfl))) ?_  -- l1
 refine S_call rfl en68 (spec_l1In_c _ _ _ _) ?_  -- k1 spec.l1In
 rintro v w' ⟨rfl, rfl⟩
 refine S_val (Y_assign rfl) ?_
 refine S_nl rfl rfl ?_
 refine th_n (hK2 _ _ ?_)
 clear hK2 K2
 refine wp_seq_k fun K3 hK3 => ?_
 refine Sb 75 rfl ?_  -- 2
 refine S_val (Y_field Try.underlying112 rfl fz112_2 (by decide) rfl) ?_
 refine S_val (Y_load Try.underlying3 rfl rfl (B1.at (by rfl))) ?_  -- l2
 refine S_call rfl en68 (spec_l1In_c _ _ _ _) ?_  -- k2 spec.l1In
 rintro v w' ⟨rfl, rfl⟩
 refine S_val (Y_assign rfl) ?_
 refine S_nl rfl rfl ?_
 refine th_n (hK3 _ _ ?_)
 clear hK3 K3
 refine wp_seq_k fun K4 hK4 => ?_
 refine wp_seq_k fun K5 hK5 => ?_
 refine Sb 75 rfl ?_  -- 3
 refine S_val (Y_field Try.underlying112 rfl fz112_0 (by decide) rfl) ?_
 refine S_val (Y_load Try.underlying3 rfl rfl (B1.at (by rfl))) ?_  -- l3
 refine S_nl rfl rfl ?_
 refine th_n (hK5 _ _ ?_)
 clear hK5 K5
 refine wp_block ?_
 refine wp_seq_k fun K6 hK6 => ?_
 refine Sb 75 rfl ?_  -- 4
 refine S_val (Y_eql rfl rfl) ?_
 refine S_val (Y_assign rfl) ?_
 refine S_nl rfl rfl ?_
 refine th_n (hK6 _ _ ?_)
 clear hK6 K6
 refine S_if rfl (fun hb1 => ?_) (fun hb1 => ?_)  -- c1
 · -- c1T
  replace hb1 := nb_tt hb1
  refine wp_seq_k fun K7 hK7 => ?_
  refine Sb 75 rfl ?_  -- 5
  refine S_val (Y_move rfl) ?_
  refine S_val (Y_move rfl) ?_
  refine S_g 16 rfl (fun hb2 => ?_) (fun hb2 => ?_)  -- g1
  · -- g1T
   first | with_reducible (replace hb2 := nb_nt hb2) | with_reducible (replace hb2 := nb_tt hb2) | with_reducible (replace hb2 := nb_bt hb2) | skip
   refine S_on rfl rfl ?_
   refine S_val (Y_field Try.underlying112 rfl fz112_2 (by decide) rfl) ?_
   refine S_on rfl rfl ?_
   refine S_val (Y_load Try.underlying3 rfl rfl (B1.at (by rfl))) ?_  -- l4
   refine S_on rfl rfl ?_
   refine S_call rfl en68 (spec_l1In_c _ _ _ _) ?_  -- k3 spec.l1In
   rintro v w' ⟨rfl, rfl⟩
   refine S_val (Y_pickT rfl rfl) ?_
   refine S_val (Y_move rfl) ?_
   refine S_g 21 rfl (fun hb3 => ?_) (fun hb3 => ?_)  -- g2
   · -- g2T
    first | with_reducible (replace hb3 := nb_nt hb3) | with_reducible (replace hb3 := nb_tt hb3) | with_reducible (replace hb3 := nb_bt hb3) | skip
    refine S_on rfl rfl ?_
    refine S_val (Y_field Try.underlying112 rfl fz112_3 (by decide) rfl) ?_
    refine S_on rfl rfl ?_
    refine S_val (Y_load Try.underlying3 rfl rfl (B1.at (by rfl))) ?_  -- l5
    refine S_on rfl rfl ?_
    refine S_call rfl en68 (spec_l1In_c _ _ _ _) ?_  -- k4 spec.l1In
    rintro v w' ⟨rfl, rfl⟩
    refine S_val (Y_pickT rfl rfl) ?_
    refine S_val (Y_assign rfl) ?_
    refine S_nl rfl rfl ?_
    refine th_n (hK7 _ _ ?_)
    clear hK7 K7
    refine wp_ret ?_
    refine ib_r ?_
    refine th_r ?_
    clear hK4 K4
    refine ret_r1 rfl rfl ?_  -- r1
    exact ⟨by first | exact cvB_f (by unfold cvP; dsimp only; omega) | exact cvB_d (by unfold cvP; dsimp only; omega) | exact cvB_t (by unfold cvP; dsimp only; omega), G⟩
   · -- g2F
    first | with_reducible (replace hb3 := nb_nf hb3) | with_reducible (replace hb3 := nb_tf hb3) | with_reducible (replace hb3 := nb_bf hb3) | skip
    refine S_off rfl rfl ?_
    refine S_off rfl rfl ?_
    refine S_off rfl rfl ?_
    refine S_val (Y_pickF rfl rfl) ?_
    refine S_val (Y_assign rfl) ?_
    refine S_nl rfl rfl ?_
    refine th_n (hK7 _ _ ?_)
    clear hK7 K7
    refine wp_ret ?_
    refine ib_r ?_
    refine th_r ?_
    clear hK4 K4
    refine ret_r1 rfl rfl ?_  -- r2
    exact ⟨by first | exact cvB_f (by unfold cvP; dsimp only; omega) | exact cvB_d (by unfold cvP; dsimp only; omega) | exact cvB_t (by unfold cvP; dsimp only; omega), G⟩
  · -- g1F
   first | with_reducible (replace hb2 := nb_nf hb2) | with_reducible (replace hb2 := nb_tf hb2) | with_reducible (replace hb2 := nb_bf hb2) | skip
   refine S_off rfl rfl ?_
   refine S_off rfl rfl ?_
   refine S_off rfl rfl ?_
   refine S_val (Y_pickF rfl rfl) ?_
   refine S_val (Y_move rfl) ?_
   refine S_off rfl rfl ?_
   refine S_off rfl rfl ?_
   refine S_off rfl rfl ?_
   refine S_val (Y_pickF rfl rfl) ?_
   refine S_val (Y_assign rfl) ?_
   refine S_nl rfl rfl ?_
   refine th_n (hK7 _ _ ?_)
   clear hK7 K7
   refine wp_ret ?_
   refine ib_r ?_
   refine th_r ?_
   clear hK4 K4
   refine ret_r1 rfl rfl ?_  -- r3
   exact ⟨by first | exact cvB_f (by unfold cvP; dsimp only; omega) | exact cvB_d (by unfold cvP; dsimp only; omega) | exact cvB_t (by unfold cvP; dsimp only; omega), G⟩
 · -- c1F
  replace hb1 := nb_tf hb1
  refine wp_seq_k fun K8 hK8 => ?_
  refine wp_seq_k fun K9 hK9 => ?_
  refine Sb 75 rfl ?_  -- 6
  refine S_val (Y_eql rfl rfl) ?_
  refine S_val (Y_assign rfl) ?_
  refine S_nl rfl rfl ?_
  refine th_n (hK9 _ _ ?_)
  clear hK9 K9
  refine S_if rfl (fun hb2 => ?_) (fun hb2 => ?_)  -- c2
  · -- c2T
   replace hb2 := nb_tt hb2
   refine wp_skip ?_
   refine th_n (hK8 _ _ ?_)
   clear hK8 K8
   refine S_if rfl (fun hb3 => ?_) (fun hb3 => ?_)  -- c3
   · -- c3T
    replace hb3 := nb_tt hb3
    refine wp_seq_k fun K10 hK10 => ?_
    refine Sb 75 rfl ?_  -- 8
    refine S_val (Y_move rfl) ?_
    refine S_val (Y_move rfl) ?_
    refine S_g 30 rfl (fun hb4 => ?_) (fun hb4 => ?_)  -- g3
    · -- g3T
     first | with_reducible (replace hb4 := nb_nt hb4) | with_reducible (replace hb4 := nb_tt hb4) | with_reducible (replace hb4 := nb_bt hb4) | skip
     refine S_on rfl rfl ?_
     refine S_val (Y_move rfl) ?_
     refine S_val (Y_pickT rfl rfl) ?_
     refine S_val (Y_move rfl) ?_
     refine S_g 33 rfl (fun hb5 => ?_) (fun hb5 => ?_)  -- g4
     · -- g4T
      first | with_reducible (replace hb5 := nb_nt hb5) | with_reducible (replace hb5 := nb_tt hb5) | with_reducible (replace hb5 := nb_bt hb5) | skip
      refine S_on rfl rfl ?_
      refine S_val (Y_field Try.underlying112 rfl fz112_3 (by decide) rfl) ?_
      refine S_on rfl rfl ?_
      refine S_val (Y_load Try.underlying3 rfl rfl (B1.at (by rfl))) ?_  -- l6
      refine S_on rfl rfl ?_
      refine S_call rfl en68 (spec_l1In_c _ _ _ _) ?_  -- k5 spec.l1In
      rintro v w' ⟨rfl, rfl⟩
      refine S_val (Y_pickT rfl rfl) ?_
      refine S_val (Y_assign rfl) ?_
      refine S_nl rfl rfl ?_
      refine th_n (hK10 _ _ ?_)
      clear hK10 K10
      refine wp_ret ?_
      refine ib_r ?_
      refine th_r ?_
      clear hK4 K4
      refine ret_r1 rfl rfl ?_  -- r4
      exact ⟨by first | exact cvB_f (by unfold cvP; dsimp only; omega) | exact cvB_d (by unfold cvP; dsimp only; omega) | exact cvB_t (by unfold cvP; dsimp only; omega), G⟩
     · -- g4F
      first | with_reducible (replace hb5 := nb_nf hb5) | with_reducible (replace hb5 := nb_tf hb5) | with_reducible (replace hb5 := nb_bf hb5) | skip
      refine S_off rfl rfl ?_
      refine S_off rfl rfl ?_
      refine S_off rfl rfl ?_
      refine S_val (Y_pickF rfl rfl) ?_
      refine S_val (Y_assign rfl) ?_
      refine S_nl rfl rfl ?_
      refine th_n (hK10 _ _ ?_)
      clear hK10 K10
      refine wp_ret ?_
      refine ib_r ?_
      refine th_r ?_
      clear hK4 K4
      refine ret_r1 rfl rfl ?_  -- r5
      exact ⟨by first | exact cvB_f (by unfold cvP; dsimp only; omega) | exact cvB_d (by unfold cvP; dsimp only; omega) | exact cvB_t (by unfold cvP; dsimp only; omega), G⟩
    · -- g3F
     first | with_reducible (replace hb4 := nb_nf hb4) | with_reducible (replace hb4 := nb_tf hb4) | with_reducible (replace hb4 := nb_bf hb4) | skip
     refine S_off rfl rfl ?_
     refine S_val (Y_pickF rfl rfl) ?_
     refine S_val (Y_move rfl) ?_
     refine S_off rfl rfl ?_
     refine S_off rfl rfl ?_
     refine S_off rfl rfl ?_
     refine S_val (Y_pickF rfl rfl) ?_
     refine S_val (Y_assign rfl) ?_
     refine S_nl rfl rfl ?_
     refine th_n (hK10 _ _ ?_)
     clear hK10 K10
     refine wp_ret ?_
     refine ib_r ?_
     refine th_r ?_
     clear hK4 K4
     refine ret_r1 rfl rfl ?_  -- r6
     exact ⟨by first | exact cvB_f (by unfold cvP; dsimp only; omega) | exact cvB_d (by unfold cvP; dsimp only; omega) | exact cvB_t (by unfold cvP; dsimp only; omega), G⟩
   · -- c3F
    replace hb3 := nb_tf hb3
    refine wp_seq_k fun K11 hK11 => ?_
    refine Sb 75 rfl ?_  -- 9
    refine S_val (Y_eql rfl rfl) ?_
    refine S_val (Y_assign rfl) ?_
    refine S_nl rfl rfl ?_
    refine th_n (hK11 _ _ ?_)
    clear hK11 K11
    refine S_if rfl (fun hb4 => ?_) (fun hb4 => ?_)  -- c4
    · -- c4T
     replace hb4 := nb_tt hb4
     refine wp_seq_k fun K12 hK12 => ?_
     refine Sb 75 rfl ?_  -- 10
     refine S_val (Y_move rfl) ?_
     refine S_val (Y_move rfl) ?_
     refine S_g 41 rfl (fun hb5 => ?_) (fun hb5 => ?_)  -- g5
     · -- g5T
      first | with_reducible (replace hb5 := nb_nt hb5) | with_reducible (replace hb5 := nb_tt hb5) | with_reducible (replace hb5 := nb_bt hb5) | skip
      refine S_on rfl rfl ?_
      refine S_val (Y_move rfl) ?_
      refine S_val (Y_pickT rfl rfl) ?_
      refine S_val (Y_move rfl) ?_
      refine S_g 44 rfl (fun hb6 => ?_) (fun hb6 => ?_)  -- g6
      · -- g6T
       first | with_reducible (replace hb6 := nb_nt hb6) | with_reducible (replace hb6 := nb_tt hb6) | with_reducible (replace hb6 := nb_bt hb6) | skip
       refine S_on rfl rfl ?_
       refine S_val (Y_field Try.underlying112 rfl fz112_3 (by decide) rfl) ?_
       refine S_on rfl rfl ?_
       refine S_val (Y_load Try.underlying3 rfl rfl (B1.at (by rfl))) ?_  -- l7
       refine S_on rfl rfl ?_
       refine S_val (Y_eql rfl rfl) ?_
       refine S_val (Y_pickT rfl rfl) ?_
       refine S_val (Y_assign rfl) ?_
       refine S_nl rfl rfl ?_
       refine th_n (hK12 _ _ ?_)
       clear hK12 K12
       refine wp_ret ?_
       refine ib_r ?_
       refine th_r ?_
       clear hK4 K4
       refine ret_r1 rfl rfl ?_  -- r7
       exact ⟨by first | exact cvB_f (by unfold cvP; dsimp only; omega) | exact cvB_d (by unfold cvP; dsimp only; omega) | exact cvB_t (by unfold cvP; dsimp only; omega), G⟩
      · -- g6F
       first | with_reducible (replace hb6 := nb_nf hb6) | with_reducible (replace hb6 := nb_tf hb6) | with_reducible (replace hb6 := nb_bf hb6) | skip
       refine S_off rfl rfl ?_
       refine S_off rfl rfl ?_
       refine S_off rfl rfl ?_
       refine S_val (Y_pickF rfl rfl) ?_
       refine S_val (Y_assign rfl) ?_
       refine S_nl rfl rfl ?_
       refine th_n (hK12 _ _ ?_)
       clear hK12 K12
       refine wp_ret ?_
       refine ib_r ?_
       refine th_r ?_
       clear hK4 K4
       refine ret_r1 rfl rfl ?_  -- r8
       exact ⟨by first | exact cvB_f (by unfold cvP; dsimp only; omega) | exact cvB_d (by unfold cvP; dsimp only; omega) | exact cvB_t (by unfold cvP; dsimp only; omega), G⟩
     · -- g5F
      first | with_reducible (replace hb5 := nb_nf hb5) | with_reducible (replace hb5 := nb_tf hb5) | with_reducible (replace hb5 := nb_bf hb5) | skip
      refine S_off rfl rfl ?_
      refine S_val (Y_pickF rfl rfl) ?_
      refine S_val (Y_move rfl) ?_
      refine S_off rfl rfl ?_
      refine S_off rfl rfl ?_
      refine S_off rfl rfl ?_
      refine S_val (Y_pickF rfl rfl) ?_
      refine S_val (Y_assign rfl) ?_
      refine S_nl rfl rfl ?_
      refine th_n (hK12 _ _ ?_)
      clear hK12 K12
      refine wp_ret ?_
      refine ib_r ?_
      refine th_r ?_
      clear hK4 K4
      refine ret_r1 rfl rfl ?_  -- r9
      exact ⟨by first | exact cvB_f (by unfold cvP; dsimp only; omega) | exact cvB_d (by unfold cvP; dsimp only; omega) | exact cvB_t (by unfold cvP; dsimp only; omega), G⟩
    · -- c4F
     replace hb4 := nb_tf hb4
     refine wp_seq_k fun K13 hK13 => ?_
     refine Sb 75 rfl ?_  -- 11
     refine S_val (Y_eql rfl rfl) ?_
     refine S_val (Y_assign rfl) ?_
     refine S_nl rfl rfl ?_
     refine th_n (hK13 _ _ ?_)
     clear hK13 K13
     refine S_if rfl (fun hb5 => ?_) (fun hb5 => ?_)  -- c5
     · -- c5T
      replace hb5 := nb_tt hb5
      refine wp_seq_k fun K14 hK14 => ?_
      refine Sb 75 rfl ?_  -- 12
      refine S_val (Y_move rfl) ?_
      refine S_val (Y_move rfl) ?_
      refine S_g 52 rfl (fun hb6 => ?_) (fun hb6 => ?_)  -- g7
      · -- g7T
       first | with_reducible (replace hb6 := nb_nt hb6) | with_reducible (replace hb6 := nb_tt hb6) | with_reducible (replace hb6 := nb_bt hb6) | skip
       refine S_on rfl rfl ?_
       refine S_val (Y_field Try.underlying112 rfl fz112_2 (by decide) rfl) ?_
       refine S_on rfl rfl ?_
       refine S_val (Y_load Try.underlying3 rfl rfl (B1.at (by rfl))) ?_  -- l8
       refine S_on rfl rfl ?_
       refine S_val (Y_eql rfl rfl) ?_
       refine S_val (Y_pickT rfl rfl) ?_
       refine S_val (Y_move rfl) ?_
       refine S_g 57 rfl (fun hb7 => ?_) (fun hb7 => ?_)  -- g8
       · -- g8T
        first | with_reducible (replace hb7 := nb_nt hb7) | with_reducible (replace hb7 := nb_tt hb7) | with_reducible (replace hb7 := nb_bt hb7) | skip
        refine S_on rfl rfl ?_
        refine S_val (Y_field Try.underlying112 rfl fz112_3 (by decide) rfl) ?_
        refine S_on rfl rfl ?_
        refine S_val (Y_load Try.underlying3 rfl rfl (B1.at (by rfl))) ?_  -- l9
        refine S_on rfl rfl ?_
        refine S_val (Y_eql rfl rfl) ?_
        refine S_val (Y_pickT rfl rfl) ?_
        refine S_val (Y_assign rfl) ?_
        refine S_nl rfl rfl ?_
        refine th_n (hK14 _ _ ?_)
        clear hK14 K14
        refine wp_ret ?_
        refine ib_r ?_
        refine th_r ?_
        clear hK4 K4
        refine ret_r1 rfl rfl ?_  -- r10
        exact ⟨by first | exact cvB_f (by unfold cvP; dsimp only; omega) | exact cvB_d (by unfold cvP; dsimp only; omega) | exact cvB_t (by unfold cvP; dsimp only; omega), G⟩
       · -- g8F
        first | with_reducible (replace hb7 := nb_nf hb7) | with_reducible (replace hb7 := nb_tf hb7) | with_reducible (replace hb7 := nb_bf hb7) | skip
        refine S_off rfl rfl ?_
        refine S_off rfl rfl ?_
        refine S_off rfl rfl ?_
        refine S_val (Y_pickF rfl rfl) ?_
        refine S_val (Y_assign rfl) ?_
        refine S_nl rfl rfl ?_
        refine th_n (hK14 _ _ ?_)
        clear hK14 K14
        refine wp_ret ?_
        refine ib_r ?_
        refine th_r ?_
        clear hK4 K4
        refine ret_r1 rfl rfl ?_  -- r11
        exact ⟨by first | exact cvB_f (by unfold cvP; dsimp only; omega) | exact cvB_d (by unfold cvP; dsimp only; omega) | exact cvB_t (by unfold cvP; dsimp only; omega), G⟩
      · -- g7F
       first | with_reducible (replace hb6 := nb_nf hb6) | with_reducible (replace hb6 := nb_tf hb6) | with_reducible (replace hb6 := nb_bf hb6) | skip
       refine S_off rfl rfl ?_
       refine S_off rfl rfl ?_
       refine S_off rfl rfl ?_
       refine S_val (Y_pickF rfl rfl) ?_
       refine S_val (Y_move rfl) ?_
       refine S_off rfl rfl ?_
       refine S_off rfl rfl ?_
       refine S_off rfl rfl ?_
       refine S_val (Y_pickF rfl rfl) ?_
       refine S_val (Y_assign rfl) ?_
       refine S_nl rfl rfl ?_
       refine th_n (hK14 _ _ ?_)
       clear hK14 K14
       refine wp_ret ?_
       refine ib_r ?_
       refine th_r ?_
       clear hK4 K4
       refine ret_r1 rfl rfl ?_  -- r12
       exact ⟨by first | exact cvB_f (by unfold cvP; dsimp only; omega) | exact cvB_d (by unfold cvP; dsimp only; omega) | exact cvB_t (by unfold cvP; dsimp only; omega), G⟩
     · -- c5F
      replace hb5 := nb_tf hb5
      refine wp_seq_k fun K15 hK15 => ?_
      refine Sb 75 rfl ?_  -- 13
      refine S_val (Y_eql rfl rfl) ?_
      refine S_val (Y_assign rfl) ?_
      refine S_nl rfl rfl ?_
      refine th_n (hK15 _ _ ?_)
      clear hK15 K15
      refine S_if rfl (fun hb6 => ?_) (fun hb6 => ?_)  -- c6
      · -- c6T
       replace hb6 := nb_tt hb6
       refine wp_seq_k fun K16 hK16 => ?_
       refine Sb 75 rfl ?_  -- 14
       refine S_val (Y_move rfl) ?_
       refine S_val (Y_move rfl) ?_
       refine S_g 65 rfl (fun hb7 => ?_) (fun hb7 => ?_)  -- g9
       · -- g9T
        first | with_reducible (replace hb7 := nb_nt hb7) | with_reducible (replace hb7 := nb_tt hb7) | with_reducible (replace hb7 := nb_bt hb7) | skip
        refine S_on rfl rfl ?_
        refine S_val (Y_field Try.underlying112 rfl fz112_2 (by decide) rfl) ?_
        refine S_on rfl rfl ?_
        refine S_val (Y_load Try.underlying3 rfl rfl (B1.at (by rfl))) ?_  -- l10
        refine S_on rfl rfl ?_
        refine S_call rfl en68 (spec_l1In_c _ _ _ _) ?_  -- k6 spec.l1In
        rintro v w' ⟨rfl, rfl⟩
        refine S_val (Y_pickT rfl rfl) ?_
        refine S_val (Y_move rfl) ?_
        refine S_g 70 rfl (fun hb8 => ?_) (fun hb8 => ?_)  -- g10
        · -- g10T
         first | with_reducible (replace hb8 := nb_nt hb8) | with_reducible (replace hb8 := nb_tt hb8) | with_reducible (replace hb8 := nb_bt hb8) | skip
         refine S_on rfl rfl ?_
         refine S_val (Y_field Try.underlying112 rfl fz112_3 (by decide) rfl) ?_
         refine S_on rfl rfl ?_
         refine S_val (Y_load Try.underlying3 rfl rfl (B1.at (by rfl))) ?_  -- l11
         refine S_on rfl rfl ?_
         refine S_val (Y_eql rfl rfl) ?_
         refine S_val (Y_pickT rfl rfl) ?_
         refine S_val (Y_assign rfl) ?_
         refine S_nl rfl rfl ?_
         refine th_n (hK16 _ _ ?_)
         clear hK16 K16
         refine wp_ret ?_
         refine ib_r ?_
         refine th_r ?_
         clear hK4 K4
         refine ret_r1 rfl rfl ?_  -- r13
         exact ⟨by first | exact cvB_f (by unfold cvP; dsimp only; omega) | exact cvB_d (by unfold cvP; dsimp only; omega) | exact cvB_t (by unfold cvP; dsimp only; omega), G⟩
        · -- g10F
         first | with_reducible (replace hb8 := nb_nf hb8) | with_reducible (replace hb8 := nb_tf hb8) | with_reducible (replace hb8 := nb_bf hb8) | skip
         refine S_off rfl rfl ?_
         refine S_off rfl rfl ?_
         refine S_off rfl rfl ?_
         refine S_val (Y_pickF rfl rfl) ?_
         refine S_val (Y_assign rfl) ?_
         refine S_nl rfl rfl ?_
         refine th_n (hK16 _ _ ?_)
         clear hK16 K16
         refine wp_ret ?_
         refine ib_r ?_
         refine th_r ?_
         clear hK4 K4
         refine ret_r1 rfl rfl ?_  -- r14
         exact ⟨by first | exact cvB_f (by unfold cvP; dsimp only; omega) | exact cvB_d (by unfold cvP; dsimp only; omega) | exact cvB_t (by unfold cvP; dsimp only; omega), G⟩
       · -- g9F
        first | with_reducible (replace hb7 := nb_nf hb7) | with_reducible (replace hb7 := nb_tf hb7) | with_reducible (replace hb7 := nb_bf hb7) | skip
        refine S_off rfl rfl ?_
        refine S_off rfl rfl ?_
        refine S_off rfl rfl ?_
        refine S_val (Y_pickF rfl rfl) ?_
        refine S_val (Y_move rfl) ?_
        refine S_off rfl rfl ?_
        refine S_off rfl rfl ?_
        refine S_off rfl rfl ?_
        refine S_val (Y_pickF rfl rfl) ?_
        refine S_val (Y_assign rfl) ?_
        refine S_nl rfl rfl ?_
        refine th_n (hK16 _ _ ?_)
        clear hK16 K16
        refine wp_ret ?_
        refine ib_r ?_
        refine th_r ?_
        clear hK4 K4
        refine ret_r1 rfl rfl ?_  -- r15
        exact ⟨by first | exact cvB_f (by unfold cvP; dsimp only; omega) | exact cvB_d (by unfold cvP; dsimp only; omega) | exact cvB_t (by unfold cvP; dsimp only; omega), G⟩
      · -- c6F
       replace hb6 := nb_tf hb6
       refine wp_skip ?_
       refine ib_n ?_
       refine th_n (hK4 _ _ ?_)
       clear hK4 K4
       refine wp_seq_k fun K17 hK17 => ?_
       refine Sb 75 rfl ?_  -- 15
       refine S_val (Y_assign rfl) ?_
       refine S_nl rfl rfl ?_
       refine th_n (hK17 _ _ ?_)
       clear hK17 K17
       refine wp_ret ?_
       refine ret_r1 rfl rfl ?_  -- r16
       exact ⟨by first | exact cvB_f (by unfold cvP; dsimp only; omega) | exact cvB_d (by unfold cvP; dsimp only; omega) | exact cvB_t (by unfold cvP; dsimp only; omega), G⟩
  · -- c2F
   replace hb2 := nb_tf hb2
   refine Sb 75 rfl ?_  -- 7
   refine S_val (Y_eql rfl rfl) ?_
   refine S_val (Y_assign rfl) ?_
   refine S_nl rfl rfl ?_
   refine th_n (hK8 _ _ ?_)
   clear hK8 K8
   refine S_if rfl (fun hb3 => ?_) (fun hb3 => ?_)  -- c7
   · -- c7T
    replace hb3 := nb_tt hb3
    refine wp_seq_k fun K18 hK18 => ?_
    refine Sb 75 rfl ?_  -- 8
    refine S_val (Y_move rfl) ?_
    refine S_val (Y_move rfl) ?_
    refine S_g 30 rfl (fun hb4 => ?_) (fun hb4 => ?_)  -- g11
    · -- g11T
     first | with_reducible (replace hb4 := nb_nt hb4) | with_reducible (replace hb4 := nb_tt hb4) | with_reducible (replace hb4 := nb_bt hb4) | skip
     refine S_on rfl rfl ?_
     refine S_val (Y_move rfl) ?_
     refine S_val (Y_pickT rfl rfl) ?_
     refine S_val (Y_move rfl) ?_
     refine S_g 33 rfl (fun hb5 => ?_) (fun hb5 => ?_)  -- g12
     · -- g12T
      first | with_reducible (replace hb5 := nb_nt hb5) | with_reducible (replace hb5 := nb_tt hb5) | with_reducible (replace hb5 := nb_bt hb5) | skip
      refine S_on rfl rfl ?_
      refine S_val (Y_field Try.underlying112 rfl fz112_3 (by decide) rfl) ?_
      refine S_on rfl rfl ?_
      refine S_val (Y_load Try.underlying3 rfl rfl (B1.at (by rfl))) ?_  -- l12
      refine S_on rfl rfl ?_
      refine S_call rfl en68 (spec_l1In_c _ _ _ _) ?_  -- k7 spec.l1In
      rintro v w' ⟨rfl, rfl⟩
      refine S_val (Y_pickT rfl rfl) ?_
      refine S_val (Y_assign rfl) ?_
      refine S_nl rfl rfl ?_
      refine th_n (hK18 _ _ ?_)
      clear hK18 K18
      refine wp_ret ?_
      refine ib_r ?_
      refine th_r ?_
      clear hK4 K4
      refine ret_r1 rfl rfl ?_  -- r17
      exact ⟨by first | exact cvB_f (by unfold cvP; dsimp only; omega) | exact cvB_d (by unfold cvP; dsimp only; omega) | exact cvB_t (by unfold cvP; dsimp only; omega), G⟩
     · -- g12F
      first | with_reducible (replace hb5 := nb_nf hb5) | with_reducible (replace hb5 := nb_tf hb5) | with_reducible (replace hb5 := nb_bf hb5) | skip
      refine S_off rfl rfl ?_
      refine S_off rfl rfl ?_
      refine S_off rfl rfl ?_
      refine S_val (Y_pickF rfl rfl) ?_
      refine S_val (Y_assign rfl) ?_
      refine S_nl rfl rfl ?_
      refine th_n (hK18 _ _ ?_)
      clear hK18 K18
      refine wp_ret ?_
      refine ib_r ?_
      refine th_r ?_
      clear hK4 K4
      refine ret_r1 rfl rfl ?_  -- r18
      exact ⟨by first | exact cvB_f (by unfold cvP; dsimp only; omega) | exact cvB_d (by unfold cvP; dsimp only; omega) | exact cvB_t (by unfold cvP; dsimp only; omega), G⟩
    · -- g11F
     first | with_reducible (replace hb4 := nb_nf hb4) | with_reducible (replace hb4 := nb_tf hb4) | with_reducible (replace hb4 := nb_bf hb4) | skip
     refine S_off rfl rfl ?_
     refine S_val (Y_pickF rfl rfl) ?_
     refine S_val (Y_move rfl) ?_
     refine S_off rfl rfl ?_
     refine S_off rfl rfl ?_
     refine S_off rfl rfl ?_
     refine S_val (Y_pickF rfl rfl) ?_
     refine S_val (Y_assign rfl) ?_
     refine S_nl rfl rfl ?_
     refine th_n (hK18 _ _ ?_)
     clear hK18 K18
     refine wp_ret ?_
     refine ib_r ?_
     refine th_r ?_
     clear hK4 K4
     refine ret_r1 rfl rfl ?_  -- r19
     exact ⟨by first | exact cvB_f (by unfold cvP; dsimp only; omega) | exact cvB_d (by unfold cvP; dsimp only; omega) | exact cvB_t (by unfold cvP; dsimp only; omega), G⟩
   · -- c7F
    replace hb3 := nb_tf hb3
    refine wp_seq_k fun K19 hK19 => ?_
    refine Sb 75 rfl ?_  -- 9
    refine S_val (Y_eql rfl rfl) ?_
    refine S_val (Y_assign rfl) ?_
    refine S_nl rfl rfl ?_
    refine th_n (hK19 _ _ ?_)
    clear hK19 K19
    refine S_if rfl (fun hb4 => ?_) (fun hb4 => ?_)  -- c8
    · -- c8T
     replace hb4 := nb_tt hb4
     refine wp_seq_k fun K20 hK20 => ?_
     refine Sb 75 rfl ?_  -- 10
     refine S_val (Y_move rfl) ?_
     refine S_val (Y_move rfl) ?_
     refine S_g 41 rfl (fun hb5 => ?_) (fun hb5 => ?_)  -- g13
     · -- g13T
      first | with_reducible (replace hb5 := nb_nt hb5) | with_reducible (replace hb5 := nb_tt hb5) | with_reducible (replace hb5 := nb_bt hb5) | skip
      refine S_on rfl rfl ?_
      refine S_val (Y_move rfl) ?_
      refine S_val (Y_pickT rfl rfl) ?_
      refine S_val (Y_move rfl) ?_
      refine S_g 44 rfl (fun hb6 => ?_) (fun hb6 => ?_)  -- g14
      · -- g14T
       first | with_reducible (replace hb6 := nb_nt hb6) | with_reducible (replace hb6 := nb_tt hb6) | with_reducible (replace hb6 := nb_bt hb6) | skip
       refine S_on rfl rfl ?_
       refine S_val (Y_field Try.underlying112 rfl fz112_3 (by decide) rfl) ?_
       refine S_on rfl rfl ?_
       refine S_val (Y_load Try.underlying3 rfl rfl (B1.at (by rfl))) ?_  -- l13
       refine S_on rfl rfl ?_
       refine S_val (Y_eql rfl rfl) ?_
       refine S_val (Y_pickT rfl rfl) ?_
       refine S_val (Y_assign rfl) ?_
       refine S_nl rfl rfl ?_
       refine th_n (hK20 _ _ ?_)
       clear hK20 K20
       refine wp_ret ?_
       refine ib_r ?_
       refine th_r ?_
       clear hK4 K4
       refine ret_r1 rfl rfl ?_  -- r20
       exact ⟨by first | exact cvB_f (by unfold cvP; dsimp only; omega) | exact cvB_d (by unfold cvP; dsimp only; omega) | exact cvB_t (by unfold cvP; dsimp only; omega), G⟩
      · -- g14F
       first | with_reducible (replace hb6 := nb_nf hb6) | with_reducible (replace hb6 := nb_tf hb6) | with_reducible (replace hb6 := nb_bf hb6) | skip
       refine S_off rfl rfl ?_
       refine S_off rfl rfl ?_
       refine S_off rfl rfl ?_
       refine S_val (Y_pickF rfl rfl) ?_
       refine S_val (Y_assign rfl) ?_
       refine S_nl rfl rfl ?_
       refine th_n (hK20 _ _ ?_)
       clear hK20 K20
       refine wp_ret ?_
       refine ib_r ?_
       refine th_r ?_
       clear hK4 K4
       refine ret_r1 rfl rfl ?_  -- r21
       exact ⟨by first | exact cvB_f (by unfold cvP; dsimp only; omega) | exact cvB_d (by unfold cvP; dsimp only; omega) | exact cvB_t (by unfold cvP; dsimp only; omega), G⟩
     · -- g13F
      first | with_reducible (replace hb5 := nb_nf hb5) | with_reducible (replace hb5 := nb_tf hb5) | with_reducible (replace hb5 := nb_bf hb5) | skip
      refine S_off rfl rfl ?_
      refine S_val (Y_pickF rfl rfl) ?_
      refine S_val (Y_move rfl) ?_
      refine S_off rfl rfl ?_
      refine S_off rfl rfl ?_
      refine S_off rfl rfl ?_
      refine S_val (Y_pickF rfl rfl) ?_
      refine S_val (Y_assign rfl) ?_
      refine S_nl rfl rfl ?_
      refine th_n (hK20 _ _ ?_)
      clear hK20 K20
      refine wp_ret ?_
      refine ib_r ?_
      refine th_r ?_
      clear hK4 K4
      refine ret_r1 rfl rfl ?_  -- r22
      exact ⟨by first | exact cvB_f (by unfold cvP; dsimp only; omega) | exact cvB_d (by unfold cvP; dsimp only; omega) | exact cvB_t (by unfold cvP; dsimp only; omega), G⟩
    · -- c8F
     replace hb4 := nb_tf hb4
     refine wp_seq_k fun K21 hK21 => ?_
     refine Sb 75 rfl ?_  -- 11
     refine S_val (Y_eql rfl rfl) ?_
     refine S_val (Y_assign rfl) ?_
     refine S_nl rfl rfl ?_
     refine th_n (hK21 _ _ ?_)
     clear hK21 K21
     refine S_if rfl (fun hb5 => ?_) (fun hb5 => ?_)  -- c9
     · -- c9T
      replace hb5 := nb_tt hb5
      refine wp_seq_k fun K22 hK22 => ?_
      refine Sb 75 rfl ?_  -- 12
      refine S_val (Y_move rfl) ?_
      refine S_val (Y_move rfl) ?_
      refine S_g 52 rfl (fun hb6 => ?_) (fun hb6 => ?_)  -- g15
      · -- g15T
       first | with_reducible (replace hb6 := nb_nt hb6) | with_reducible (replace hb6 := nb_tt hb6) | with_reducible (replace hb6 := nb_bt hb6) | skip
       refine S_on rfl rfl ?_
       refine S_val (Y_field Try.underlying112 rfl fz112_2 (by decide) rfl) ?_
       refine S_on rfl rfl ?_
       refine S_val (Y_load Try.underlying3 rfl rfl (B1.at (by rfl))) ?_  -- l14
       refine S_on rfl rfl ?_
       refine S_val (Y_eql rfl rfl) ?_
       refine S_val (Y_pickT rfl rfl) ?_
       refine S_val (Y_move rfl) ?_
       refine S_g 57 rfl (fun hb7 => ?_) (fun hb7 => ?_)  -- g16
       · -- g16T
        first | with_reducible (replace hb7 := nb_nt hb7) | with_reducible (replace hb7 := nb_tt hb7) | with_reducible (replace hb7 := nb_bt hb7) | skip
        refine S_on rfl rfl ?_
        refine S_val (Y_field Try.underlying112 rfl fz112_3 (by decide) rfl) ?_
        refine S_on rfl rfl ?_
        refine S_val (Y_load Try.underlying3 rfl rfl (B1.at (by rfl))) ?_  -- l15
        refine S_on rfl rfl ?_
        refine S_val (Y_eql rfl rfl) ?_
        refine S_val (Y_pickT rfl rfl) ?_
        refine S_val (Y_assign rfl) ?_
        refine S_nl rfl rfl ?_
        refine th_n (hK22 _ _ ?_)
        clear hK22 K22
        refine wp_ret ?_
        refine ib_r ?_
        refine th_r ?_
        clear hK4 K4
        refine ret_r1 rfl rfl ?_  -- r23
        exact ⟨by first | exact cvB_f (by unfold cvP; dsimp only; omega) | exact cvB_d (by unfold cvP; dsimp only; omega) | exact cvB_t (by unfold cvP; dsimp only; omega), G⟩
       · -- g16F
        first | with_reducible (replace hb7 := nb_nf hb7) | with_reducible (replace hb7 := nb_tf hb7) | with_reducible (replace hb7 := nb_bf hb7) | skip
        refine S_off rfl rfl ?_
        refine S_off rfl rfl ?_
        refine S_off rfl rfl ?_
        refine S_val (Y_pickF rfl rfl) ?_
        refine S_val (Y_assign rfl) ?_
        refine S_nl rfl rfl ?_
        refine th_n (hK22 _ _ ?_)
        clear hK22 K22
        refine wp_ret ?_
        refine ib_r ?_
        refine th_r ?_
        clear hK4 K4
        refine ret_r1 rfl rfl ?_  -- r24
        exact ⟨by first | exact cvB_f (by unfold cvP; dsimp only; omega) | exact cvB_d (by unfold cvP; dsimp only; omega) | exact cvB_t (by unfold cvP; dsimp only; omega), G⟩
      · -- g15F
       first | with_reducible (replace hb6 := nb_nf hb6) | with_reducible (replace hb6 := nb_tf hb6) | with_reducible (replace hb6 := nb_bf hb6) | skip
       refine S_off rfl rfl ?_
       refine S_off rfl rfl ?_
       refine S_off rfl rfl ?_
       refine S_val (Y_pickF rfl rfl) ?_
       refine S_val (Y_move rfl) ?_
       refine S_off rfl rfl ?_
       refine S_off rfl rfl ?_
       refine S_off rfl rfl ?_
       refine S_val (Y_pickF rfl rfl) ?_
       refine S_val (Y_assign rfl) ?_
       refine S_nl rfl rfl ?_
       refine th_n (hK22 _ _ ?_)
       clear hK22 K22
       refine wp_ret ?_
       refine ib_r ?_
       refine th_r ?_
       clear hK4 K4
       refine ret_r1 rfl rfl ?_  -- r25
       exact ⟨by first | exact cvB_f (by unfold cvP; dsimp only; omega) | exact cvB_d (by unfold cvP; dsimp only; omega) | exact cvB_t (by unfold cvP; dsimp only; omega), G⟩
     · -- c9F
      replace hb5 := nb_tf hb5
      refine wp_seq_k fun K23 hK23 => ?_
      refine Sb 75 rfl ?_  -- 13
      refine S_val (Y_eql rfl rfl) ?_
      refine S_val (Y_assign rfl) ?_
      refine S_nl rfl rfl ?_
      refine th_n (hK23 _ _ ?_)
      clear hK23 K23
      refine S_if rfl (fun hb6 => ?_) (fun hb6 => ?_)  -- c10
      · -- c10T
       replace hb6 := nb_tt hb6
       refine wp_seq_k fun K24 hK24 => ?_
       refine Sb 75 rfl ?_  -- 14
       refine S_val (Y_move rfl) ?_
       refine S_val (Y_move rfl) ?_
       refine S_g 65 rfl (fun hb7 => ?_) (fun hb7 => ?_)  -- g17
       · -- g17T
        first | with_reducible (replace hb7 := nb_nt hb7) | with_reducible (replace hb7 := nb_tt hb7) | with_reducible (replace hb7 := nb_bt hb7) | skip
        refine S_on rfl rfl ?_
        refine S_val (Y_field Try.underlying112 rfl fz112_2 (by decide) rfl) ?_
        refine S_on rfl rfl ?_
        refine S_val (Y_load Try.underlying3 rfl rfl (B1.at (by rfl))) ?_  -- l16
        refine S_on rfl rfl ?_
        refine S_call rfl en68 (spec_l1In_c _ _ _ _) ?_  -- k8 spec.l1In
        rintro v w' ⟨rfl, rfl⟩
        refine S_val (Y_pickT rfl rfl) ?_
        refine S_val (Y_move rfl) ?_
        refine S_g 70 rfl (fun hb8 => ?_) (fun hb8 => ?_)  -- g18
        · -- g18T
         first | with_reducible (replace hb8 := nb_nt hb8) | with_reducible (replace hb8 := nb_tt hb8) | with_reducible (replace hb8 := nb_bt hb8) | skip
         refine S_on rfl rfl ?_
         refine S_val (Y_field Try.underlying112 rfl fz112_3 (by decide) rfl) ?_
         refine S_on rfl rfl ?_
         refine S_val (Y_load Try.underlying3 rfl rfl (B1.at (by rfl))) ?_  -- l17
         refine S_on rfl rfl ?_
         refine S_val (Y_eql rfl rfl) ?_
         refine S_val (Y_pickT rfl rfl) ?_
         refine S_val (Y_assign rfl) ?_
         refine S_nl rfl rfl ?_
         refine th_n (hK24 _ _ ?_)
         clear hK24 K24
         refine wp_ret ?_
         refine ib_r ?_
         refine th_r ?_
         clear hK4 K4
         refine ret_r1 rfl rfl ?_  -- r26
         exact ⟨by first | exact cvB_f (by unfold cvP; dsimp only; omega) | exact cvB_d (by unfold cvP; dsimp only; omega) | exact cvB_t (by unfold cvP; dsimp only; omega), G⟩
        · -- g18F
         first | with_reducible (replace hb8 := nb_nf hb8) | with_reducible (replace hb8 := nb_tf hb8) | with_reducible (replace hb8 := nb_bf hb8) | skip
         refine S_off rfl rfl ?_
         refine S_off rfl rfl ?_
         refine S_off rfl rfl ?_
         refine S_val (Y_pickF rfl rfl) ?_
         refine S_val (Y_assign rfl) ?_
         refine S_nl rfl rfl ?_
         refine th_n (hK24 _ _ ?_)
         clear hK24 K24
         refine wp_ret ?_
         refine ib_r ?_
         refine th_r ?_
         clear hK4 K4
         refine ret_r1 rfl rfl ?_  -- r27
         exact ⟨by first | exact cvB_f (by unfold cvP; dsimp only; omega) | exact cvB_d (by unfold cvP; dsimp only; omega) | exact cvB_t (by unfold cvP; dsimp only; omega), G⟩
       · -- g17F
        first | with_reducible (replace hb7 := nb_nf hb7) | with_reducible (replace hb7 := nb_tf hb7) | with_reducible (replace hb7 := nb_bf hb7) | skip
        refine S_off rfl rfl ?_
        refine S_off rfl rfl ?_
        refine S_off rfl rfl ?_
        refine S_val (Y_pickF rfl rfl) ?_
        refine S_val (Y_move rfl) ?_
        refine S_off rfl rfl ?_
        refine S_off rfl rfl ?_
        refine S_off rfl rfl ?_
        refine S_val (Y_pickF rfl rfl) ?_
        refine S_val (Y_assign rfl) ?_
        refine S_nl rfl rfl ?_
        refine th_n (hK24 _ _ ?_)
        clear hK24 K24
        refine wp_ret ?_
        refine ib_r ?_
        refine th_r ?_
        clear hK4 K4
        refine ret_r1 rfl rfl ?_  -- r28
        exact ⟨by first | exact cvB_f (by unfold cvP; dsimp only; omega) | exact cvB_d (by unfold cvP; dsimp only; omega) | exact cvB_t (by unfold cvP; dsimp only; omega), G⟩
      · -- c10F
       replace hb6 := nb_tf hb6
       refine wp_skip ?_
       refine ib_n ?_
       refine th_n (hK4 _ _ ?_)
       clear hK4 K4
       refine wp_seq_k fun K25 hK25 => ?_
       refine Sb 75 rfl ?_  -- 15
       refine S_val (Y_assign rfl) ?_
       refine S_nl rfl rfl ?_
       refine th_n (hK25 _ _ ?_)
       clear hK25 K25
       refine wp_ret ?_
       refine ret_r1 rfl rfl ?_  -- r29
       exact ⟨by first | exact cvB_f (by unfold cvP; dsimp only; omega) | exact cvB_d (by unfold cvP; dsimp only; omega) | exact cvB_t (by unfold cvP; dsimp only; omega), G⟩
theorem csB_bad {l : List LCmd} {k : Nat} (hk : k < l.length) (h : cvB l[k] = false) : Value.bool false = .bool (csB l) := by
  have := all_false hk h
  simp [csB, this]
theorem csB_ok {l : List LCmd} (h : l.all cvB = true) : Value.bool (decide (l.length ≤ 40)) = .bool (csB l) := by
  unfold csB
  rw [h]
  simp
set_option maxHeartbeats 400000 in
set_option maxRecDepth 20000 in
theorem spec_CommandsValid_c (Pr : Nat → Prop) (A : Option Addr) (xs : List LCmd) (c : Nat) (w : World) (hA : RO Pr w A xs) (hx : xs.length ≤ 1048576) :
    Calls Try.prog 117 #[.slice A xs.length c] w (Ret fun v w' => v = .bool (csB xs) ∧ Grow w w') := by
 refine enter Try.func117 rfl Try.ntmps117 (L := [_,_,_,_,_,_,_,_,_,_,_,_,_,_,_,_,_,_,_]) rfl ?_
 have G := Mod.refl No w
 have hA0 := hA
 refine wp_seq_k fun K1 hK1 => ?_
 refine Sb 19 rfl ?_  -- 0
 refine S_val (Y_assign rfl) ?_
 refine S_nl rfl rfl ?_
 refine th_n (hK1 _ _ ?_)
 clear hK1 K1
 refine wp_seq_k fun K2 hK2 => ?_
 refine wp_seq_k fun K3 hK3 => ?_
 refine Sb 19 rfl ?_  -- 1
 refine S_val (Y_assign rfl) ?_
 refine S_nl rfl rfl ?_
 refine th_n (hK3 _ _ ?_)
 clear hK3 K3
 refine wp_block ?_
 go_loopw [3] (fun u3 wr => (∃ k : Nat, u3 = .int .i64 k ∧ k ≤ xs.length ∧ (xs.take k).all cvB = true) ∧ Mod No w wr) (fun u3 wr => xs.length - (intOf u3).toNat)  -- L1
 case atStart =>
  refine ⟨?_, Mod.refl _ _⟩
  exact ⟨0, rfl, by omega, by simp⟩
 case round =>
  obtain ⟨w1, rfl⟩ : ∃ x : World, x = wr := ⟨_, rfl⟩
  obtain ⟨hrel, g1⟩ := hrel
  replace hA := hA.grow g1
  replace G := G.grow g1
  have zg1 := g1.size
  obtain ⟨k, rfl, hk, hs⟩ := hrel
  have GL1 := g1
  refine wp_seq_k fun K4 hK4 => ?_
  refine wp_seq_k fun K5 hK5 => ?_
  refine Sb 19 rfl ?_  -- 2
  refine S_val (Y_move rfl) ?_
  refine S_val (Y_move rfl) ?_
  refine S_val (Y_len Try.underlying93 rfl) ?_
  refine S_val (Y_lss rfl rfl) ?_
  refine S_nl rfl rfl ?_
  refine th_n (hK5 _ _ ?_)
  clear hK5 K5
  refine S_if rfl (fun hb1 => ?_) (fun hb1 => ?_)  -- c1
  · -- c1T
   replace hb1 := nb_tt hb1
   have hk1 : k < xs.length := by omega
   obtain ⟨g2, o2, rfl, hp2, cc20⟩ := hA0.cell hk1
   have cc2 := cc20.grow G
   refine wp_skip ?_
   refine th_n (hK4 _ _ ?_)
   clear hK4 K4
   refine wp_seq_k fun K6 hK6 => ?_
   refine wp_block ?_
   refine wp_seq_k fun K7 hK7 => ?_
   refine Sb 19 rfl ?_  -- 4
   refine S_val (Y_move rfl) ?_
   refine S_val (Y_move rfl) ?_
   refine S_val (Y_index Try.underlying93 sz112 rfl rfl (by first | assumption | omega)) ?_
   refine S_val (Y_loadS Try.underlying112 rfl sz112 rfl (by first | assumption | skip)) ?_  -- l1
   refine S_call rfl en125 (spec_CommandValid_c _ _ _ _ _) ?_  -- k1 spec.CommandValid
   rintro v2 w2 ⟨rfl, g2⟩
   replace hA := hA.grow g2
   replace cc2 := cc2.grow g2
   replace G := G.grow g2
   replace GL1 := GL1.grow g2
   have zg2 := g2.size
   refine S_val (Y_not rfl) ?_
   refine S_nl rfl rfl ?_
   refine th_n (hK7 _ _ ?_)
   clear hK7 K7
   refine S_if rfl (fun hb2 => ?_) (fun hb2 => ?_)  -- c2
   · -- c2T
    first | with_reducible (replace hb2 := nb_nt hb2) | with_reducible (replace hb2 := nb_tt hb2) | with_reducible (replace hb2 := nb_bt hb2) | skip
    refine wp_seq_k fun K8 hK8 => ?_
    refine Sb 19 rfl ?_  -- 5
    refine S_val (Y_assign rfl) ?_
    refine S_nl rfl rfl ?_
    refine th_n (hK8 _ _ ?_)
    clear hK8 K8
    refine wp_ret ?_
    refine ib_r ?_
    refine th_r ?_
    try clear GL1
    refine th_r ?_
    refine ib_r ?_
    refine th_r ?_
    clear hK6 K6 hK2 K2
    refine ret_r1 rfl rfl ?_  -- r1
    exact ⟨csB_bad hk1 hb2, G⟩
   · -- c2F
    first | with_reducible (replace hb2 := nb_nf hb2) | with_reducible (replace hb2 := nb_tf hb2) | with_reducible (replace hb2 := nb_bf hb2) | skip
    refine wp_skip ?_
    refine ib_n ?_
    refine th_n (hK6 _ _ ?_)
    clear hK6 K6
    refine Sb 19 rfl ?_  -- 3
    refine S_val (Y_move rfl) ?_
    refine S_val (Y_inc rfl rfl (by omega)) ?_
    refine S_val (Y_assign rfl) ?_
    refine S_nl rfl rfl ?_
    refine th_n ?_
    go_roundw  -- e1 of L1
    case rel =>
     refine ⟨?_, GL1⟩
     exact ⟨k + 1, rfl, by omega, all_take_succ (by omega) hs hb2⟩
    case measure =>
     exact dec_nat (by omega)
  · -- c1F
   replace hb1 := nb_tf hb1
   refine wp_exit ?_
   refine th_x ?_
   try clear GL1
   refine th_x ?_
   refine ib_e ?_
   refine th_n (hK2 _ _ ?_)
   clear hK4 K4 hK2 K2
   refine wp_seq_k fun K9 hK9 => ?_
   refine Sb 19 rfl ?_  -- 6
   refine S_val (Y_move rfl) ?_
   refine S_val (Y_len Try.underlying93 rfl) ?_
   refine S_val (Y_leq rfl rfl) ?_
   refine S_val (Y_assign rfl) ?_
   refine S_nl rfl rfl ?_
   refine th_n (hK9 _ _ ?_)
   clear hK9 K9
   refine wp_ret ?_
   refine ret_r1 rfl rfl ?_  -- r2
   rw [← csB_ok (all_of_take (by omega) hs)]
   exact ⟨bI (by omega), G⟩
end
/-! WalkW -/
section
open Go Go.RowKit
attribute [local irreducible] wpList wpAnyH Code.wp dOp
set_option maxHeartbeats 400000 in
set_option maxRecDepth 20000 in
theorem spec_l8Place_c (Pr : Nat → Prop) (A B : Option Addr) (h : LH) (c d n : Nat) (r pc : Int) (w : World) (hA : RC Pr w A h.cells) (hB : R1 Pr w B (ints h.roots)) (hz : hsize h ≤ 1048576) (va : Valid h) (hn : n < h.roots.length) (hr : h.roots[n] = r) :
    Calls Try.prog 131 #[.agg #[.slice A h.cells.length c, .slice B h.roots.length d], .int .i64 r, .int .i64 pc] w (Ret fun v w' => v = .bool (placeB h (n : Int) pc) ∧ Grow w w') := by
 have hz1 := hsize_cells h
 have hz2 := hsize_roots h
 refine enter Try.func131 rfl Try.ntmps131 (L := [_,_,_,_,_,_,_,_,_,_,_,_,_,_,_,_,_,_,_,_]) rfl ?_
 have G := Mod.refl No w
 have hA0 := hA
 have hB0 := hB
 refine wp_seq_k fun K1 hK1 => ?_
 refine Sb 20 rfl ?_  -- 0
 refine S_box (cs := [_, _]) rfl rfl ?_
 intro b1 w1 fb1 g1 B1
 have lb1 := B1.lt
 replace hA := hA.grow g1
 replace hB := hB.grow g1
 replace G := G.grow g1
 have zg1 := g1.size
 refine S_val (Y_assign rfl) ?_
 refine S_nl rfl rfl ?_
 refine th_n (hK1 _ _ ?_)
 clear hK1 K1
 refine wp_seq_k fun K2 hK2 => ?_
 refine Sb 20 rfl ?_  -- 1
 refine S_val (Y_move rfl) ?_
 refine S_val (Y_geq rfl rfl) ?_
 refine S_val (Y_move rfl) ?_
 refine S_g 9 rfl (fun hb1 => ?_) (fun hb1 => ?_)  -- g1
 · -- g1T
  replace hb1 := nb_tt hb1
  obtain ⟨m, hm, hmN⟩ := valid_root va hn (by omega)
  obtain ⟨g2, o2, E2, d2, rfl, hp2, cc20, _⟩ := hA0.cell hmN
  have cc2 := cc20.grow G
  have hpl := placeB_pos (c := pc) hn hm hmN
  rw [hr] at hm
  subst hm
  refine S_on rfl rfl ?_
  refine S_val (Y_move rfl) ?_
  refine S_on rfl rfl ?_
  refine S_val (Y_field Try.underlying26 rfl fz26_0 (by decide) rfl) ?_
  refine S_on rfl rfl ?_
  refine S_val (Y_load Try.underlying23 rfl rfl (B1.at (by rfl))) ?_  -- l1
  refine S_on rfl rfl ?_
  refine S_val (Y_move rfl) ?_
  refine S_on rfl rfl ?_
  refine S_val (Y_index Try.underlying23 sz37 rfl rfl (by first | assumption | omega)) ?_
  refine S_on rfl rfl ?_
  refine S_val (Y_field Try.underlying37 rfl fz37_2 (by decide) rfl) ?_
  refine S_on rfl rfl ?_
  refine S_val (Y_load Try.underlying24 rfl rfl (by first | assumption | exact cc2.at (by rfl) | exact B1.at (by rfl))) ?_  -- l2
  refine S_on rfl rfl ?_
  refine S_val (Y_len Try.underlying24 rfl) ?_
  refine S_on rfl rfl ?_
  refine S_val (Y_lss rfl rfl) ?_
  refine S_val (Y_pickT rfl rfl) ?_
  refine S_val (Y_assign rfl) ?_
  refine S_nl rfl rfl ?_
  refine th_n (hK2 _ _ ?_)
  clear hK2 K2
  refine wp_ret ?_
  refine ret_r1 rfl rfl ?_  -- r1
  exact ⟨by rw [hpl], G⟩
 · -- g1F
  replace hb1 := nb_tf hb1
  refine S_off rfl rfl ?_
  refine S_off rfl rfl ?_
  refine S_off rfl rfl ?_
  refine S_off rfl rfl ?_
  refine S_off rfl rfl ?_
  refine S_off rfl rfl ?_
  refine S_off rfl rfl ?_
  refine S_off rfl rfl ?_
  refine S_off rfl rfl ?_
  refine S_val (Y_pickF rfl rfl) ?_
  refine S_val (Y_assign rfl) ?_
  refine S_nl rfl rfl ?_
  refine th_n (hK2 _ _ ?_)
  clear hK2 K2
  refine wp_ret ?_
  refine ret_r1 rfl rfl ?_  -- r2
  exact ⟨by rw [placeB_neg hn (by omega)], G⟩
set_option maxHeartbeats 400000 in
set_option maxRecDepth 20000 in
theorem spec_CommandPossible_c (Pr : Nat → Prop) (A B : Option Addr) (h : LH) (c d : Nat) (oop oa ob oc : Int) (w : World) (hA : RC Pr w A h.cells) (hB : R1 Pr w B (ints h.roots)) (hz : hsize h ≤ 1048576) :
    Calls Try.prog 126 #[.agg #[.slice A h.cells.length c, .slice B h.roots.length d], .agg #[.int .i64 oop, .int .i64 oa, .int .i64 ob, .int .i64 oc]] w (Ret fun v w' => v = .bool (possB h ⟨oop, oa, ob, oc⟩) ∧ Grow w w') := by
 have hz1 := hsize_cells h
 have hz2 := hsize_roots h
 refine enter Try.func126 rfl Try.ntmps126 (L := [_,_,_,_,_,_,_,_,_,_,_,_,_,_,_,_,_,_,_,_,_,_,_,_,_,_,_,_,_,_,_,_,_,_,_,_,_,_,_,_,_,_,_,_,_,_,_,_]) rfl ?_
 have G := Mod.refl No w
 have hA0 := hA
 have hB0 := hB
 refine wp_seq_k fun K1 hK1 => ?_
 refine Sb 48 rfl ?_  -- 0
 refine S_box (cs := [_, _]) rfl rfl ?_
 intro b1 w1 fb1 g1 B1
 have lb1 := B1.lt
 replace hA := hA.grow g1
 replace hB := hB.grow g1
 replace G := G.grow g1
 have zg1 := g1.size
 refine S_box (cs := [_, _, _, _]) rfl rfl ?_
 intro b2 w2 fb2 g2 B2
 have lb2 := B2.lt
 replace hA := hA.grow g2
 replace hB := hB.grow g2
 replace G := G.grow g2
 replace B1 := B1.grow g2
 have zg2 := g2.size
 refine S_val (Y_assign rfl) ?_
 refine S_nl rfl rfl ?_
 refine th_n (hK1 _ _ ?_)
 clear hK1 K1
 refine wp_seq_k fun K2 hK2 => ?_
 refine wp_seq_k fun K3 hK3 => ?_
 refine Sb 48 rfl ?_  -- 1
 refine S_val (Y_loadS Try.underlying26 rfl sz26 rfl (B1.row (by rfl))) ?_  -- l1
 refine S_call rfl en19 (spec_HeapValid_c _ _ _ _ _ _ _ (by assumption) (by assumption) (by omega)) ?_  -- k1 spec.HeapValid
 rintro v3 w3 ⟨rfl, g3⟩
 replace hA := hA.grow g3
 replace hB := hB.grow g3
 replace G := G.grow g3
 replace B1 := B1.grow g3
 replace B2 := B2.grow g3
 have zg3 := g3.size
 refine S_val (Y_not rfl) ?_
 refine S_val (Y_move rfl) ?_
 refine S_g 8 rfl (fun hb1 => ?_) (fun hb1 => ?_)  -- g1
 · -- g1T
  first | with_reducible (replace hb1 := nb_nt hb1) | with_reducible (replace hb1 := nb_tt hb1) | with_reducible (replace hb1 := nb_bt hb1) | skip
  refine S_off rfl rfl ?_
  refine S_off rfl rfl ?_
  refine S_off rfl rfl ?_
  refine S_val (Y_pickT rfl rfl) ?_
  refine S_nl rfl rfl ?_
  refine th_n (hK3 _ _ ?_)
  clear hK3 K3
  refine S_ifT rfl ?_
  refine wp_seq_k fun K4 hK4 => ?_
  refine Sb 48 rfl ?_  -- 2
  refine S_val (Y_assign rfl) ?_
  refine S_nl rfl rfl ?_
  refine th_n (hK4 _ _ ?_)
  clear hK4 K4
  refine wp_ret ?_
  refine th_r ?_
  clear hK2 K2
  refine ret_r1 rfl rfl ?_  -- r1
  exact ⟨by rw [possB_f1 hb1], G⟩
 · -- g1F
  first | with_reducible (replace hb1 := nb_nf hb1) | with_reducible (replace hb1 := nb_tf hb1) | with_reducible (replace hb1 := nb_bf hb1) | skip
  have va := valid_iff.1 hb1
  have hr4 := va.roots4
  refine S_on rfl rfl ?_
  refine S_val (Y_loadS Try.underlying112 rfl sz112 rfl (B2.row (by rfl))) ?_  -- l2
  refine S_on rfl rfl ?_
  refine S_call rfl en125 (spec_CommandValid_c _ _ _ _ _) ?_  -- k2 spec.CommandValid
  rintro v4 w4 ⟨rfl, g4⟩
  replace hA := hA.grow g4
  replace hB := hB.grow g4
  replace G := G.grow g4
  replace B1 := B1.grow g4
  replace B2 := B2.grow g4
  have zg4 := g4.size
  refine S_on rfl rfl ?_
  refine S_val (Y_not rfl) ?_
  refine S_val (Y_pickF rfl rfl) ?_
  refine S_nl rfl rfl ?_
  refine th_n (hK3 _ _ ?_)
  clear hK3 K3
  refine S_if rfl (fun hb2 => ?_) (fun hb2 => ?_)  -- c1
  · -- c1T
   first | with_reducible (replace hb2 := nb_nt hb2) | with_reducible (replace hb2 := nb_tt hb2) | with_reducible (replace hb2 := nb_bt hb2) | skip
   refine wp_seq_k fun K5 hK5 => ?_
   refine Sb 48 rfl ?_  -- 2
   refine S_val (Y_assign rfl) ?_
   refine S_nl rfl rfl ?_
   refine th_n (hK5 _ _ ?_)
   clear hK5 K5
   refine wp_ret ?_
   refine th_r ?_
   clear hK2 K2
   refine ret_r1 rfl rfl ?_  -- r2
   exact ⟨by rw [possB_f2 hb2], G⟩
  · -- c1F
   first | with_reducible (replace hb2 := nb_nf hb2) | with_reducible (replace hb2 := nb_tf hb2) | with_reducible (replace hb2 := nb_bf hb2) | skip
   have hcp := cvB_d0 hb2
   have hcq := hcp
   unfold cvP at hcq
   dsimp only at hcq
   refine wp_skip ?_
   refine th_n (hK2 _ _ ?_)
   clear hK2 K2
   refine wp_seq_k fun K6 hK6 => ?_
   refine wp_seq_k fun K7 hK7 => ?_
   refine Sb 48 rfl ?_  -- 3
   refine S_val (Y_field Try.underlying112 rfl fz112_0 (by decide) rfl) ?_
   refine S_val (Y_load Try.underlying3 rfl rfl (B2.at (by rfl))) ?_  -- l3
   refine S_nl rfl rfl ?_
   refine th_n (hK7 _ _ ?_)
   clear hK7 K7
   refine wp_block ?_
   refine wp_seq_k fun K8 hK8 => ?_
   refine Sb 48 rfl ?_  -- 4
   refine S_val (Y_eql rfl rfl) ?_
   refine S_val (Y_assign rfl) ?_
   refine S_nl rfl rfl ?_
   refine th_n (hK8 _ _ ?_)
   clear hK8 K8
   refine S_if rfl (fun hb3 => ?_) (fun hb3 => ?_)  -- c2
   · -- c2T
    replace hb3 := nb_tt hb3
    obtain ⟨n, hn⟩ := Int.eq_ofNat_of_zero_le (show 0 ≤ ob by omega)
    subst hn
    have hn4 : n < h.roots.length := by omega
    refine wp_seq_k fun K9 hK9 => ?_
    refine D_start 11 48 (fun w => Mod (No) w) follows rfl rfl ?_  -- d1 r5
    intro w5 g5
    replace hA := hA.grow g5
    replace hB := hB.grow g5
    replace G := G.grow g5
    replace B1 := B1.grow g5
    replace B2 := B2.grow g5
    have zg5 := g5.size
    have GS5 := Mod.refl (No) w5
    obtain ⟨g1, o1, e1, hp1, hc1⟩ := hB.int hn4
    cases e1
    have B1d5 := B1
    have B2d5 := B2
    refine Dq (i := 0) rfl GS5 (fun _ hs => Y_loadS Try.underlying26 rfl sz26 rfl (by first | exact hs.cells0 (B1.row (by rfl)))) ?_
    refine Dq (i := 1) rfl GS5 (fun _ _ => Y_field Try.underlying26 rfl fz26_1 (by decide) rfl) ?_
    refine Dq (i := 2) rfl GS5 (fun _ hs => Y_load Try.underlying24 rfl rfl (hs.cell0 (B1.at (by rfl)))) ?_
    refine Dq (i := 3) rfl GS5 (fun _ _ => Y_field Try.underlying112 rfl fz112_2 (by decide) rfl) ?_
    refine Dq (i := 4) rfl GS5 (fun _ hs => Y_load Try.underlying3 rfl rfl (hs.cell0 (B2.at (by rfl)))) ?_
    refine Dq (i := 5) rfl GS5 (fun _ _ => Y_index Try.underlying24 sz3 rfl rfl (by first | assumption | omega)) ?_
    refine Dq (i := 6) rfl GS5 (fun _ hs => Y_load Try.underlying3 rfl rfl (by first | exact hs.cell0 (by assumption) | exact hs.cell0 (B1.at (by rfl)) | exact hs.cell0 (B2.at (by rfl)))) ?_
    refine Dq (i := 7) rfl GS5 (fun _ _ => Y_field Try.underlying112 rfl fz112_3 (by decide) rfl) ?_
    refine Dq (i := 8) rfl GS5 (fun _ hs => Y_load Try.underlying3 rfl rfl (hs.cell0 (B2.at (by rfl)))) ?_
    refine D_1 (i := 9) (by kernel_rfl) ?_
    refine E_call rfl rfl en131 (spec_l8Place_c _ _ _ h _ _ n _ _ _ hA hB (by omega) va hn4 rfl) ?_  -- k3 spec.l8Place
    rintro v6 w6 ⟨rfl, g6⟩
    replace hA := hA.grow g6
    replace hB := hB.grow g6
    replace G := G.grow g6
    replace GS5 := GS5.grow g6
    replace B1 := B1.grow g6
    replace B2 := B2.grow g6
    have zg6 := g6.size
    refine ⟨GS5, ?_⟩
    refine Dq (i := 10) rfl GS5 (fun _ _ => Y_assign rfl) ?_
    refine D_en (by kernel_rfl) rfl rfl ?_
    refine th_n (hK9 _ _ ?_)
    clear hK9 K9
    refine wp_ret ?_
    refine ib_r ?_
    refine th_r ?_
    clear hK6 K6
    refine ret_r1 rfl rfl ?_  -- r3
    exact ⟨by rw [possB_t hb1 hb2]; simp [effectB, hb3], G⟩
   · -- c2F
    replace hb3 := nb_tf hb3
    refine wp_seq_k fun K10 hK10 => ?_
    refine Sb 48 rfl ?_  -- 6
    refine S_val (Y_eql rfl rfl) ?_
    refine S_val (Y_assign rfl) ?_
    refine S_nl rfl rfl ?_
    refine th_n (hK10 _ _ ?_)
    clear hK10 K10
    refine S_if rfl (fun hb4 => ?_) (fun hb4 => ?_)  -- c3
    · -- c3T
     replace hb4 := nb_tt hb4
     obtain ⟨n, hn⟩ := Int.eq_ofNat_of_zero_le (show 0 ≤ oa by omega)
     subst hn
     have hn4 : n < h.roots.length := by omega
     refine wp_seq_k fun K11 hK11 => ?_
     refine D_start 11 48 (fun w => Mod (No) w) follows rfl rfl ?_  -- d2 r7
     intro w7 g7
     replace hA := hA.grow g7
     replace hB := hB.grow g7
     replace G := G.grow g7
     replace B1 := B1.grow g7
     replace B2 := B2.grow g7
     have zg7 := g7.size
     have GS7 := Mod.refl (No) w7
     obtain ⟨g1, o1, e1, hp1, hc1⟩ := hB.int hn4
     cases e1
     have B1d7 := B1
     have B2d7 := B2
     refine Dq (i := 0) rfl GS7 (fun _ hs => Y_loadS Try.underlying26 rfl sz26 rfl (by first | exact hs.cells0 (B1.row (by rfl)))) ?_
     refine Dq (i := 1) rfl GS7 (fun _ _ => Y_field Try.underlying26 rfl fz26_1 (by decide) rfl) ?_
     refine Dq (i := 2) rfl GS7 (fun _ hs => Y_load Try.underlying24 rfl rfl (hs.cell0 (B1.at (by rfl)))) ?_
     refine Dq (i := 3) rfl GS7 (fun _ _ => Y_field Try.underlying112 rfl fz112_1 (by decide) rfl) ?_
     refine Dq (i := 4) rfl GS7 (fun _ hs => Y_load Try.underlying3 rfl rfl (hs.cell0 (B2.at (by rfl)))) ?_
     refine Dq (i := 5) rfl GS7 (fun _ _ => Y_index Try.underlying24 sz3 rfl rfl (by first | assumption | omega)) ?_
     refine Dq (i := 6) rfl GS7 (fun _ hs => Y_load Try.underlying3 rfl rfl (by first | exact hs.cell0 (by assumption) | exact hs.cell0 (B1.at (by rfl)) | exact hs.cell0 (B2.at (by rfl)))) ?_
     refine Dq (i := 7) rfl GS7 (fun _ _ => Y_field Try.underlying112 rfl fz112_3 (by decide) rfl) ?_
     refine Dq (i := 8) rfl GS7 (fun _ hs => Y_load Try.underlying3 rfl rfl (hs.cell0 (B2.at (by rfl)))) ?_
     refine D_1 (i := 9) (by kernel_rfl) ?_
     refine E_call rfl rfl en131 (spec_l8Place_c _ _ _ h _ _ n _ _ _ hA hB (by omega) va hn4 rfl) ?_  -- k4 spec.l8Place
     rintro v8 w8 ⟨rfl, g8⟩
     replace hA := hA.grow g8
     replace hB := hB.grow g8
     replace G := G.grow g8
     replace GS7 := GS7.grow g8
     replace B1 := B1.grow g8
     replace B2 := B2.grow g8
     have zg8 := g8.size
     refine ⟨GS7, ?_⟩
     refine Dq (i := 10) rfl GS7 (fun _ _ => Y_assign rfl) ?_
     refine D_en (by kernel_rfl) rfl rfl ?_
     refine th_n (hK11 _ _ ?_)
     clear hK11 K11
     refine wp_ret ?_
     refine ib_r ?_
     refine th_r ?_
     clear hK6 K6
     refine ret_r1 rfl rfl ?_  -- r4
     exact ⟨by rw [possB_t hb1 hb2]; simp [effectB, hb3, hb4], G⟩
    · -- c3F
     replace hb4 := nb_tf hb4
     refine wp_seq_k fun K12 hK12 => ?_
     refine Sb 48 rfl ?_  -- 8
     refine S_val (Y_eql rfl rfl) ?_
     refine S_val (Y_assign rfl) ?_
     refine S_nl rfl rfl ?_
     refine th_n (hK12 _ _ ?_)
     clear hK12 K12
     refine S_if rfl (fun hb5 => ?_) (fun hb5 => ?_)  -- c4
     · -- c4T
      replace hb5 := nb_tt hb5
      obtain ⟨n, hn⟩ := Int.eq_ofNat_of_zero_le (show 0 ≤ oa by omega)
      subst hn
      have hn4 : n < h.roots.length := by omega
      obtain ⟨g1, o1, e1, hp1, hc1⟩ := hB.int hn4
      cases e1
      refine wp_seq_k fun K13 hK13 => ?_
      refine Sb 48 rfl ?_  -- 9
      refine S_val (Y_field Try.underlying26 rfl fz26_1 (by decide) rfl) ?_
      refine S_val (Y_load Try.underlying24 rfl rfl (B1.at (by rfl))) ?_  -- l14
      refine S_val (Y_field Try.underlying112 rfl fz112_1 (by decide) rfl) ?_
      refine S_val (Y_load Try.underlying3 rfl rfl (B2.at (by rfl))) ?_  -- l15
      refine S_val (Y_index Try.underlying24 sz3 rfl rfl (by first | assumption | omega)) ?_
      refine S_val (Y_load Try.underlying3 rfl rfl (by first | assumption | exact B1.at (by rfl) | exact B2.at (by rfl))) ?_  -- l16
      refine S_val (Y_geq rfl rfl) ?_
      refine S_val (Y_assign rfl) ?_
      refine S_nl rfl rfl ?_
      refine th_n (hK13 _ _ ?_)
      clear hK13 K13
      refine wp_ret ?_
      refine ib_r ?_
      refine th_r ?_
      clear hK6 K6
      refine ret_r1 rfl rfl ?_  -- r5
      exact ⟨by rw [possB_t hb1 hb2]; simp [effectB, hb3, hb4, hb5, rootB_at hn4], G⟩
     · -- c4F
      replace hb5 := nb_tf hb5
      refine wp_skip ?_
      refine ib_n ?_
      refine th_n (hK6 _ _ ?_)
      clear hK6 K6
      refine wp_seq_k fun K14 hK14 => ?_
      refine Sb 48 rfl ?_  -- 10
      refine S_val (Y_assign rfl) ?_
      refine S_nl rfl rfl ?_
      refine th_n (hK14 _ _ ?_)
      clear hK14 K14
      refine wp_ret ?_
      refine ret_r1 rfl rfl ?_  -- r6
      exact ⟨by rw [possB_t hb1 hb2]; simp [effectB, hb3, hb4, hb5], G⟩
end
/-! WalkO -/
section
open Go Go.RowKit
attribute [local irreducible] wpList wpAnyH Code.wp dOp
def emptyH : LH := ⟨[], List.replicate 4 (-1)⟩
theorem OH.bare {Pr : Nat → Prop} {w : World} {eC eI : TypeId} {A B : Option Addr} {xs : List Int} (r : OI Pr w eI B (ints xs)) : OH Pr w eC eI A B ⟨[], xs⟩ [] := ⟨OC.nil _ _ _ _ _, r, fun i c q h => by simp at h⟩
theorem rep_snoc (k : Nat) : List.replicate k (-1 : Int) ++ [-1] = List.replicate (k + 1) (-1) := by simp [List.replicate_succ']
end
/-! Lazy -/
section
open Go
section
variable {P : Program} {F : Fr} {w : World} {t t' : TypeId} {x y : Operand}
theorem Y_subU {a b : Nat} (hx : ev F x = some (.int .u64 (a : Int))) (hy : ev F y = some (.int .u64 (b : Int))) (h : b ≤ a) (ha : a < 2 ^ 64) : Yl P F (.binOp .sub t x y t') (.int .u64 ((a - b : Nat) : Int)) w w := fun D _ _ _ _ _ => by
  have key : IntKind.u64.wrap ((a : Int) - (b : Int)) = ((a - b : Nat) : Int) := by
    rw [wrap_u64]
    omega
  simp [execOp, ev_eval (D := D) hx, ev_eval (D := D) hy, eqGuard_sub, binOp_sub, Op.intArith]
  simpa using key
end
/-- A cell is as it may not be. -/
def lzBad (h : LH) (ms : List Bool) (a k : Nat) : Bool := (rB h k && !inB ms k) || ((inB ms k && !usedAt h.cells k) || (decide (k < a) && (!inB ms k && usedAt h.cells k)))
def lzOk (h : LH) (ms : List Bool) (a k : Nat) : Bool := (List.range k).all fun i => !lzBad h ms a i
/-- A lazy heap is valid. -/
def lazB (h : LH) (ms : List Bool) (x : Int) : Bool := validB h && (decide (ms.length = h.cells.length) && (decide (0 ≤ x) && (decide (x ≤ (ms.length : Int)) && lzOk h ms x.toNat h.cells.length)))
theorem lazB_f1 {h : LH} {ms : List Bool} {x : Int} (hv : validB h = false) : lazB h ms x = false := by simp [lazB, hv]
theorem lazB_f2 {h : LH} {ms : List Bool} {x : Int} (hv : ¬ ms.length = h.cells.length) : lazB h ms x = false := by simp [lazB, hv]
theorem lazB_f3 {h : LH} {ms : List Bool} {x : Int} (hv : ¬ (0 ≤ x ∧ x ≤ (ms.length : Int))) : lazB h ms x = false := by
  unfold lazB
  by_cases h1 : 0 ≤ x
  · have h2 : ¬ x ≤ (ms.length : Int) := fun h2 => hv ⟨h1, h2⟩
    simp [h2]
  · simp [h1]
theorem lazB_t {h : LH} {ms : List Bool} {a : Nat} (hv : validB h = true) (hl : ms.length = h.cells.length) (ha : a ≤ ms.length) : lazB h ms (a : Int) = lzOk h ms a h.cells.length := by
  unfold lazB
  rw [hv]
  simp [hl]
  omega
/-- The program's three sets are empty just if no cell is as it may not be. -/
theorem zero_iff {m : Nat} : ((m : Nat) : Int) = 0 ↔ ∀ i, m.testBit i = false := by
  constructor
  · intro h i
    have : m = 0 := by omega
    rw [this, Nat.zero_testBit]
  · intro h
    have : m = 0 := Nat.eq_of_testBit_eq fun i => by rw [h i, Nat.zero_testBit]
    omega
theorem lz_iff {h : LH} {ms : List Bool} {r m u a : Nat} (hr0 : r < 2 ^ 64) (hr : ∀ i, r.testBit i = (decide (i < h.cells.length) && rB h i)) (hm : SetOf m ms) (hu : SetOf u (usedL h.cells)) (hl : ms.length = h.cells.length) (_ha : a < 64) :
    lzOk h ms a h.cells.length = (decide (((lessN r m : Nat) : Int) = 0) && (decide (((lessN m u : Nat) : Int) = 0) && decide (((lessN (u &&& (2 ^ a - 1)) m : Nat) : Int) = 0))) := by
  have hub : (u &&& (2 ^ a - 1)) < 2 ^ 64 := Nat.lt_of_le_of_lt Nat.and_le_left hu.1
  rw [Bool.eq_iff_iff]
  simp only [Bool.and_eq_true, decide_eq_true_eq, zero_iff, lessN_bit hr0 hm.1, lessN_bit hm.1 hu.1, lessN_bit hub hm.1, Nat.testBit_and, Nat.testBit_two_pow_sub_one, used_set hu]
  have hmi : ∀ i, m.testBit i = inB ms i := fun i => congrFun (set_in hm) i
  simp only [hmi, hr]
  unfold lzOk
  rw [List.all_eq_true]
  constructor
  · intro h0
    have h1 : ∀ i, i < h.cells.length → lzBad h ms a i = false := fun i hi => by simpa using h0 i (by simp [hi])
    have h2 : ∀ i, ¬ i < h.cells.length → inB ms i = false ∧ usedAt h.cells i = false := fun i hi => by
      refine ⟨by unfold inB; rw [List.getElem?_eq_none (by omega)]; rfl, ?_⟩
      unfold usedAt
      rw [List.getElem?_eq_none (by omega)]
    refine ⟨fun i => ?_, fun i => ?_, fun i => ?_⟩ <;> by_cases hi : i < h.cells.length
    · have := h1 i hi
      unfold lzBad at this
      revert this
      cases rB h i <;> cases inB ms i <;> simp
    · simp [hi]
    · have := h1 i hi
      unfold lzBad at this
      revert this
      cases inB ms i <;> cases usedAt h.cells i <;> simp
    · simp [(h2 i hi).1]
    · have := h1 i hi
      unfold lzBad at this
      revert this
      cases inB ms i <;> cases usedAt h.cells i <;> cases decide (i < a) <;> simp
    · simp [(h2 i hi).2]
  · intro ⟨h1, h2, h3⟩ i hi
    have hi' : i < h.cells.length := by simpa using hi
    have e1 := h1 i
    have e2 := h2 i
    have e3 := h3 i
    unfold lzBad
    revert e1 e2 e3
    rw [decide_eq_true hi']
    cases rB h i <;> cases inB ms i <;> cases usedAt h.cells i <;> cases decide (i < a) <;> simp
end
/-! WalkL -/
section
open Go Go.RowKit
attribute [local irreducible] wpList wpAnyH Code.wp dOp
theorem reach_bits {h : LH} {m u : Nat} (va : Valid h) (hu : SetOf u (usedL h.cells)) (hr : ∀ n, m.testBit n = true ↔ Rch h.cells h.roots (hasB u) n) (i : Nat) : m.testBit i = (decide (i < h.cells.length) && rB h i) := by
  rw [Bool.eq_iff_iff, hr, rch_used va.leadsU hu]
  unfold rB
  rw [Bool.and_eq_true, decide_eq_true_eq, decide_eq_true_eq, orderL_mem va.leads]
  exact ⟨fun hh => ⟨hh.lt va.leads, hh⟩, fun hh => hh.2⟩
set_option maxHeartbeats 400000 in
set_option maxRecDepth 20000 in
theorem impl_reachable2_c (Pr : Nat → Prop) (A B : Option Addr) (h : LH) (c d : Nat) (w : World) (hA : RC Pr w A h.cells) (hB : R1 Pr w B (ints h.roots)) (hz : hsize h ≤ 1048576) (va : Valid h) :
    Calls Try.prog 71 #[.agg #[.slice A h.cells.length c, .slice B h.roots.length d]] w (Ret fun v w' => ∃ m : Nat, v = .int .u64 (m : Int) ∧ m < 2 ^ 64 ∧ (∀ i, m.testBit i = (decide (i < h.cells.length) && rB h i)) ∧ Grow w w') := by
 have h40 := va.le
 have hr4 := va.roots4
 refine enter Try.func71 rfl Try.ntmps71 (L := [_,_,_,_,_,_,_,_,_]) rfl ?_
 have G := Mod.refl No w
 have hA0 := hA
 have hB0 := hB
 refine wp_seq_k fun K1 hK1 => ?_
 refine Sb 9 rfl ?_  -- 0
 refine S_box (cs := [_, _]) rfl rfl ?_
 intro b1 w1 fb1 g1 B1
 have lb1 := B1.lt
 replace hA := hA.grow g1
 replace hB := hB.grow g1
 replace G := G.grow g1
 have zg1 := g1.size
 refine S_val (Y_assign rfl) ?_
 refine S_nl rfl rfl ?_
 refine th_n (hK1 _ _ ?_)
 clear hK1 K1
 refine wp_seq_k fun K2 hK2 => ?_
 refine D_start 7 9 (fun w => Mod (No) w) follows rfl rfl ?_  -- d1 r1
 intro w2 g2
 replace hA := hA.grow g2
 replace hB := hB.grow g2
 replace G := G.grow g2
 replace B1 := B1.grow g2
 have zg2 := g2.size
 have GS2 := Mod.refl (No) w2
 have B1d2 := B1
 refine Dq (i := 0) rfl GS2 (fun _ hs => Y_loadS Try.underlying26 rfl sz26 rfl (by first | exact hs.cells0 (B1.row (by rfl)))) ?_
 refine Dq (i := 1) rfl GS2 (fun _ _ => Y_field Try.underlying26 rfl fz26_1 (by decide) rfl) ?_
 refine Dq (i := 2) rfl GS2 (fun _ hs => Y_load Try.underlying24 rfl rfl (hs.cell0 (B1.at (by rfl)))) ?_
 refine Dq (i := 3) rfl GS2 (fun _ hs => Y_loadS Try.underlying26 rfl sz26 rfl (by first | exact hs.cells0 (B1.row (by rfl)))) ?_
 refine D_1 (i := 4) (by kernel_rfl) ?_
 refine E_call rfl rfl en79 (impl_usedSet_c _ _ _ _ _ _ _ (by assumption) (by omega)) ?_  -- k1 impl.usedSet
 rintro v3 w3 ⟨s3, rfl, hs3, g3⟩
 replace hA := hA.grow g3
 replace hB := hB.grow g3
 replace G := G.grow g3
 replace GS2 := GS2.grow g3
 replace B1 := B1.grow g3
 have zg3 := g3.size
 refine ⟨GS2, ?_⟩
 refine D_1 (i := 5) (by kernel_rfl) ?_
 refine E_call rfl rfl en109 (impl_closure_c _ _ _ _ _ _ _ _ _ _ _ _ (by assumption) (by assumption) (by omega) (by omega) hs3.1 hs3.lt (by omega)) ?_  -- k2 impl.closure
 rintro v4 w4 ⟨s4, rfl, hs4, hr4, g4⟩
 replace hA := hA.grow g4
 replace hB := hB.grow g4
 replace G := G.grow g4
 replace GS2 := GS2.grow g4
 replace B1 := B1.grow g4
 have zg4 := g4.size
 refine ⟨GS2, ?_⟩
 refine Dq (i := 6) rfl GS2 (fun _ _ => Y_assign rfl) ?_
 refine D_en (by kernel_rfl) rfl rfl ?_
 refine th_n (hK2 _ _ ?_)
 clear hK2 K2
 refine wp_ret ?_
 refine ret_r1 rfl rfl ?_  -- r1
 exact ⟨_, rfl, hs4, reach_bits va hs3 hr4, G⟩
set_option maxHeartbeats 400000 in
set_option maxRecDepth 20000 in
theorem impl_LazyValid_c (Pr : Nat → Prop) (A B C : Option Addr) (h : LH) (ms : List Bool) (x : Int) (c d e : Nat) (w : World) (hA : RC Pr w A h.cells) (hB : R1 Pr w B (ints h.roots)) (hC : R1 Pr w C (bools ms)) (hz : hsize h ≤ 1048576) (_hxz : ms.length ≤ 1048576) (_hx : -9223372036854775808 ≤ x ∧ x ≤ 9223372036854775807) :
    Calls Try.prog 33 #[.agg #[.slice A h.cells.length c, .slice B h.roots.length d, .slice C ms.length e, .int .i64 x]] w (Ret fun v w' => v = .bool (lazB h ms x) ∧ Grow w w') := by
 have hz1 := hsize_cells h
 have hz2 := hsize_roots h
 refine enter Try.func33 rfl Try.ntmps33 (L := [_,_,_,_,_,_,_,_,_,_,_,_,_,_,_,_,_,_,_,_,_,_,_,_,_,_,_,_,_,_,_,_,_,_,_,_,_,_,_,_,_,_,_,_,_,_,_,_,_,_,_,_,_,_,_,_,_,_,_,_,_,_,_]) rfl ?_
 have G := Mod.refl No w
 have hA0 := hA
 have hB0 := hB
 have hC0 := hC
 refine wp_seq_k fun K1 hK1 => ?_
 refine Sb 63 rfl ?_  -- 0
 refine S_box (cs := [_, _, _, _]) rfl rfl ?_
 intro b1 w1 fb1 g1 B1
 have lb1 := B1.lt
 replace hA := hA.grow g1
 replace hB := hB.grow g1
 replace hC := hC.grow g1
 replace G := G.grow g1
 have zg1 := g1.size
 refine S_val (Y_assign rfl) ?_
 refine S_nl rfl rfl ?_
 refine th_n (hK1 _ _ ?_)
 clear hK1 K1
 refine wp_seq_k fun K2 hK2 => ?_
 refine wp_seq_k fun K3 hK3 => ?_
 refine Sb 63 rfl ?_  -- 1
 refine S_val (Y_field Try.underlying39 rfl fz39_0 (by decide) rfl) ?_
 refine S_val (Y_loadS Try.underlying26 rfl sz26 rfl (CellsAt.of_blk (pre := []) (us := [_, _]) (post := [_, _]) B1 rfl)) ?_  -- l1
 refine S_call rfl en63 (impl_HeapValid_c _ _ _ _ _ _ _ (by assumption) (by assumption) (by omega)) ?_  -- k1 impl.HeapValid
 rintro v2 w2 ⟨rfl, g2⟩
 replace hA := hA.grow g2
 replace hB := hB.grow g2
 replace hC := hC.grow g2
 replace G := G.grow g2
 replace B1 := B1.grow g2
 have zg2 := g2.size
 refine S_val (Y_not rfl) ?_
 refine S_val (Y_move rfl) ?_
 refine S_g 10 rfl (fun hb1 => ?_) (fun hb1 => ?_)  -- g1
 · -- g1T
  first | with_reducible (replace hb1 := nb_nt hb1) | with_reducible (replace hb1 := nb_tt hb1) | with_reducible (replace hb1 := nb_bt hb1) | skip
  refine S_off rfl rfl ?_
  refine S_off rfl rfl ?_
  refine S_off rfl rfl ?_
  refine S_off rfl rfl ?_
  refine S_off rfl rfl ?_
  refine S_off rfl rfl ?_
  refine S_off rfl rfl ?_
  refine S_off rfl rfl ?_
  refine S_val (Y_pickT rfl rfl) ?_
  refine S_val (Y_move rfl) ?_
  refine S_off rfl rfl ?_
  refine S_off rfl rfl ?_
  refine S_off rfl rfl ?_
  refine S_val (Y_pickT rfl rfl) ?_
  refine S_val (Y_move rfl) ?_
  refine S_off rfl rfl ?_
  refine S_off rfl rfl ?_
  refine S_off rfl rfl ?_
  refine S_off rfl rfl ?_
  refine S_off rfl rfl ?_
  refine S_off rfl rfl ?_
  refine S_val (Y_pickT rfl rfl) ?_
  refine S_nl rfl rfl ?_
  refine th_n (hK3 _ _ ?_)
  clear hK3 K3
  refine S_ifT rfl ?_
  refine wp_seq_k fun K4 hK4 => ?_
  refine Sb 63 rfl ?_  -- 2
  refine S_val (Y_assign rfl) ?_
  refine S_nl rfl rfl ?_
  refine th_n (hK4 _ _ ?_)
  clear hK4 K4
  refine wp_ret ?_
  refine th_r ?_
  clear hK2 K2
  refine ret_r1 rfl rfl ?_  -- r1
  exact ⟨by rw [lazB_f1 hb1], G⟩
 · -- g1F
  first | with_reducible (replace hb1 := nb_nf hb1) | with_reducible (replace hb1 := nb_tf hb1) | with_reducible (replace hb1 := nb_bf hb1) | skip
  have va := valid_iff.1 hb1
  have hl := va.leads
  have h40 := va.le
  have hr4 := va.roots4
  refine S_on rfl rfl ?_
  refine S_val (Y_field Try.underlying39 rfl fz39_1 (by decide) rfl) ?_
  refine S_on rfl rfl ?_
  refine S_val (Y_load Try.underlying32 rfl rfl (B1.at (by rfl))) ?_  -- l2
  refine S_on rfl rfl ?_
  refine S_val (Y_len Try.underlying32 rfl) ?_
  refine S_on rfl rfl ?_
  refine S_val (Y_field Try.underlying39 rfl fz39_0 (by decide) rfl) ?_
  refine S_on rfl rfl ?_
  refine S_val (Y_field Try.underlying26 rfl fz26_0 (by decide) rfl) ?_
  refine S_on rfl rfl ?_
  refine S_val (Y_load Try.underlying23 rfl rfl (B1.at (by rfl))) ?_  -- l3
  refine S_on rfl rfl ?_
  refine S_val (Y_len Try.underlying23 rfl) ?_
  refine S_on rfl rfl ?_
  refine S_val (Y_neq rfl rfl) ?_
  refine S_val (Y_pickF rfl rfl) ?_
  refine S_val (Y_move rfl) ?_
  refine S_g 20 rfl (fun hb2 => ?_) (fun hb2 => ?_)  -- g2
  · -- g2T
   first | with_reducible (replace hb2 := nb_nt hb2) | with_reducible (replace hb2 := nb_tt hb2) | with_reducible (replace hb2 := nb_bt hb2) | skip
   refine S_off rfl rfl ?_
   refine S_off rfl rfl ?_
   refine S_off rfl rfl ?_
   refine S_val (Y_pickT rfl rfl) ?_
   refine S_val (Y_move rfl) ?_
   refine S_off rfl rfl ?_
   refine S_off rfl rfl ?_
   refine S_off rfl rfl ?_
   refine S_off rfl rfl ?_
   refine S_off rfl rfl ?_
   refine S_off rfl rfl ?_
   refine S_val (Y_pickT rfl rfl) ?_
   refine S_nl rfl rfl ?_
   refine th_n (hK3 _ _ ?_)
   clear hK3 K3
   refine S_ifT rfl ?_
   refine wp_seq_k fun K5 hK5 => ?_
   refine Sb 63 rfl ?_  -- 2
   refine S_val (Y_assign rfl) ?_
   refine S_nl rfl rfl ?_
   refine th_n (hK5 _ _ ?_)
   clear hK5 K5
   refine wp_ret ?_
   refine th_r ?_
   clear hK2 K2
   refine ret_r1 rfl rfl ?_  -- r2
   exact ⟨by rw [lazB_f2 (by omega)], G⟩
  · -- g2F
   first | with_reducible (replace hb2 := nb_nf hb2) | with_reducible (replace hb2 := nb_tf hb2) | with_reducible (replace hb2 := nb_bf hb2) | skip
   refine S_on rfl rfl ?_
   refine S_val (Y_field Try.underlying39 rfl fz39_2 (by decide) rfl) ?_
   refine S_on rfl rfl ?_
   refine S_val (Y_load Try.underlying3 rfl rfl (B1.at (by rfl))) ?_  -- l4
   refine S_on rfl rfl ?_
   refine S_val (Y_lss rfl rfl) ?_
   refine S_val (Y_pickF rfl rfl) ?_
   refine S_val (Y_move rfl) ?_
   refine S_g 25 rfl (fun hb3 => ?_) (fun hb3 => ?_)  -- g3
   · -- g3T
    first | with_reducible (replace hb3 := nb_nt hb3) | with_reducible (replace hb3 := nb_tt hb3) | with_reducible (replace hb3 := nb_bt hb3) | skip
    refine S_off rfl rfl ?_
    refine S_off rfl rfl ?_
    refine S_off rfl rfl ?_
    refine S_off rfl rfl ?_
    refine S_off rfl rfl ?_
    refine S_off rfl rfl ?_
    refine S_val (Y_pickT rfl rfl) ?_
    refine S_nl rfl rfl ?_
    refine th_n (hK3 _ _ ?_)
    clear hK3 K3
    refine S_ifT rfl ?_
    refine wp_seq_k fun K6 hK6 => ?_
    refine Sb 63 rfl ?_  -- 2
    refine S_val (Y_assign rfl) ?_
    refine S_nl rfl rfl ?_
    refine th_n (hK6 _ _ ?_)
    clear hK6 K6
    refine wp_ret ?_
    refine th_r ?_
    clear hK2 K2
    refine ret_r1 rfl rfl ?_  -- r3
    exact ⟨by rw [lazB_f3 (by omega)], G⟩
   · -- g3F
    first | with_reducible (replace hb3 := nb_nf hb3) | with_reducible (replace hb3 := nb_tf hb3) | with_reducible (replace hb3 := nb_bf hb3) | skip
    refine S_on rfl rfl ?_
    refine S_val (Y_field Try.underlying39 rfl fz39_2 (by decide) rfl) ?_
    refine S_on rfl rfl ?_
    refine S_val (Y_load Try.underlying3 rfl rfl (B1.at (by rfl))) ?_  -- l5
    refine S_on rfl rfl ?_
    refine S_val (Y_field Try.underlying39 rfl fz39_1 (by decide) rfl) ?_
    refine S_on rfl rfl ?_
    refine S_val (Y_load Try.underlying32 rfl rfl (B1.at (by rfl))) ?_  -- l6
    refine S_on rfl rfl ?_
    refine S_val (Y_len Try.underlying32 rfl) ?_
    refine S_on rfl rfl ?_
    refine S_val (Y_gtr rfl rfl) ?_
    refine S_val (Y_pickF rfl rfl) ?_
    refine S_nl rfl rfl ?_
    refine th_n (hK3 _ _ ?_)
    clear hK3 K3
    refine S_if rfl (fun hb4 => ?_) (fun hb4 => ?_)  -- c1
    · -- c1T
     first | with_reducible (replace hb4 := nb_nt hb4) | with_reducible (replace hb4 := nb_tt hb4) | with_reducible (replace hb4 := nb_bt hb4) | skip
     refine wp_seq_k fun K7 hK7 => ?_
     refine Sb 63 rfl ?_  -- 2
     refine S_val (Y_assign rfl) ?_
     refine S_nl rfl rfl ?_
     refine th_n (hK7 _ _ ?_)
     clear hK7 K7
     refine wp_ret ?_
     refine th_r ?_
     clear hK2 K2
     refine ret_r1 rfl rfl ?_  -- r4
     exact ⟨by rw [lazB_f3 (by omega)], G⟩
    · -- c1F
     first | with_reducible (replace hb4 := nb_nf hb4) | with_reducible (replace hb4 := nb_tf hb4) | with_reducible (replace hb4 := nb_bf hb4) | skip
     have hlen : ms.length = h.cells.length := by omega
     obtain ⟨a, rfl⟩ := Int.eq_ofNat_of_zero_le (show 0 ≤ x by omega)
     have ha64 : a < 64 := by omega
     have hp64 : 1 * 2 ^ a < 2 ^ 64 := by rw [Nat.one_mul]; exact Nat.pow_lt_pow_right (by decide) ha64
     have hp1 : 1 ≤ 1 * 2 ^ a := by rw [Nat.one_mul]; exact Nat.one_le_two_pow
     have hbl : 1 * 2 ^ a - 1 < 2 ^ 64 := by omega
     refine wp_skip ?_
     refine th_n (hK2 _ _ ?_)
     clear hK2 K2
     refine wp_seq_k fun K8 hK8 => ?_
     refine D_start 8 63 (fun w => Mod (No) w) follows rfl rfl ?_  -- d1 r3
     intro w3 g3
     replace hA := hA.grow g3
     replace hB := hB.grow g3
     replace hC := hC.grow g3
     replace G := G.grow g3
     replace B1 := B1.grow g3
     have zg3 := g3.size
     have GS3 := Mod.refl (No) w3
     have B1d3 := B1
     refine Dq (i := 0) rfl GS3 (fun _ _ => Y_field Try.underlying39 rfl fz39_0 (by decide) rfl) ?_
     refine Dq (i := 1) rfl GS3 (fun _ hs => Y_loadS Try.underlying26 rfl sz26 rfl (by first | exact hs.cells0 ((CellsAt.of_blk (pre := []) (us := [_, _]) (post := [_, _]) B1 rfl)))) ?_
     refine Dq (i := 3) rfl GS3 (fun _ _ => Y_field Try.underlying39 rfl fz39_1 (by decide) rfl) ?_
     refine Dq (i := 4) rfl GS3 (fun _ hs => Y_load Try.underlying32 rfl rfl (hs.cell0 (B1.at (by rfl)))) ?_
     refine D_1 (i := 2) (by kernel_rfl) ?_
     refine E_call rfl rfl en79 (impl_usedSet_c _ _ _ _ _ _ _ (by assumption) (by omega)) ?_  -- k2 impl.usedSet
     rintro v4 w4 ⟨s4, rfl, hs4, g4⟩
     replace hA := hA.grow g4
     replace hB := hB.grow g4
     replace hC := hC.grow g4
     replace G := G.grow g4
     replace GS3 := GS3.grow g4
     replace B1 := B1.grow g4
     have zg4 := g4.size
     have hU := hs4
     refine ⟨GS3, ?_⟩
     refine D_1 (i := 5) (by kernel_rfl) ?_
     refine E_call rfl rfl en80 (impl_setOf_c _ _ _ _ _ (by assumption) (by omega)) ?_  -- k3 impl.setOf
     rintro v5 w5 ⟨s5, rfl, hs5, g5⟩
     replace hA := hA.grow g5
     replace hB := hB.grow g5
     replace hC := hC.grow g5
     replace G := G.grow g5
     replace GS3 := GS3.grow g5
     replace B1 := B1.grow g5
     have zg5 := g5.size
     have hM := hs5
     refine ⟨GS3, ?_⟩
     refine Dq (i := 6) rfl GS3 (fun _ _ => Y_assign rfl) ?_
     refine Dq (i := 7) rfl GS3 (fun _ _ => Y_assign rfl) ?_
     refine D_en (by kernel_rfl) rfl rfl ?_
     refine th_n (hK8 _ _ ?_)
     clear hK8 K8
     refine wp_seq_k fun K9 hK9 => ?_
     refine Sb 63 rfl ?_  -- 4
     refine S_val (Y_field Try.underlying39 rfl fz39_2 (by decide) rfl) ?_
     refine S_val (Y_load Try.underlying3 rfl rfl (B1.at (by rfl))) ?_  -- l9
     refine S_val (Y_shl (a := 1) rfl rfl hp64 ha64) ?_
     refine S_val (Y_subU (b := 1) rfl rfl hp1 hp64) ?_
     refine S_val (Y_assign rfl) ?_
     refine S_nl rfl rfl ?_
     refine th_n (hK9 _ _ ?_)
     clear hK9 K9
     refine wp_seq_k fun K10 hK10 => ?_
     refine Sb 63 rfl ?_  -- 5
     refine S_val (Y_field Try.underlying39 rfl fz39_0 (by decide) rfl) ?_
     refine S_val (Y_loadS Try.underlying26 rfl sz26 rfl (CellsAt.of_blk (pre := []) (us := [_, _]) (post := [_, _]) B1 rfl)) ?_  -- l10
     refine S_call rfl en71 (impl_reachable2_c _ _ _ _ _ _ _ (by assumption) (by assumption) (by omega) (by assumption)) ?_  -- k4 impl.reachable
     rintro v6 w6 ⟨s6, rfl, hs6, hr6, g6⟩
     replace hA := hA.grow g6
     replace hB := hB.grow g6
     replace hC := hC.grow g6
     replace G := G.grow g6
     replace B1 := B1.grow g6
     have zg6 := g6.size
     have hR0 := hs6
     have hRb := hr6
     have hlz := lz_iff hR0 hRb hM hU hlen ha64
     rw [show 2 ^ a - 1 = 1 * 2 ^ a - 1 by rw [Nat.one_mul]] at hlz
     have hR2 := lessN_lt (b := 0) hR0
     refine S_val (Y_move rfl) ?_
     refine S_val (Y_andNot rfl rfl (by first | assumption | exact SetOf.wlt (by assumption)) (by first | assumption | exact SetOf.wlt (by assumption))) ?_
     refine S_val (Y_eql rfl rfl) ?_
     refine S_val (Y_move rfl) ?_
     refine S_g 49 rfl (fun hb5 => ?_) (fun hb5 => ?_)  -- g4
     · -- g4T
      replace hb5 := nb_tt hb5
      refine S_on rfl rfl ?_
      refine S_val (Y_move rfl) ?_
      refine S_on rfl rfl ?_
      refine S_val (Y_move rfl) ?_
      refine S_on rfl rfl ?_
      refine S_val (Y_andNot rfl rfl (by first | assumption | exact SetOf.wlt (by assumption)) (by first | assumption | exact SetOf.wlt (by assumption))) ?_
      refine S_on rfl rfl ?_
      refine S_val (Y_eql rfl rfl) ?_
      refine S_val (Y_pickT rfl rfl) ?_
      refine S_val (Y_move rfl) ?_
      refine S_g 55 rfl (fun hb6 => ?_) (fun hb6 => ?_)  -- g5
      · -- g5T
       first | with_reducible (replace hb6 := nb_nt hb6) | with_reducible (replace hb6 := nb_tt hb6) | with_reducible (replace hb6 := nb_bt hb6) | skip
       refine S_on rfl rfl ?_
       refine S_val (Y_move rfl) ?_
       refine S_on rfl rfl ?_
       refine S_val (Y_move rfl) ?_
       refine S_on rfl rfl ?_
       refine S_val (Y_and rfl rfl hU.1 hbl) ?_
       refine S_on rfl rfl ?_
       refine S_val (Y_move rfl) ?_
       refine S_on rfl rfl ?_
       refine S_val (Y_andNot rfl rfl (Nat.lt_of_le_of_lt Nat.and_le_left hU.1) hM.1) ?_
       refine S_on rfl rfl ?_
       refine S_val (Y_eql rfl rfl) ?_
       refine S_val (Y_pickT rfl rfl) ?_
       refine S_val (Y_assign rfl) ?_
       refine S_nl rfl rfl ?_
       refine th_n (hK10 _ _ ?_)
       clear hK10 K10
       refine wp_ret ?_
       refine ret_r1 rfl rfl ?_  -- r5
       exact ⟨by rw [lazB_t hb1 hlen (by omega), hlz, decide_eq_true hb5, decide_eq_true hb6] <;> rfl, G⟩
      · -- g5F
       first | with_reducible (replace hb6 := nb_nf hb6) | with_reducible (replace hb6 := nb_tf hb6) | with_reducible (replace hb6 := nb_bf hb6) | skip
       refine S_off rfl rfl ?_
       refine S_off rfl rfl ?_
       refine S_off rfl rfl ?_
       refine S_off rfl rfl ?_
       refine S_off rfl rfl ?_
       refine S_off rfl rfl ?_
       refine S_val (Y_pickF rfl rfl) ?_
       refine S_val (Y_assign rfl) ?_
       refine S_nl rfl rfl ?_
       refine th_n (hK10 _ _ ?_)
       clear hK10 K10
       refine wp_ret ?_
       refine ret_r1 rfl rfl ?_  -- r6
       exact ⟨by rw [lazB_t hb1 hlen (by omega), hlz, decide_eq_true hb5, decide_eq_false hb6] <;> rfl, G⟩
     · -- g4F
      replace hb5 := nb_tf hb5
      refine S_off rfl rfl ?_
      refine S_off rfl rfl ?_
      refine S_off rfl rfl ?_
      refine S_off rfl rfl ?_
      refine S_val (Y_pickF rfl rfl) ?_
      refine S_val (Y_move rfl) ?_
      refine S_off rfl rfl ?_
      refine S_off rfl rfl ?_
      refine S_off rfl rfl ?_
      refine S_off rfl rfl ?_
      refine S_off rfl rfl ?_
      refine S_off rfl rfl ?_
      refine S_val (Y_pickF rfl rfl) ?_
      refine S_val (Y_assign rfl) ?_
      refine S_nl rfl rfl ?_
      refine th_n (hK10 _ _ ?_)
      clear hK10 K10
      refine wp_ret ?_
      refine ret_r1 rfl rfl ?_  -- r7
      exact ⟨by rw [lazB_t hb1 hlen (by omega), hlz, decide_eq_false hb5] <;> rfl, G⟩
end
/-! WalkSw -/
section
open Go Go.RowKit
attribute [local irreducible] wpList wpAnyH Code.wp dOp
set_option maxHeartbeats 400000 in
set_option maxRecDepth 20000 in
theorem impl_LazyStart_c (Pr : Nat → Prop) (A B : Option Addr) (h : LH) (c d : Nat) (w : World) (hA : RC Pr w A h.cells) (hB : R1 Pr w B (ints h.roots)) (hz : hsize h ≤ 1048576) :
    Calls Try.prog 28 #[.agg #[.slice A h.cells.length c, .slice B h.roots.length d]] w (Ret fun v w' => ∃ A1 B1 C1 n1 c1 n2 c2 n3 c3 rs P1 P2, v = .agg #[.slice A1 n1 c1, .slice B1 n2 c2, .slice C1 n3 c3, .int .i64 0] ∧ n1 = (lzH h).cells.length ∧ n2 = (lzH h).roots.length ∧ n3 = (reachV h).length ∧ (∀ i : Nat, P1 i → w.heap.size ≤ i ∧ ¬ P2 i) ∧ (∀ i : Nat, P2 i → w.heap.size ≤ i) ∧ OH P1 w' 37 3 A1 B1 (lzH h) rs ∧ OI P2 w' 4 C1 (bools (reachV h)) ∧ Grow w w') := by
 have hz1 := hsize_cells h
 have hz2 := hsize_roots h
 have hne : (37 : TypeId) ≠ 3 := by decide
 have hrl := reachV_le h
 refine enter Try.func28 rfl Try.ntmps28 (L := [_,_,_,_,_,_,_,_,_,_,_,_]) rfl ?_
 have G := Mod.refl No w
 have hA0 := hA
 have hB0 := hB
 refine wp_seq_k fun K1 hK1 => ?_
 refine Sb 12 rfl ?_  -- 0
 refine S_box (cs := [_, _]) rfl rfl ?_
 intro b1 w1 fb1 g1 B1
 have lb1 := B1.lt
 replace hA := hA.grow g1
 replace hB := hB.grow g1
 replace G := G.grow g1
 have zg1 := g1.size
 refine S_alloc (cs := [_, _, _, _]) zr39 rfl ?_
 intro b2 w2 fb2 g2 B2
 have lb2 := B2.lt
 replace hA := hA.grow g2
 replace hB := hB.grow g2
 replace G := G.grow g2
 replace B1 := B1.grow g2
 have zg2 := g2.size
 refine S_nl rfl rfl ?_
 refine th_n (hK1 _ _ ?_)
 clear hK1 K1
 refine wp_seq_k fun K2 hK2 => ?_
 refine wp_seq_k fun K3 hK3 => ?_
 refine Sb 12 rfl ?_  -- 1
 refine S_val (Y_loadS Try.underlying26 rfl sz26 rfl (B1.row (by rfl))) ?_  -- l1
 refine S_call rfl en63 (impl_HeapValid_c _ _ _ _ _ _ _ (by assumption) (by assumption) (by omega)) ?_  -- k1 impl.HeapValid
 rintro v3 w3 ⟨rfl, g3⟩
 replace hA := hA.grow g3
 replace hB := hB.grow g3
 replace G := G.grow g3
 replace B1 := B1.grow g3
 replace B2 := B2.grow g3
 have zg3 := g3.size
 refine S_val (Y_not rfl) ?_
 refine S_nl rfl rfl ?_
 refine th_n (hK3 _ _ ?_)
 clear hK3 K3
 refine S_if rfl (fun hb1 => ?_) (fun hb1 => ?_)  -- c1
 · -- c1T
  first | with_reducible (replace hb1 := nb_nt hb1) | with_reducible (replace hb1 := nb_tt hb1) | with_reducible (replace hb1 := nb_bt hb1) | skip
  refine wp_seq_k fun K4 hK4 => ?_
  refine Sb 12 rfl ?_  -- 2
  refine S_val (Y_build (cs := [_, _, _, _]) zr39 pc39 rfl rfl) ?_
  refine S_stM (pre := []) (old := [_, _, _, _]) (post := []) (vs := [_, _, _, _]) sz39 rfl rfl rfl (by first | rfl | assumption) B2 rfl rfl ?_
  intro w4 m4 X4
  replace B2 := Blk.eq (ys := [_, _, _, _]) X4 rfl
  clear X4
  replace G := G.abv m4
  replace hA := hA0.grow G
  replace hB := hB0.grow G
  replace B1 := B1.md m4
  have zm4 := m4.size
  refine S_nl rfl rfl ?_
  refine th_n (hK4 _ _ ?_)
  clear hK4 K4
  refine wp_ret ?_
  refine th_r ?_
  clear hK2 K2
  refine ret_rc (cs := [_, _, _, _]) Try.underlying39 rfl sz39 rfl rfl (B2.row (by rfl)) ?_  -- r1
  exact ⟨_, _, _, _, _, _, _, _, _, [], No, No, rfl, by rw [lzH_f hb1]; rfl, by rw [lzH_f hb1]; rfl, by rw [reachV_f hb1]; rfl, fun i h => h.elim, fun i h => h.elim, by rw [lzH_f hb1]; exact OH.nil _ _ _ _ _ _, by rw [reachV_f hb1]; exact OI.nil _ _ _ _, G⟩
 · -- c1F
  first | with_reducible (replace hb1 := nb_nf hb1) | with_reducible (replace hb1 := nb_tf hb1) | with_reducible (replace hb1 := nb_bf hb1) | skip
  refine wp_skip ?_
  refine th_n (hK2 _ _ ?_)
  clear hK2 K2
  refine wp_seq_k fun K5 hK5 => ?_
  refine D_start 6 12 (fun w => Mod (fun i => i = b2) w) follows rfl rfl ?_  -- d1 r3
  intro w5 g5
  replace hA := hA.grow g5
  replace hB := hB.grow g5
  replace G := G.grow g5
  replace B1 := B1.grow g5
  replace B2 := B2.grow g5
  have zg5 := g5.size
  have GS5 := Mod.refl (fun i => i = b2) w5
  refine Dq (i := 0) rfl GS5 (fun _ hs => Y_loadS Try.underlying26 rfl sz26 rfl (by first | exact CellsAt.mod (B1.row (by rfl)) hs (by intro h; first | omega | (dsimp only at h; omega)))) ?_
  refine Dq (i := 2) rfl GS5 (fun _ hs => Y_loadS Try.underlying26 rfl sz26 rfl (by first | exact CellsAt.mod (B1.row (by rfl)) hs (by intro h; first | omega | (dsimp only at h; omega)))) ?_
  refine D_1 (i := 1) (by kernel_rfl) ?_
  refine E_call rfl rfl en76 (impl_copyHeap_c _ _ _ _ _ _ _ (by assumption) (by assumption) (by omega)) ?_  -- k2 impl.copyHeap
  rintro v6 w6 ⟨A6, B6, n16, c16, n26, c26, rs6, rfl, hn16, hn26, O6, g6⟩
  replace hA := hA.grow g6
  replace hB := hB.grow g6
  replace G := G.grow g6
  replace GS5 := GS5.grow g6
  replace B1 := B1.grow g6
  replace B2 := B2.grow g6
  have zg6 := g6.size
  subst hn16
  subst hn26
  obtain ⟨AH, rfl⟩ : ∃ x, x = A6 := ⟨_, rfl⟩
  obtain ⟨BH, rfl⟩ : ∃ x, x = B6 := ⟨_, rfl⟩
  obtain ⟨cH, rfl⟩ : ∃ x, x = c16 := ⟨_, rfl⟩
  obtain ⟨dH, rfl⟩ : ∃ x, x = c26 := ⟨_, rfl⟩
  obtain ⟨rsH, rfl⟩ : ∃ x, x = rs6 := ⟨_, rfl⟩
  have OX := O6.lt
  refine ⟨GS5, ?_⟩
  refine D_1 (i := 3) (by kernel_rfl) ?_
  refine E_call rfl rfl en21 (impl_Reachable_c _ _ _ _ _ _ _ (by assumption) (by assumption) (by omega)) ?_  -- k3 impl.Reachable
  rintro v7 w7 ⟨A7, q7, cap7, rfl, hq7, O7, g7⟩
  replace hA := hA.grow g7
  replace hB := hB.grow g7
  replace OX := OX.grow g7
  replace G := G.grow g7
  replace GS5 := GS5.grow g7
  replace B1 := B1.grow g7
  replace B2 := B2.grow g7
  have zg7 := g7.size
  subst hq7
  obtain ⟨AM, rfl⟩ : ∃ x, x = A7 := ⟨_, rfl⟩
  obtain ⟨cM, rfl⟩ : ∃ x, x = cap7 := ⟨_, rfl⟩
  have OM := O7.lt
  refine ⟨GS5, ?_⟩
  refine Dq (i := 4) rfl GS5 (fun _ _ => Y_build (cs := [_, _, _, _]) zr39 pc39 rfl rfl) ?_
  refine D_1 (i := 5) (by kernel_rfl) ?_
  refine E_stM (pre := []) (old := [_, _, _, _]) (post := []) (vs := [_, _, _, _]) (i := 5) rfl sz39 rfl rfl rfl (by first | rfl | assumption) B2 rfl rfl ?_
  intro w8 m8 X8
  replace B2 := Blk.eq (ys := [_, _, _, _]) X8 rfl
  clear X8
  replace G := G.abv m8
  replace GS5 := GS5.trn m8
  replace hA := hA0.grow G
  replace hB := hB0.grow G
  replace OX := OX.md m8
  replace OM := OM.md m8
  replace B1 := B1.md m8
  have zm8 := m8.size
  refine ⟨GS5, ?_⟩
  refine D_en (by kernel_rfl) rfl rfl ?_
  refine th_n (hK5 _ _ ?_)
  clear hK5 K5
  refine wp_ret ?_
  refine ret_rc (cs := [_, _, _, _]) Try.underlying39 rfl sz39 rfl rfl (B2.row (by rfl)) ?_  -- r2
  refine ⟨_, _, _, _, _, _, _, _, _, _, _, _, rfl, by rw [lzH_t hb1], by rw [lzH_t hb1], rfl, ?_, ?_, by rw [lzH_t hb1]; exact OX, OM, G⟩
  · intro i hi
    exact ⟨by first | omega | (dsimp only at hi; omega), fun hj => by first | omega | (dsimp only at hi hj; omega)⟩
  · intro i hi
    first | omega | (dsimp only at hi; omega)
set_option maxHeartbeats 400000 in
set_option maxRecDepth 20000 in
theorem spec_LazyStart_c (Pr : Nat → Prop) (A B : Option Addr) (h : LH) (c d : Nat) (w : World) (hA : RC Pr w A h.cells) (hB : R1 Pr w B (ints h.roots)) (hz : hsize h ≤ 1048576) :
    Calls Try.prog 30 #[.agg #[.slice A h.cells.length c, .slice B h.roots.length d]] w (Ret fun v w' => ∃ A1 B1 C1 n1 c1 n2 c2 n3 c3 rs P1 P2, v = .agg #[.slice A1 n1 c1, .slice B1 n2 c2, .slice C1 n3 c3, .int .i64 0] ∧ n1 = (lzH h).cells.length ∧ n2 = (lzH h).roots.length ∧ n3 = (reachV h).length ∧ (∀ i : Nat, P1 i → w.heap.size ≤ i ∧ ¬ P2 i) ∧ (∀ i : Nat, P2 i → w.heap.size ≤ i) ∧ OH P1 w' 37 3 A1 B1 (lzH h) rs ∧ OI P2 w' 4 C1 (bools (reachV h)) ∧ Grow w w') := by
 have hz1 := hsize_cells h
 have hz2 := hsize_roots h
 have hne : (37 : TypeId) ≠ 3 := by decide
 have hrl := reachV_le h
 refine enter Try.func30 rfl Try.ntmps30 (L := [_,_,_,_,_,_,_,_,_,_,_,_]) rfl ?_
 have G := Mod.refl No w
 have hA0 := hA
 have hB0 := hB
 refine wp_seq_k fun K1 hK1 => ?_
 refine Sb 12 rfl ?_  -- 0
 refine S_box (cs := [_, _]) rfl rfl ?_
 intro b1 w1 fb1 g1 B1
 have lb1 := B1.lt
 replace hA := hA.grow g1
 replace hB := hB.grow g1
 replace G := G.grow g1
 have zg1 := g1.size
 refine S_alloc (cs := [_, _, _, _]) zr39 rfl ?_
 intro b2 w2 fb2 g2 B2
 have lb2 := B2.lt
 replace hA := hA.grow g2
 replace hB := hB.grow g2
 replace G := G.grow g2
 replace B1 := B1.grow g2
 have zg2 := g2.size
 refine S_nl rfl rfl ?_
 refine th_n (hK1 _ _ ?_)
 clear hK1 K1
 refine wp_seq_k fun K2 hK2 => ?_
 refine wp_seq_k fun K3 hK3 => ?_
 refine Sb 12 rfl ?_  -- 1
 refine S_val (Y_loadS Try.underlying26 rfl sz26 rfl (B1.row (by rfl))) ?_  -- l1
 refine S_call rfl en19 (spec_HeapValid_c _ _ _ _ _ _ _ (by assumption) (by assumption) (by omega)) ?_  -- k1 spec.HeapValid
 rintro v3 w3 ⟨rfl, g3⟩
 replace hA := hA.grow g3
 replace hB := hB.grow g3
 replace G := G.grow g3
 replace B1 := B1.grow g3
 replace B2 := B2.grow g3
 have zg3 := g3.size
 refine S_val (Y_not rfl) ?_
 refine S_nl rfl rfl ?_
 refine th_n (hK3 _ _ ?_)
 clear hK3 K3
 refine S_if rfl (fun hb1 => ?_) (fun hb1 => ?_)  -- c1
 · -- c1T
  first | with_reducible (replace hb1 := nb_nt hb1) | with_reducible (replace hb1 := nb_tt hb1) | with_reducible (replace hb1 := nb_bt hb1) | skip
  refine wp_seq_k fun K4 hK4 => ?_
  refine Sb 12 rfl ?_  -- 2
  refine S_val (Y_build (cs := [_, _, _, _]) zr39 pc39 rfl rfl) ?_
  refine S_stM (pre := []) (old := [_, _, _, _]) (post := []) (vs := [_, _, _, _]) sz39 rfl rfl rfl (by first | rfl | assumption) B2 rfl rfl ?_
  intro w4 m4 X4
  replace B2 := Blk.eq (ys := [_, _, _, _]) X4 rfl
  clear X4
  replace G := G.abv m4
  replace hA := hA0.grow G
  replace hB := hB0.grow G
  replace B1 := B1.md m4
  have zm4 := m4.size
  refine S_nl rfl rfl ?_
  refine th_n (hK4 _ _ ?_)
  clear hK4 K4
  refine wp_ret ?_
  refine th_r ?_
  clear hK2 K2
  refine ret_rc (cs := [_, _, _, _]) Try.underlying39 rfl sz39 rfl rfl (B2.row (by rfl)) ?_  -- r1
  exact ⟨_, _, _, _, _, _, _, _, _, [], No, No, rfl, by rw [lzH_f hb1]; rfl, by rw [lzH_f hb1]; rfl, by rw [reachV_f hb1]; rfl, fun i h => h.elim, fun i h => h.elim, by rw [lzH_f hb1]; exact OH.nil _ _ _ _ _ _, by rw [reachV_f hb1]; exact OI.nil _ _ _ _, G⟩
 · -- c1F
  first | with_reducible (replace hb1 := nb_nf hb1) | with_reducible (replace hb1 := nb_tf hb1) | with_reducible (replace hb1 := nb_bf hb1) | skip
  refine wp_skip ?_
  refine th_n (hK2 _ _ ?_)
  clear hK2 K2
  refine wp_seq_k fun K5 hK5 => ?_
  refine D_start 6 12 (fun w => Mod (fun i => i = b2) w) follows rfl rfl ?_  -- d1 r3
  intro w5 g5
  replace hA := hA.grow g5
  replace hB := hB.grow g5
  replace G := G.grow g5
  replace B1 := B1.grow g5
  replace B2 := B2.grow g5
  have zg5 := g5.size
  have GS5 := Mod.refl (fun i => i = b2) w5
  refine Dq (i := 0) rfl GS5 (fun _ hs => Y_loadS Try.underlying26 rfl sz26 rfl (by first | exact CellsAt.mod (B1.row (by rfl)) hs (by intro h; first | omega | (dsimp only at h; omega)))) ?_
  refine Dq (i := 2) rfl GS5 (fun _ hs => Y_loadS Try.underlying26 rfl sz26 rfl (by first | exact CellsAt.mod (B1.row (by rfl)) hs (by intro h; first | omega | (dsimp only at h; omega)))) ?_
  refine D_1 (i := 1) (by kernel_rfl) ?_
  refine E_call rfl rfl en77 (spec_l7Copy_c _ _ _ _ _ _ _ (by assumption) (by assumption) (by omega)) ?_  -- k2 spec.l7Copy
  rintro v6 w6 ⟨A6, B6, n16, c16, n26, c26, rs6, rfl, hn16, hn26, O6, g6⟩
  replace hA := hA.grow g6
  replace hB := hB.grow g6
  replace G := G.grow g6
  replace GS5 := GS5.grow g6
  replace B1 := B1.grow g6
  replace B2 := B2.grow g6
  have zg6 := g6.size
  subst hn16
  subst hn26
  obtain ⟨AH, rfl⟩ : ∃ x, x = A6 := ⟨_, rfl⟩
  obtain ⟨BH, rfl⟩ : ∃ x, x = B6 := ⟨_, rfl⟩
  obtain ⟨cH, rfl⟩ : ∃ x, x = c16 := ⟨_, rfl⟩
  obtain ⟨dH, rfl⟩ : ∃ x, x = c26 := ⟨_, rfl⟩
  obtain ⟨rsH, rfl⟩ : ∃ x, x = rs6 := ⟨_, rfl⟩
  have OX := O6.lt
  refine ⟨GS5, ?_⟩
  refine D_1 (i := 3) (by kernel_rfl) ?_
  refine E_call rfl rfl en78 (spec_Reachable_c _ _ _ _ _ _ _ (by assumption) (by assumption) (by omega)) ?_  -- k3 spec.Reachable
  rintro v7 w7 ⟨A7, q7, cap7, rfl, hq7, O7, g7⟩
  replace hA := hA.grow g7
  replace hB := hB.grow g7
  replace OX := OX.grow g7
  replace G := G.grow g7
  replace GS5 := GS5.grow g7
  replace B1 := B1.grow g7
  replace B2 := B2.grow g7
  have zg7 := g7.size
  subst hq7
  obtain ⟨AM, rfl⟩ : ∃ x, x = A7 := ⟨_, rfl⟩
  obtain ⟨cM, rfl⟩ : ∃ x, x = cap7 := ⟨_, rfl⟩
  have OM := O7.lt
  refine ⟨GS5, ?_⟩
  refine Dq (i := 4) rfl GS5 (fun _ _ => Y_build (cs := [_, _, _, _]) zr39 pc39 rfl rfl) ?_
  refine D_1 (i := 5) (by kernel_rfl) ?_
  refine E_stM (pre := []) (old := [_, _, _, _]) (post := []) (vs := [_, _, _, _]) (i := 5) rfl sz39 rfl rfl rfl (by first | rfl | assumption) B2 rfl rfl ?_
  intro w8 m8 X8
  replace B2 := Blk.eq (ys := [_, _, _, _]) X8 rfl
  clear X8
  replace G := G.abv m8
  replace GS5 := GS5.trn m8
  replace hA := hA0.grow G
  replace hB := hB0.grow G
  replace OX := OX.md m8
  replace OM := OM.md m8
  replace B1 := B1.md m8
  have zm8 := m8.size
  refine ⟨GS5, ?_⟩
  refine D_en (by kernel_rfl) rfl rfl ?_
  refine th_n (hK5 _ _ ?_)
  clear hK5 K5
  refine wp_ret ?_
  refine ret_rc (cs := [_, _, _, _]) Try.underlying39 rfl sz39 rfl rfl (B2.row (by rfl)) ?_  -- r2
  refine ⟨_, _, _, _, _, _, _, _, _, _, _, _, rfl, by rw [lzH_t hb1], by rw [lzH_t hb1], rfl, ?_, ?_, by rw [lzH_t hb1]; exact OX, OM, G⟩
  · intro i hi
    exact ⟨by first | omega | (dsimp only at hi; omega), fun hj => by first | omega | (dsimp only at hi hj; omega)⟩
  · intro i hi
    first | omega | (dsimp only at hi; omega)
end
/-! WalkRn -/
section
open Go Go.RowKit
attribute [local irreducible] wpList wpAnyH Code.wp dOp
set_option maxHeartbeats 400000 in
set_option maxRecDepth 20000 in
theorem spec_l7Copy2_c (Pr : Nat → Prop) (A B : Option Addr) (h : LH) (c d : Nat) (w : World) (hA : RC Pr w A h.cells) (hB : R1 Pr w B (ints h.roots)) (hz : hsize h ≤ 1048576) :
    Calls Try.prog 77 #[.agg #[.slice A h.cells.length c, .slice B h.roots.length d]] w (Ret fun v w' => ∃ A1 B1 n1 c1 n2 c2 rs, v = .agg #[.slice A1 n1 c1, .slice B1 n2 c2] ∧ n1 = (h).cells.length ∧ n2 = (h).roots.length ∧ XH (fun i => w.heap.size ≤ i) w' 37 3 A1 B1 (h) rs c1 c2 ∧ Grow w w') := by
 have hz1 := hsize_cells h
 have hz2 := hsize_roots h
 have hne : (37 : TypeId) ≠ 3 := by decide
 have hAl := hA.below
 have hBl := hB.below
 refine enter Try.func77 rfl Try.ntmps77 (L := [_,_,_,_,_,_,_,_,_,_,_,_,_,_,_,_,_,_,_,_,_,_,_,_,_,_,_,_,_,_,_,_,_,_,_,_,_,_,_,_,_,_,_,_]) rfl ?_
 have G := Mod.refl No w
 have hAl0 := hAl
 have hBl0 := hBl
 refine wp_seq_k fun K1 hK1 => ?_
 refine Sb 44 rfl ?_  -- 0
 refine S_box (cs := [_, _]) rfl rfl ?_
 intro b1 w1 fb1 g1 B1
 have lb1 := B1.lt
 replace hAl := hAl.grow g1
 replace hBl := hBl.grow g1
 replace G := G.grow g1
 have zg1 := g1.size
 refine S_alloc (cs := [_, _]) zr26 rfl ?_
 intro b2 w2 fb2 g2 B2
 have lb2 := B2.lt
 replace hAl := hAl.grow g2
 replace hBl := hBl.grow g2
 replace G := G.grow g2
 replace B1 := B1.grow g2
 have zg2 := g2.size
 refine S_nl rfl rfl ?_
 refine th_n (hK1 _ _ ?_)
 clear hK1 K1
 refine wp_seq_k fun K2 hK2 => ?_
 refine Sb 44 rfl ?_  -- 1
 refine S_bs0 Try.underlying24 sz3 ?_
 intro b3 w3 fb3 g3 B3
 have lb3 := B3.lt
 replace hAl := hAl.grow g3
 replace hBl := hBl.grow g3
 replace G := G.grow g3
 replace B1 := B1.grow g3
 replace B2 := B2.grow g3
 have zg3 := g3.size
 refine S_val (Y_field Try.underlying26 rfl fz26_1 (by decide) rfl) ?_
 refine S_val (Y_load Try.underlying24 rfl rfl (B1.at (by rfl))) ?_  -- l1
 have OY : OW (fun i => b2 < i) w3 3 1 (some ⟨b3, 0, none⟩) 0 0 [] := OW.of_blk B3 rfl (by decide) (by omega)
 refine S_app0 (news := ints h.roots) Try.underlying24 zr3 sz3 by3 rfl rfl OY (by rw [ints_len]; omega) (by have hsr := Src.r1 hBl; rw [ints_len] at hsr; exact hsr) ints_one (by omega) (Pr' := fun i => b2 < i) (fun i hi => hi) (by omega) ?_
 intro A4 cap4 w4 X4 m4
 replace OY := X4
 clear X4
 replace G := G.abv m4
 replace hAl := hAl0.grow G
 replace hBl := hBl0.grow G
 replace B1 := B1.md m4
 replace B2 := B2.md m4
 have zm4 := m4.size
 have OX := OY.lt
 obtain ⟨AR, rfl⟩ : ∃ x, x = A4 := ⟨_, rfl⟩
 obtain ⟨capR, rfl⟩ : ∃ x, x = cap4 := ⟨_, rfl⟩
 clear OY
 refine S_val (Y_build (cs := [_, _]) zr26 pc26 rfl rfl) ?_
 refine S_alloc (cs := [_, _]) zr26 rfl ?_
 intro b5 w5 fb5 g5 B5
 have lb5 := B5.lt
 replace hAl := hAl.grow g5
 replace hBl := hBl.grow g5
 replace OX := OX.grow g5
 replace G := G.grow g5
 replace B1 := B1.grow g5
 replace B2 := B2.grow g5
 have zg5 := g5.size
 refine S_stM (pre := []) (old := [_, _]) (post := []) (vs := [_, _]) sz26 rfl rfl rfl (by first | rfl | assumption) B5 rfl rfl ?_
 intro w6 m6 X6
 replace B5 := Blk.eq (ys := [_, _]) X6 rfl
 clear X6
 replace G := G.abv m6
 replace hAl := hAl0.grow G
 replace hBl := hBl0.grow G
 replace OX := OX.md m6
 replace B1 := B1.md m6
 replace B2 := B2.md m6
 have zm6 := m6.size
 refine S_nl rfl rfl ?_
 refine th_n (hK2 _ _ ?_)
 clear hK2 K2
 refine wp_seq_k fun K3 hK3 => ?_
 refine wp_seq_k fun K4 hK4 => ?_
 refine Sb 44 rfl ?_  -- 2
 refine S_val (Y_assign rfl) ?_
 refine S_nl rfl rfl ?_
 refine th_n (hK4 _ _ ?_)
 clear hK4 K4
 refine wp_block ?_
 obtain ⟨wz, hwz⟩ : ∃ x, x = w6.heap.size := ⟨_, rfl⟩
 have OC1 : OW (fun i => wz ≤ i) w6 37 3 none 0 0 (flatC ([] : List LC) []) := OW.nil _ _ _ _
 have OR1 : ORs (fun i => wz ≤ i) w6 3 ([] : List LC) [] := ORs.nil _ _ _
 go_loopw [4] (fun u4 wr => (∃ (k q cap : Nat) (A1 : Option Addr) (rs : List (Option Addr × Nat)), u4 = .int .i64 k ∧ k ≤ h.cells.length ∧ q = k ∧ Blk wr b5 26 [.slice A1 q cap, .slice AR h.roots.length capR].toArray ∧ OW (fun i => wz ≤ i) wr 37 3 A1 q cap (flatC (h.cells.take k) rs) ∧ ORs (fun i => wz ≤ i) wr 3 (h.cells.take k) rs) ∧ Mod (fun i => i = b5 ∨ (wz ≤ i) ∨ wz ≤ i) w6 wr) (fun u4 wr => h.cells.length - (intOf u4).toNat)  -- L1
 case atStart =>
  refine ⟨?_, Mod.refl _ _⟩
  exact ⟨0, 0, _, _, [], rfl, by omega, rfl, B5, OC1, OR1⟩
 case round =>
  obtain ⟨w7, rfl⟩ : ∃ x : World, x = wr := ⟨_, rfl⟩
  obtain ⟨hrel, g7⟩ := hrel
  clear B5
  clear OC1
  clear OR1
  replace G := G.abv g7
  replace hAl := hAl0.grow G
  replace hBl := hBl0.grow G
  replace OX := OX.md g7
  replace B1 := B1.md g7
  replace B2 := B2.md g7
  have zg7 := g7.size
  obtain ⟨k, q1, cap1, A1, rs, rfl, hk, hq1, B5, OC1, OR1⟩ := hrel
  have hlk : (h.cells.take k).length = k := by simp; omega
  have GL7 := g7
  refine wp_seq_k fun K5 hK5 => ?_
  refine wp_seq_k fun K6 hK6 => ?_
  refine Sb 44 rfl ?_  -- 3
  refine S_val (Y_move rfl) ?_
  refine S_val (Y_field Try.underlying26 rfl fz26_0 (by decide) rfl) ?_
  refine S_val (Y_load Try.underlying23 rfl rfl (B1.at (by rfl))) ?_  -- l2
  refine S_val (Y_len Try.underlying23 rfl) ?_
  refine S_val (Y_lss rfl rfl) ?_
  refine S_nl rfl rfl ?_
  refine th_n (hK6 _ _ ?_)
  clear hK6 K6
  refine S_if rfl (fun hb1 => ?_) (fun hb1 => ?_)  -- c1
  · -- c1T
   replace hb1 := nb_tt hb1
   have hk1 : k < h.cells.length := by omega
   obtain ⟨g2, o2, E2, d2, rfl, hp2, cc20, hE20⟩ := hAl0.cell hk1
   have cc2 := cc20.grow G
   have hE2 := hE20.grow G
   have hr1 := hsize_refs h hk1
   replace OC1 := OC1.lt
   replace OR1 := OR1.lt
   refine wp_skip ?_
   refine th_n (hK5 _ _ ?_)
   clear hK5 K5
   refine wp_seq_k fun K7 hK7 => ?_
   refine wp_block ?_
   refine D_start 27 44 (fun w => Mod (fun i => i = b5 ∨ wz ≤ i) w) follows rfl rfl ?_  -- d1 r5
   intro w8 g8
   replace hAl := hAl.grow g8
   replace hBl := hBl.grow g8
   replace cc2 := cc2.grow g8
   replace hE2 := hE2.grow g8
   replace OX := OX.grow g8
   replace OC1 := OC1.grow g8
   replace OR1 := OR1.grow g8
   replace G := G.grow g8
   replace GL7 := GL7.grow g8
   replace B1 := B1.grow g8
   replace B2 := B2.grow g8
   replace B5 := B5.grow g8
   have zg8 := g8.size
   have GS8 := Mod.refl (fun i => i = b5 ∨ wz ≤ i) w8
   refine Dq (i := 0) rfl GS8 (fun _ _ => Y_field Try.underlying26 rfl fz26_0 (by decide) rfl) ?_
   refine Dq (i := 2) rfl GS8 (fun _ _ => Y_field Try.underlying26 rfl fz26_0 (by decide) rfl) ?_
   refine Dq (i := 3) rfl GS8 (fun _ hs => Y_load Try.underlying23 rfl rfl (by first | exact hs.cell (B1.at (by rfl)) (by intro h; first | omega | (dsimp only at h; omega)))) ?_
   refine Dq (i := 4) rfl GS8 (fun _ _ => Y_move rfl) ?_
   refine Dq (i := 5) rfl GS8 (fun _ _ => Y_index Try.underlying23 sz37 rfl rfl (by first | assumption | omega)) ?_
   refine Dq (i := 6) rfl GS8 (fun _ _ => Y_field Try.underlying37 rfl fz37_0 (by decide) rfl) ?_
   refine Dq (i := 7) rfl GS8 (fun _ hs => Y_load Try.underlying4 rfl rfl (by first | exact hs.cell (by assumption) (by intro h; first | omega | (dsimp only at h; omega)) | exact hs.cell (cc2.at (by rfl)) (by intro h; first | omega | (dsimp only at h; omega)) | exact hs.cell (B1.at (by rfl)) (by intro h; first | omega | (dsimp only at h; omega)) | exact hs.cell (B2.at (by rfl)) (by intro h; first | omega | (dsimp only at h; omega)) | exact hs.cell (B5.at (by rfl)) (by intro h; first | omega | (dsimp only at h; omega)))) ?_
   refine Dq (i := 8) rfl GS8 (fun _ _ => Y_field Try.underlying26 rfl fz26_0 (by decide) rfl) ?_
   refine Dq (i := 9) rfl GS8 (fun _ hs => Y_load Try.underlying23 rfl rfl (by first | exact hs.cell (B1.at (by rfl)) (by intro h; first | omega | (dsimp only at h; omega)))) ?_
   refine Dq (i := 10) rfl GS8 (fun _ _ => Y_move rfl) ?_
   refine Dq (i := 11) rfl GS8 (fun _ _ => Y_index Try.underlying23 sz37 rfl rfl (by first | assumption | omega)) ?_
   refine Dq (i := 12) rfl GS8 (fun _ _ => Y_field Try.underlying37 rfl fz37_1 (by decide) rfl) ?_
   refine Dq (i := 13) rfl GS8 (fun _ hs => Y_load Try.underlying3 rfl rfl (by first | exact hs.cell (by assumption) (by intro h; first | omega | (dsimp only at h; omega)) | exact hs.cell (cc2.at (by rfl)) (by intro h; first | omega | (dsimp only at h; omega)) | exact hs.cell (B1.at (by rfl)) (by intro h; first | omega | (dsimp only at h; omega)) | exact hs.cell (B2.at (by rfl)) (by intro h; first | omega | (dsimp only at h; omega)) | exact hs.cell (B5.at (by rfl)) (by intro h; first | omega | (dsimp only at h; omega)))) ?_
   refine Dq (i := 15) rfl GS8 (fun _ _ => Y_field Try.underlying26 rfl fz26_0 (by decide) rfl) ?_
   refine Dq (i := 16) rfl GS8 (fun _ hs => Y_load Try.underlying23 rfl rfl (by first | exact hs.cell (B1.at (by rfl)) (by intro h; first | omega | (dsimp only at h; omega)))) ?_
   refine Dq (i := 17) rfl GS8 (fun _ _ => Y_move rfl) ?_
   refine Dq (i := 18) rfl GS8 (fun _ _ => Y_index Try.underlying23 sz37 rfl rfl (by first | assumption | omega)) ?_
   refine Dq (i := 19) rfl GS8 (fun _ _ => Y_field Try.underlying37 rfl fz37_2 (by decide) rfl) ?_
   refine Dq (i := 20) rfl GS8 (fun _ hs => Y_load Try.underlying24 rfl rfl (by first | exact hs.cell (by assumption) (by intro h; first | omega | (dsimp only at h; omega)) | exact hs.cell (cc2.at (by rfl)) (by intro h; first | omega | (dsimp only at h; omega)) | exact hs.cell (B1.at (by rfl)) (by intro h; first | omega | (dsimp only at h; omega)) | exact hs.cell (B2.at (by rfl)) (by intro h; first | omega | (dsimp only at h; omega)) | exact hs.cell (B5.at (by rfl)) (by intro h; first | omega | (dsimp only at h; omega)))) ?_
   refine D_2 (i := 1) (j := 14) (by kernel_rfl) ?_ ?_
   · -- operation 1 comes up
    refine E_val (i := 1) rfl (Y_load Try.underlying23 rfl rfl (B5.at (by rfl))) GS8 ?_
    refine D_1 (i := 14) (by kernel_rfl) ?_
    refine E_bs0 (i := 14) rfl Try.underlying24 sz3 ?_
    intro b10 w10 fb10 g10 B10
    refine ⟨GS8.grow g10, ?_⟩
    have lb10 := B10.lt
    replace hAl := hAl.grow g10
    replace hBl := hBl.grow g10
    replace cc2 := cc2.grow g10
    replace hE2 := hE2.grow g10
    replace OX := OX.grow g10
    replace OC1 := OC1.grow g10
    replace OR1 := OR1.grow g10
    replace G := G.grow g10
    replace GL7 := GL7.grow g10
    replace GS8 := GS8.grow g10
    replace B1 := B1.grow g10
    replace B2 := B2.grow g10
    replace B5 := B5.grow g10
    have zg10 := g10.size
    refine D_1 (i := 21) (by kernel_rfl) ?_
    have OY : OW (fun i => b10 ≤ i) w10 3 1 (some ⟨b10, 0, none⟩) 0 0 [] := OW.of_blk B10 rfl (by decide) (Nat.le_refl _)
    refine E_app0 (i := 21) rfl (news := ints h.cells[k].refs) Try.underlying24 zr3 sz3 by3 rfl rfl OY (by rw [ints_len]; omega) (by have hsr := Src.r1 hE2; rw [ints_len] at hsr; exact hsr) ints_one (by omega) (Pr' := fun i => b10 ≤ i) (fun i hi => hi) (by omega) ?_
    intro A11 cap11 w11 X11 m11
    replace OY := X11
    clear X11
    replace G := G.abv m11
    first | replace GL7 := GL7.abv m11 | clear GL7
    replace GS8 := GS8.abv m11
    replace hAl := hAl0.grow G
    replace hBl := hBl0.grow G
    replace cc2 := cc20.grow G
    replace hE2 := hE20.grow G
    replace OX := OX.md m11
    replace OC1 := OC1.md m11
    replace OR1 := OR1.md m11
    replace B1 := B1.md m11
    replace B2 := B2.md m11
    replace B5 := B5.md m11
    have zm11 := m11.size
    refine ⟨GS8, ?_⟩
    obtain ⟨AY, rfl⟩ : ∃ x, x = A11 := ⟨_, rfl⟩
    obtain ⟨capY, rfl⟩ : ∃ x, x = cap11 := ⟨_, rfl⟩
    refine Dq (i := 22) rfl GS8 (fun _ _ => Y_build (cs := [_, _, _]) zr37 pc37 rfl rfl) ?_
    refine D_1 (i := 23) (by kernel_rfl) ?_
    refine E_bs1 (cs := [_, _, _]) (i := 23) rfl Try.underlying23 zr37 sz37 rfl rfl rfl ?_
    intro b12 w12 fb12 g12 B12
    refine ⟨GS8.grow g12, ?_⟩
    have lb12 := B12.lt
    replace hAl := hAl.grow g12
    replace hBl := hBl.grow g12
    replace cc2 := cc2.grow g12
    replace hE2 := hE2.grow g12
    replace OX := OX.grow g12
    replace OC1 := OC1.grow g12
    replace OR1 := OR1.grow g12
    replace OY := OY.grow g12
    replace G := G.grow g12
    replace GL7 := GL7.grow g12
    replace GS8 := GS8.grow g12
    replace B1 := B1.grow g12
    replace B2 := B2.grow g12
    replace B5 := B5.grow g12
    have zg12 := g12.size
    refine D_1 (i := 24) (by kernel_rfl) ?_
    refine E_app2 (i := 24) rfl Try.underlying23 zr37 sz37 by37 rfl rfl OC1 rfl (Src.blk B12) (by simp [Value.oneCell']) (by omega) (Pr' := fun i => (wz ≤ i)) (fun i hi => by omega) (by omega) ?_
    intro A13 cap13 w13 X13 m13 n13
    replace OR1 := OR1.app OC1 hne n13
    replace OC1 := X13
    clear X13 n13
    replace G := G.abv m13
    replace GL7 := GL7.trn m13
    replace GS8 := GS8.trn m13
    replace hAl := hAl0.grow G
    replace hBl := hBl0.grow G
    replace cc2 := cc20.grow G
    replace hE2 := hE20.grow G
    replace OX := OX.md m13
    replace OY := OY.md m13
    replace B1 := B1.md m13
    replace B2 := B2.md m13
    replace B5 := B5.md m13
    have zm13 := m13.size
    refine ⟨GS8, ?_⟩
    have OR2 := OR1.more (c := h.cells[k]) OY (fun i hi => by omega) (Pr' := fun i => wz ≤ i) (fun i hi => by omega) (fun i hi => by omega)
    replace OC1 : OW (fun i => (wz ≤ i)) w13 37 3 A13 (q1 + 1) cap13 (flatC (h.cells.take (k + 1)) (rs ++ [(AY, capY)])) := by rw [List.take_succ_eq_append_getElem hk1, ← flat_more OR1.len]; exact OC1
    rw [← List.take_succ_eq_append_getElem hk1] at OR2
    refine Dq (i := 25) rfl GS8 (fun _ _ => Y_field Try.underlying26 rfl fz26_0 (by decide) rfl) ?_
    refine D_1 (i := 26) (by kernel_rfl) ?_
    refine E_stM (pre := []) (old := [_]) (post := [_]) (vs := [_]) (i := 26) rfl sz23 rfl rfl rfl (by first | rfl | assumption) B5 rfl rfl ?_
    intro w14 m14 X14
    replace B5 := Blk.eq (ys := [_, _]) X14 rfl
    clear X14
    replace G := G.abv m14
    replace GL7 := GL7.trn m14
    replace GS8 := GS8.trn m14
    replace hAl := hAl0.grow G
    replace hBl := hBl0.grow G
    replace cc2 := cc20.grow G
    replace hE2 := hE20.grow G
    replace OX := OX.md m14
    replace OC1 := OC1.md m14
    replace OR2 := OR2.md m14
    replace B1 := B1.md m14
    replace B2 := B2.md m14
    have zm14 := m14.size
    refine ⟨GS8, ?_⟩
    refine D_en (by kernel_rfl) rfl rfl ?_
    refine ib_n ?_
    refine th_n (hK7 _ _ ?_)
    clear hK7 K7
    refine Sb 44 rfl ?_  -- 4
    refine S_val (Y_move rfl) ?_
    refine S_val (Y_inc rfl rfl (by omega)) ?_
    refine S_val (Y_assign rfl) ?_
    refine S_nl rfl rfl ?_
    refine th_n ?_
    go_roundw  -- e1 of L1
    case rel =>
     refine ⟨?_, GL7⟩
     exact ⟨k + 1, _, _, _, _, rfl, by omega, by omega, B5, OC1, OR2⟩
    case measure =>
     exact dec_nat (by omega)
   · -- operation 14 comes up
    refine E_bs0 (i := 14) rfl Try.underlying24 sz3 ?_
    intro b15 w15 fb15 g15 B15
    refine ⟨GS8.grow g15, ?_⟩
    have lb15 := B15.lt
    replace hAl := hAl.grow g15
    replace hBl := hBl.grow g15
    replace cc2 := cc2.grow g15
    replace hE2 := hE2.grow g15
    replace OX := OX.grow g15
    replace OC1 := OC1.grow g15
    replace OR1 := OR1.grow g15
    replace G := G.grow g15
    replace GL7 := GL7.grow g15
    replace GS8 := GS8.grow g15
    replace B1 := B1.grow g15
    replace B2 := B2.grow g15
    replace B5 := B5.grow g15
    have zg15 := g15.size
    refine D_2 (i := 1) (j := 21) (by kernel_rfl) ?_ ?_
    · -- operation 1 comes up
     refine E_val (i := 1) rfl (Y_load Try.underlying23 rfl rfl (B5.at (by rfl))) GS8 ?_
     refine D_1 (i := 21) (by kernel_rfl) ?_
     have OY : OW (fun i => b15 ≤ i) w15 3 1 (some ⟨b15, 0, none⟩) 0 0 [] := OW.of_blk B15 rfl (by decide) (Nat.le_refl _)
     refine E_app0 (i := 21) rfl (news := ints h.cells[k].refs) Try.underlying24 zr3 sz3 by3 rfl rfl OY (by rw [ints_len]; omega) (by have hsr := Src.r1 hE2; rw [ints_len] at hsr; exact hsr) ints_one (by omega) (Pr' := fun i => b15 ≤ i) (fun i hi => hi) (by omega) ?_
     intro A17 cap17 w17 X17 m17
     replace OY := X17
     clear X17
     replace G := G.abv m17
     first | replace GL7 := GL7.abv m17 | clear GL7
     replace GS8 := GS8.abv m17
     replace hAl := hAl0.grow G
     replace hBl := hBl0.grow G
     replace cc2 := cc20.grow G
     replace hE2 := hE20.grow G
     replace OX := OX.md m17
     replace OC1 := OC1.md m17
     replace OR1 := OR1.md m17
     replace B1 := B1.md m17
     replace B2 := B2.md m17
     replace B5 := B5.md m17
     have zm17 := m17.size
     refine ⟨GS8, ?_⟩
     obtain ⟨AY, rfl⟩ : ∃ x, x = A17 := ⟨_, rfl⟩
     obtain ⟨capY, rfl⟩ : ∃ x, x = cap17 := ⟨_, rfl⟩
     refine Dq (i := 22) rfl GS8 (fun _ _ => Y_build (cs := [_, _, _]) zr37 pc37 rfl rfl) ?_
     refine D_1 (i := 23) (by kernel_rfl) ?_
     refine E_bs1 (cs := [_, _, _]) (i := 23) rfl Try.underlying23 zr37 sz37 rfl rfl rfl ?_
     intro b18 w18 fb18 g18 B18
     refine ⟨GS8.grow g18, ?_⟩
     have lb18 := B18.lt
     replace hAl := hAl.grow g18
     replace hBl := hBl.grow g18
     replace cc2 := cc2.grow g18
     replace hE2 := hE2.grow g18
     replace OX := OX.grow g18
     replace OC1 := OC1.grow g18
     replace OR1 := OR1.grow g18
     replace OY := OY.grow g18
     replace G := G.grow g18
     replace GL7 := GL7.grow g18
     replace GS8 := GS8.grow g18
     replace B1 := B1.grow g18
     replace B2 := B2.grow g18
     replace B5 := B5.grow g18
     have zg18 := g18.size
     refine D_1 (i := 24) (by kernel_rfl) ?_
     refine E_app2 (i := 24) rfl Try.underlying23 zr37 sz37 by37 rfl rfl OC1 rfl (Src.blk B18) (by simp [Value.oneCell']) (by omega) (Pr' := fun i => (wz ≤ i)) (fun i hi => by omega) (by omega) ?_
     intro A19 cap19 w19 X19 m19 n19
     replace OR1 := OR1.app OC1 hne n19
     replace OC1 := X19
     clear X19 n19
     replace G := G.abv m19
     replace GL7 := GL7.trn m19
     replace GS8 := GS8.trn m19
     replace hAl := hAl0.grow G
     replace hBl := hBl0.grow G
     replace cc2 := cc20.grow G
     replace hE2 := hE20.grow G
     replace OX := OX.md m19
     replace OY := OY.md m19
     replace B1 := B1.md m19
     replace B2 := B2.md m19
     replace B5 := B5.md m19
     have zm19 := m19.size
     refine ⟨GS8, ?_⟩
     have OR2 := OR1.more (c := h.cells[k]) OY (fun i hi => by omega) (Pr' := fun i => wz ≤ i) (fun i hi => by omega) (fun i hi => by omega)
     replace OC1 : OW (fun i => (wz ≤ i)) w19 37 3 A19 (q1 + 1) cap19 (flatC (h.cells.take (k + 1)) (rs ++ [(AY, capY)])) := by rw [List.take_succ_eq_append_getElem hk1, ← flat_more OR1.len]; exact OC1
     rw [← List.take_succ_eq_append_getElem hk1] at OR2
     refine Dq (i := 25) rfl GS8 (fun _ _ => Y_field Try.underlying26 rfl fz26_0 (by decide) rfl) ?_
     refine D_1 (i := 26) (by kernel_rfl) ?_
     refine E_stM (pre := []) (old := [_]) (post := [_]) (vs := [_]) (i := 26) rfl sz23 rfl rfl rfl (by first | rfl | assumption) B5 rfl rfl ?_
     intro w20 m20 X20
     replace B5 := Blk.eq (ys := [_, _]) X20 rfl
     clear X20
     replace G := G.abv m20
     replace GL7 := GL7.trn m20
     replace GS8 := GS8.trn m20
     replace hAl := hAl0.grow G
     replace hBl := hBl0.grow G
     replace cc2 := cc20.grow G
     replace hE2 := hE20.grow G
     replace OX := OX.md m20
     replace OC1 := OC1.md m20
     replace OR2 := OR2.md m20
     replace B1 := B1.md m20
     replace B2 := B2.md m20
     have zm20 := m20.size
     refine ⟨GS8, ?_⟩
     refine D_en (by kernel_rfl) rfl rfl ?_
     refine ib_n ?_
     refine th_n (hK7 _ _ ?_)
     clear hK7 K7
     refine Sb 44 rfl ?_  -- 4
     refine S_val (Y_move rfl) ?_
     refine S_val (Y_inc rfl rfl (by omega)) ?_
     refine S_val (Y_assign rfl) ?_
     refine S_nl rfl rfl ?_
     refine th_n ?_
     go_roundw  -- e2 of L1
     case rel =>
      refine ⟨?_, GL7⟩
      exact ⟨k + 1, _, _, _, _, rfl, by omega, by omega, B5, OC1, OR2⟩
     case measure =>
      exact dec_nat (by omega)
    · -- operation 21 comes up
     have OY : OW (fun i => b15 ≤ i) w15 3 1 (some ⟨b15, 0, none⟩) 0 0 [] := OW.of_blk B15 rfl (by decide) (Nat.le_refl _)
     refine E_app0 (i := 21) rfl (news := ints h.cells[k].refs) Try.underlying24 zr3 sz3 by3 rfl rfl OY (by rw [ints_len]; omega) (by have hsr := Src.r1 hE2; rw [ints_len] at hsr; exact hsr) ints_one (by omega) (Pr' := fun i => b15 ≤ i) (fun i hi => hi) (by omega) ?_
     intro A21 cap21 w21 X21 m21
     replace OY := X21
     clear X21
     replace G := G.abv m21
     first | replace GL7 := GL7.abv m21 | clear GL7
     replace GS8 := GS8.abv m21
     replace hAl := hAl0.grow G
     replace hBl := hBl0.grow G
     replace cc2 := cc20.grow G
     replace hE2 := hE20.grow G
     replace OX := OX.md m21
     replace OC1 := OC1.md m21
     replace OR1 := OR1.md m21
     replace B1 := B1.md m21
     replace B2 := B2.md m21
     replace B5 := B5.md m21
     have zm21 := m21.size
     refine ⟨GS8, ?_⟩
     obtain ⟨AY, rfl⟩ : ∃ x, x = A21 := ⟨_, rfl⟩
     obtain ⟨capY, rfl⟩ : ∃ x, x = cap21 := ⟨_, rfl⟩
     refine Dq (i := 22) rfl GS8 (fun _ _ => Y_build (cs := [_, _, _]) zr37 pc37 rfl rfl) ?_
     refine D_2 (i := 1) (j := 23) (by kernel_rfl) ?_ ?_
     · -- operation 1 comes up
      refine E_val (i := 1) rfl (Y_load Try.underlying23 rfl rfl (B5.at (by rfl))) GS8 ?_
      refine D_1 (i := 23) (by kernel_rfl) ?_
      refine E_bs1 (cs := [_, _, _]) (i := 23) rfl Try.underlying23 zr37 sz37 rfl rfl rfl ?_
      intro b23 w23 fb23 g23 B23
      refine ⟨GS8.grow g23, ?_⟩
      have lb23 := B23.lt
      replace hAl := hAl.grow g23
      replace hBl := hBl.grow g23
      replace cc2 := cc2.grow g23
      replace hE2 := hE2.grow g23
      replace OX := OX.grow g23
      replace OC1 := OC1.grow g23
      replace OR1 := OR1.grow g23
      replace OY := OY.grow g23
      replace G := G.grow g23
      replace GL7 := GL7.grow g23
      replace GS8 := GS8.grow g23
      replace B1 := B1.grow g23
      replace B2 := B2.grow g23
      replace B5 := B5.grow g23
      have zg23 := g23.size
      refine D_1 (i := 24) (by kernel_rfl) ?_
      refine E_app2 (i := 24) rfl Try.underlying23 zr37 sz37 by37 rfl rfl OC1 rfl (Src.blk B23) (by simp [Value.oneCell']) (by omega) (Pr' := fun i => (wz ≤ i)) (fun i hi => by omega) (by omega) ?_
      intro A24 cap24 w24 X24 m24 n24
      replace OR1 := OR1.app OC1 hne n24
      replace OC1 := X24
      clear X24 n24
      replace G := G.abv m24
      replace GL7 := GL7.trn m24
      replace GS8 := GS8.trn m24
      replace hAl := hAl0.grow G
      replace hBl := hBl0.grow G
      replace cc2 := cc20.grow G
      replace hE2 := hE20.grow G
      replace OX := OX.md m24
      replace OY := OY.md m24
      replace B1 := B1.md m24
      replace B2 := B2.md m24
      replace B5 := B5.md m24
      have zm24 := m24.size
      refine ⟨GS8, ?_⟩
      have OR2 := OR1.more (c := h.cells[k]) OY (fun i hi => by omega) (Pr' := fun i => wz ≤ i) (fun i hi => by omega) (fun i hi => by omega)
      replace OC1 : OW (fun i => (wz ≤ i)) w24 37 3 A24 (q1 + 1) cap24 (flatC (h.cells.take (k + 1)) (rs ++ [(AY, capY)])) := by rw [List.take_succ_eq_append_getElem hk1, ← flat_more OR1.len]; exact OC1
      rw [← List.take_succ_eq_append_getElem hk1] at OR2
      refine Dq (i := 25) rfl GS8 (fun _ _ => Y_field Try.underlying26 rfl fz26_0 (by decide) rfl) ?_
      refine D_1 (i := 26) (by kernel_rfl) ?_
      refine E_stM (pre := []) (old := [_]) (post := [_]) (vs := [_]) (i := 26) rfl sz23 rfl rfl rfl (by first | rfl | assumption) B5 rfl rfl ?_
      intro w25 m25 X25
      replace B5 := Blk.eq (ys := [_, _]) X25 rfl
      clear X25
      replace G := G.abv m25
      replace GL7 := GL7.trn m25
      replace GS8 := GS8.trn m25
      replace hAl := hAl0.grow G
      replace hBl := hBl0.grow G
      replace cc2 := cc20.grow G
      replace hE2 := hE20.grow G
      replace OX := OX.md m25
      replace OC1 := OC1.md m25
      replace OR2 := OR2.md m25
      replace B1 := B1.md m25
      replace B2 := B2.md m25
      have zm25 := m25.size
      refine ⟨GS8, ?_⟩
      refine D_en (by kernel_rfl) rfl rfl ?_
      refine ib_n ?_
      refine th_n (hK7 _ _ ?_)
      clear hK7 K7
      refine Sb 44 rfl ?_  -- 4
      refine S_val (Y_move rfl) ?_
      refine S_val (Y_inc rfl rfl (by omega)) ?_
      refine S_val (Y_assign rfl) ?_
      refine S_nl rfl rfl ?_
      refine th_n ?_
      go_roundw  -- e3 of L1
      case rel =>
       refine ⟨?_, GL7⟩
       exact ⟨k + 1, _, _, _, _, rfl, by omega, by omega, B5, OC1, OR2⟩
      case measure =>
       exact dec_nat (by omega)
     · -- operation 23 comes up
      refine E_bs1 (cs := [_, _, _]) (i := 23) rfl Try.underlying23 zr37 sz37 rfl rfl rfl ?_
      intro b26 w26 fb26 g26 B26
      refine ⟨GS8.grow g26, ?_⟩
      have lb26 := B26.lt
      replace hAl := hAl.grow g26
      replace hBl := hBl.grow g26
      replace cc2 := cc2.grow g26
      replace hE2 := hE2.grow g26
      replace OX := OX.grow g26
      replace OC1 := OC1.grow g26
      replace OR1 := OR1.grow g26
      replace OY := OY.grow g26
      replace G := G.grow g26
      replace GL7 := GL7.grow g26
      replace GS8 := GS8.grow g26
      replace B1 := B1.grow g26
      replace B2 := B2.grow g26
      replace B5 := B5.grow g26
      have zg26 := g26.size
      refine D_1 (i := 1) (by kernel_rfl) ?_
      refine E_val (i := 1) rfl (Y_load Try.underlying23 rfl rfl (B5.at (by rfl))) GS8 ?_
      refine D_1 (i := 24) (by kernel_rfl) ?_
      refine E_app2 (i := 24) rfl Try.underlying23 zr37 sz37 by37 rfl rfl OC1 rfl (Src.blk B26) (by simp [Value.oneCell']) (by omega) (Pr' := fun i => (wz ≤ i)) (fun i hi => by omega) (by omega) ?_
      intro A28 cap28 w28 X28 m28 n28
      replace OR1 := OR1.app OC1 hne n28
      replace OC1 := X28
      clear X28 n28
      replace G := G.abv m28
      replace GL7 := GL7.trn m28
      replace GS8 := GS8.trn m28
      replace hAl := hAl0.grow G
      replace hBl := hBl0.grow G
      replace cc2 := cc20.grow G
      replace hE2 := hE20.grow G
      replace OX := OX.md m28
      replace OY := OY.md m28
      replace B1 := B1.md m28
      replace B2 := B2.md m28
      replace B5 := B5.md m28
      have zm28 := m28.size
      refine ⟨GS8, ?_⟩
      have OR2 := OR1.more (c := h.cells[k]) OY (fun i hi => by omega) (Pr' := fun i => wz ≤ i) (fun i hi => by omega) (fun i hi => by omega)
      replace OC1 : OW (fun i => (wz ≤ i)) w28 37 3 A28 (q1 + 1) cap28 (flatC (h.cells.take (k + 1)) (rs ++ [(AY, capY)])) := by rw [List.take_succ_eq_append_getElem hk1, ← flat_more OR1.len]; exact OC1
      rw [← List.take_succ_eq_append_getElem hk1] at OR2
      refine Dq (i := 25) rfl GS8 (fun _ _ => Y_field Try.underlying26 rfl fz26_0 (by decide) rfl) ?_
      refine D_1 (i := 26) (by kernel_rfl) ?_
      refine E_stM (pre := []) (old := [_]) (post := [_]) (vs := [_]) (i := 26) rfl sz23 rfl rfl rfl (by first | rfl | assumption) B5 rfl rfl ?_
      intro w29 m29 X29
      replace B5 := Blk.eq (ys := [_, _]) X29 rfl
      clear X29
      replace G := G.abv m29
      replace GL7 := GL7.trn m29
      replace GS8 := GS8.trn m29
      replace hAl := hAl0.grow G
      replace hBl := hBl0.grow G
      replace cc2 := cc20.grow G
      replace hE2 := hE20.grow G
      replace OX := OX.md m29
      replace OC1 := OC1.md m29
      replace OR2 := OR2.md m29
      replace B1 := B1.md m29
      replace B2 := B2.md m29
      have zm29 := m29.size
      refine ⟨GS8, ?_⟩
      refine D_en (by kernel_rfl) rfl rfl ?_
      refine ib_n ?_
      refine th_n (hK7 _ _ ?_)
      clear hK7 K7
      refine Sb 44 rfl ?_  -- 4
      refine S_val (Y_move rfl) ?_
      refine S_val (Y_inc rfl rfl (by omega)) ?_
      refine S_val (Y_assign rfl) ?_
      refine S_nl rfl rfl ?_
      refine th_n ?_
      go_roundw  -- e4 of L1
      case rel =>
       refine ⟨?_, GL7⟩
       exact ⟨k + 1, _, _, _, _, rfl, by omega, by omega, B5, OC1, OR2⟩
      case measure =>
       exact dec_nat (by omega)
  · -- c1F
   replace hb1 := nb_tf hb1
   refine wp_exit ?_
   refine th_x ?_
   try clear GL7
   refine th_x ?_
   refine ib_e ?_
   refine th_n (hK3 _ _ ?_)
   clear hK5 K5 hK3 K3
   refine wp_seq_k fun K8 hK8 => ?_
   refine Sb 44 rfl ?_  -- 6
   refine S_val (Y_loadS Try.underlying26 rfl sz26 rfl (B5.row (by rfl))) ?_  -- l9
   refine S_stM (pre := []) (old := [_, _]) (post := []) (vs := [_, _]) sz26 rfl rfl rfl (by first | rfl | assumption) B2 rfl rfl ?_
   intro w30 m30 X30
   replace B2 := Blk.eq (ys := [_, _]) X30 rfl
   clear X30
   replace G := G.abv m30
   replace hAl := hAl0.grow G
   replace hBl := hBl0.grow G
   replace OX := OX.md m30
   replace OC1 := OC1.md m30
   replace OR1 := OR1.md m30
   replace B1 := B1.md m30
   replace B5 := B5.md m30
   have zm30 := m30.size
   refine S_nl rfl rfl ?_
   refine th_n (hK8 _ _ ?_)
   clear hK8 K8
   refine wp_ret ?_
   refine ret_rc (cs := [_, _]) Try.underlying26 rfl sz26 rfl rfl (B2.row (by rfl)) ?_  -- r1
   rw [List.take_of_length_le (by omega)] at hlk OC1 OR1
   rw [hq1, ← hlk] at OC1
   exact ⟨_, _, _, _, _, _, rs, rfl, by omega, rfl, XH.of_parts (h := h) OR1 OC1 OX.oi OX.cap (fun k b h1 h2 h3 => by omega) (fun k hk => by omega) (fun k hk => by omega), G⟩
set_option maxHeartbeats 400000 in
set_option maxRecDepth 20000 in
theorem spec_EmptyHeap2_c (w : World) :
    Calls Try.prog 118 #[] w (Ret fun v w' => ∃ A1 B1 n1 c1 n2 c2 rs, v = .agg #[.slice A1 n1 c1, .slice B1 n2 c2] ∧ n1 = (emptyH).cells.length ∧ n2 = (emptyH).roots.length ∧ XH (fun i => w.heap.size ≤ i) w' 37 3 A1 B1 (emptyH) rs c1 c2 ∧ Grow w w') := by
 refine enter Try.func118 rfl Try.ntmps118 (L := [_,_,_,_,_,_,_,_,_,_,_,_,_,_]) rfl ?_
 have G := Mod.refl No w
 refine wp_seq_k fun K1 hK1 => ?_
 refine Sb 14 rfl ?_  -- 0
 refine S_alloc (cs := [_, _]) zr26 rfl ?_
 intro b1 w1 fb1 g1 B1
 have lb1 := B1.lt
 replace G := G.grow g1
 have zg1 := g1.size
 refine S_nl rfl rfl ?_
 refine th_n (hK1 _ _ ?_)
 clear hK1 K1
 refine wp_seq_k fun K2 hK2 => ?_
 refine Sb 14 rfl ?_  -- 1
 refine S_val (Y_build (cs := [_, _]) zr26 pc26 rfl rfl) ?_
 refine S_alloc (cs := [_, _]) zr26 rfl ?_
 intro b2 w2 fb2 g2 B2
 have lb2 := B2.lt
 replace G := G.grow g2
 replace B1 := B1.grow g2
 have zg2 := g2.size
 refine S_stM (pre := []) (old := [_, _]) (post := []) (vs := [_, _]) sz26 rfl rfl rfl (by first | rfl | assumption) B2 rfl rfl ?_
 intro w3 m3 X3
 replace B2 := Blk.eq (ys := [_, _]) X3 rfl
 clear X3
 replace G := G.abv m3
 replace B1 := B1.md m3
 have zm3 := m3.size
 refine S_nl rfl rfl ?_
 refine th_n (hK2 _ _ ?_)
 clear hK2 K2
 refine wp_seq_k fun K3 hK3 => ?_
 refine wp_seq_k fun K4 hK4 => ?_
 refine Sb 14 rfl ?_  -- 2
 refine S_val (Y_assign rfl) ?_
 refine S_nl rfl rfl ?_
 refine th_n (hK4 _ _ ?_)
 clear hK4 K4
 refine wp_block ?_
 have O2 : OW (fun i => b2 < i) w3 3 1 none 0 0 (ints (List.replicate 0 (-1))) := OW.nil _ _ _ _
 go_loopw [2] (fun u2 wr => (∃ (k q cap : Nat) (A : Option Addr), u2 = .int .i64 k ∧ k ≤ 4 ∧ q = k ∧ Blk wr b2 26 [.slice none 0 0, .slice A q cap].toArray ∧ OW (fun i => b2 < i) wr 3 1 A q cap (ints (List.replicate k (-1)))) ∧ Mod (fun i => i = b2 ∨ b2 < i) w3 wr) (fun u2 wr => 4 - (intOf u2).toNat)  -- L1
 case atStart =>
  refine ⟨?_, Mod.refl _ _⟩
  exact ⟨0, 0, 0, none, rfl, by omega, rfl, B2, O2⟩
 case round =>
  obtain ⟨w4, rfl⟩ : ∃ x : World, x = wr := ⟨_, rfl⟩
  obtain ⟨hrel, g4⟩ := hrel
  clear B2
  clear O2
  replace G := G.abv g4
  replace B1 := B1.md g4
  have zg4 := g4.size
  obtain ⟨k, q2, cap2, A2, rfl, hk, hq2, B2, O2⟩ := hrel
  have GL4 := g4
  refine wp_seq_k fun K5 hK5 => ?_
  refine wp_seq_k fun K6 hK6 => ?_
  refine Sb 14 rfl ?_  -- 3
  refine S_val (Y_move rfl) ?_
  refine S_val (Y_lss rfl rfl) ?_
  refine S_nl rfl rfl ?_
  refine th_n (hK6 _ _ ?_)
  clear hK6 K6
  refine S_if rfl (fun hb1 => ?_) (fun hb1 => ?_)  -- c1
  · -- c1T
   replace hb1 := nb_tt hb1
   refine wp_skip ?_
   refine th_n (hK5 _ _ ?_)
   clear hK5 K5
   refine wp_seq_k fun K7 hK7 => ?_
   refine wp_block ?_
   refine Sb 14 rfl ?_  -- 5
   refine S_val (Y_field Try.underlying26 rfl fz26_1 (by decide) rfl) ?_
   refine S_val (Y_load Try.underlying24 rfl rfl (B2.at (by rfl))) ?_  -- l1
   refine S_bs1 (cs := [_]) Try.underlying24 zr3 sz3 rfl rfl rfl ?_
   intro b5 w5 fb5 g5 B5
   have lb5 := B5.lt
   replace O2 := O2.grow g5
   replace G := G.grow g5
   replace GL4 := GL4.grow g5
   replace B1 := B1.grow g5
   replace B2 := B2.grow g5
   have zg5 := g5.size
   refine S_app Try.underlying24 zr3 sz3 by3 rfl rfl O2 rfl (Src.blk B5) (by simp [Value.oneCell']) (by omega) (Pr' := fun i => b2 < i) (fun i hi => hi) (by omega) ?_
   intro A6 cap6 w6 X6 m6
   replace O2 := X6
   rw [ints_app, rep_snoc] at O2
   clear X6
   replace G := G.abv m6
   replace GL4 := GL4.trn m6
   replace B1 := B1.md m6
   replace B2 := B2.md m6
   have zm6 := m6.size
   refine S_val (Y_field Try.underlying26 rfl fz26_1 (by decide) rfl) ?_
   refine S_stM (pre := [_]) (old := [_]) (post := []) (vs := [_]) sz24 rfl rfl rfl (by first | rfl | assumption) B2 rfl rfl ?_
   intro w7 m7 X7
   replace B2 := Blk.eq (ys := [_, _]) X7 rfl
   clear X7
   replace G := G.abv m7
   replace GL4 := GL4.trn m7
   replace O2 := O2.md m7
   replace B1 := B1.md m7
   have zm7 := m7.size
   refine S_nl rfl rfl ?_
   refine ib_n ?_
   refine th_n (hK7 _ _ ?_)
   clear hK7 K7
   refine Sb 14 rfl ?_  -- 4
   refine S_val (Y_move rfl) ?_
   refine S_val (Y_inc rfl rfl (by omega)) ?_
   refine S_val (Y_assign rfl) ?_
   refine S_nl rfl rfl ?_
   refine th_n ?_
   go_roundw  -- e1 of L1
   case rel =>
    refine ⟨?_, GL4⟩
    exact ⟨k + 1, _, _, _, rfl, by omega, by omega, B2, O2⟩
   case measure =>
    exact dec_nat (by omega)
  · -- c1F
   replace hb1 := nb_tf hb1
   refine wp_exit ?_
   refine th_x ?_
   try clear GL4
   refine th_x ?_
   refine ib_e ?_
   refine th_n (hK3 _ _ ?_)
   clear hK5 K5 hK3 K3
   refine wp_seq_k fun K8 hK8 => ?_
   refine Sb 14 rfl ?_  -- 6
   refine S_val (Y_loadS Try.underlying26 rfl sz26 rfl (B2.row (by rfl))) ?_  -- l2
   refine S_stM (pre := []) (old := [_, _]) (post := []) (vs := [_, _]) sz26 rfl rfl rfl (by first | rfl | assumption) B1 rfl rfl ?_
   intro w8 m8 X8
   replace B1 := Blk.eq (ys := [_, _]) X8 rfl
   clear X8
   replace G := G.abv m8
   replace O2 := O2.md m8
   replace B2 := B2.md m8
   have zm8 := m8.size
   refine S_nl rfl rfl ?_
   refine th_n (hK8 _ _ ?_)
   clear hK8 K8
   refine wp_ret ?_
   refine ret_rc (cs := [_, _]) Try.underlying26 rfl sz26 rfl rfl (B1.row (by rfl)) ?_  -- r1
   have : k = 4 := by omega
   subst this
   subst hq2
   exact ⟨_, _, _, _, _, _, [], rfl, rfl, rfl, XH.bare (O2.weak (fun i hi => by omega)), G⟩
set_option maxHeartbeats 800000 in
set_option maxRecDepth 20000 in
theorem spec_l8Do_c (Pr : Nat → Prop) (A B : Option Addr) (h : LH) (c d pl : Nat) (oop oa ob oc : Int) (w : World) (hA : RC Pr w A h.cells) (hB : R1 Pr w B (ints h.roots)) (va : Valid h) (hcv : cvP ⟨oop, oa, ob, oc⟩) (hef : effectB h ⟨oop, oa, ob, oc⟩ = true) (hpl : oop = 1 → pl ≤ h.cells.length ∧ pl < 40) :
    Calls Try.prog 127 #[.agg #[.slice A h.cells.length c, .slice B h.roots.length d], .agg #[.int .i64 oop, .int .i64 oa, .int .i64 ob, .int .i64 oc], .int .i64 (pl : Int)] w (Ret fun v w' => ∃ A1 B1 n1 c1 n2 c2 rs h2, v = .agg #[.slice A1 n1 c1, .slice B1 n2 c2] ∧ n1 = h2.cells.length ∧ n2 = h2.roots.length ∧ Valid h2 ∧ XH (fun i => w.heap.size ≤ i) w' 37 3 A1 B1 h2 rs c1 c2 ∧ Grow w w') := by
 have hne : (37 : TypeId) ≠ 3 := by decide
 have hz1 := hsize_cells h
 have hz2 := hsize_roots h
 have hsm := va.small
 have hr4 := va.roots4
 obtain ⟨pa, rfl⟩ := Int.eq_ofNat_of_zero_le (show 0 ≤ oa by unfold cvP at hcv; dsimp only at hcv; omega)
 obtain ⟨pb, rfl⟩ := Int.eq_ofNat_of_zero_le (show 0 ≤ ob by unfold cvP at hcv; dsimp only at hcv; omega)
 obtain ⟨pc, rfl⟩ := Int.eq_ofNat_of_zero_le (show 0 ≤ oc by unfold cvP at hcv; dsimp only at hcv; omega)
 have hpa : pa < h.roots.length := by unfold cvP at hcv; dsimp only at hcv; omega
 have hAl := hA.below
 have hBl := hB.below
 refine enter Try.func127 rfl Try.ntmps127 (L := [_,_,_,_,_,_,_,_,_,_,_,_,_,_,_,_,_,_,_,_,_,_,_,_,_,_,_,_,_,_,_,_,_,_,_,_,_,_,_,_,_,_,_,_,_,_,_,_,_,_,_,_,_,_,_,_,_,_,_,_,_,_,_,_,_,_,_,_,_,_,_,_,_,_,_,_,_,_,_,_,_,_,_,_,_,_,_,_,_,_,_,_,_,_,_,_,_,_,_,_,_,_,_,_,_,_,_,_,_,_,_,_,_,_,_,_,_,_,_,_,_,_,_,_,_,_,_,_,_,_,_]) rfl ?_
 have G := Mod.refl No w
 have hAl0 := hAl
 have hBl0 := hBl
 refine wp_seq_k fun K1 hK1 => ?_
 refine Sb 131 rfl ?_  -- 0
 refine S_box (cs := [_, _]) rfl rfl ?_
 intro b1 w1 fb1 g1 B1
 have lb1 := B1.lt
 replace hAl := hAl.grow g1
 replace hBl := hBl.grow g1
 replace G := G.grow g1
 have zg1 := g1.size
 refine S_box (cs := [_, _, _, _]) rfl rfl ?_
 intro b2 w2 fb2 g2 B2
 have lb2 := B2.lt
 replace hAl := hAl.grow g2
 replace hBl := hBl.grow g2
 replace G := G.grow g2
 replace B1 := B1.grow g2
 have zg2 := g2.size
 refine S_alloc (cs := [_, _]) zr26 rfl ?_
 intro b3 w3 fb3 g3 B3
 have lb3 := B3.lt
 replace hAl := hAl.grow g3
 replace hBl := hBl.grow g3
 replace G := G.grow g3
 replace B1 := B1.grow g3
 replace B2 := B2.grow g3
 have zg3 := g3.size
 refine S_nl rfl rfl ?_
 refine th_n (hK1 _ _ ?_)
 clear hK1 K1
 refine wp_seq_k fun K2 hK2 => ?_
 refine Sb 131 rfl ?_  -- 1
 refine S_val (Y_loadS Try.underlying26 rfl sz26 rfl (B1.row (by rfl))) ?_  -- l1
 refine S_call rfl en77 (spec_l7Copy2_c _ _ _ _ _ _ _ (by assumption) (by assumption) (by omega)) ?_  -- k1 spec.l7Copy
 rintro v4 w4 ⟨A4, B4, n14, c14, n24, c24, rs4, rfl, hn14, hn24, O4, g4⟩
 replace hAl := hAl.grow g4
 replace hBl := hBl.grow g4
 replace G := G.grow g4
 replace B1 := B1.grow g4
 replace B2 := B2.grow g4
 replace B3 := B3.grow g4
 have zg4 := g4.size
 subst hn14
 subst hn24
 obtain ⟨AH, rfl⟩ : ∃ x, x = A4 := ⟨_, rfl⟩
 obtain ⟨BH, rfl⟩ : ∃ x, x = B4 := ⟨_, rfl⟩
 obtain ⟨cH, rfl⟩ : ∃ x, x = c14 := ⟨_, rfl⟩
 obtain ⟨dH, rfl⟩ : ∃ x, x = c24 := ⟨_, rfl⟩
 obtain ⟨rsH, rfl⟩ : ∃ x, x = rs4 := ⟨_, rfl⟩
 have OX := O4.lt
 obtain ⟨bR, postR, rfl, hpR, _⟩ := OX.roots (ints_ne.2 (fun e => by rw [e] at hr4; simp at hr4))
 try dsimp only at hpR
 refine S_alloc (cs := [_, _]) zr26 rfl ?_
 intro b5 w5 fb5 g5 B5
 have lb5 := B5.lt
 replace hAl := hAl.grow g5
 replace hBl := hBl.grow g5
 replace OX := OX.grow g5
 replace G := G.grow g5
 replace B1 := B1.grow g5
 replace B2 := B2.grow g5
 replace B3 := B3.grow g5
 have zg5 := g5.size
 refine S_stM (pre := []) (old := [_, _]) (post := []) (vs := [_, _]) sz26 rfl rfl rfl (by first | rfl | assumption) B5 rfl rfl ?_
 intro w6 m6 X6
 replace B5 := Blk.eq (ys := [_, _]) X6 rfl
 clear X6
 replace G := G.abv m6
 replace hAl := hAl0.grow G
 replace hBl := hBl0.grow G
 replace OX := OX.md m6
 replace B1 := B1.md m6
 replace B2 := B2.md m6
 replace B3 := B3.md m6
 have zm6 := m6.size
 refine S_nl rfl rfl ?_
 refine th_n (hK2 _ _ ?_)
 clear hK2 K2
 refine wp_seq_k fun K3 hK3 => ?_
 refine wp_seq_k fun K4 hK4 => ?_
 refine Sb 131 rfl ?_  -- 2
 refine S_val (Y_field Try.underlying112 rfl fz112_0 (by decide) rfl) ?_
 refine S_val (Y_load Try.underlying3 rfl rfl (B2.at (by rfl))) ?_  -- l2
 refine S_nl rfl rfl ?_
 refine th_n (hK4 _ _ ?_)
 clear hK4 K4
 refine wp_block ?_
 refine wp_seq_k fun K5 hK5 => ?_
 refine Sb 131 rfl ?_  -- 3
 refine S_val (Y_eql rfl rfl) ?_
 refine S_val (Y_assign rfl) ?_
 refine S_nl rfl rfl ?_
 refine th_n (hK5 _ _ ?_)
 clear hK5 K5
 refine S_if rfl (fun hb1 => ?_) (fun hb1 => ?_)  -- c1
 · -- c1T
  replace hb1 := nb_tt hb1
  have hcu := hcv
  unfold cvP at hcu
  dsimp only at hcu
  have hpl2 := hpl hb1
  have hpb3 : pb ≤ 3 := by omega
  have hpc9 : pc ≤ 99 := by omega
  refine wp_seq_k fun K6 hK6 => ?_
  refine Sb 131 rfl ?_  -- 4
  refine S_val (Y_field Try.underlying112 rfl fz112_3 (by decide) rfl) ?_
  refine S_val (Y_load Try.underlying3 rfl rfl (B2.at (by rfl))) ?_  -- l3
  refine S_val (Y_build (cs := [_, _, _]) zr37 pc37 rfl rfl) ?_
  refine S_alloc (cs := [_, _, _]) zr37 rfl ?_
  intro b7 w7 fb7 g7 B7
  have lb7 := B7.lt
  replace hAl := hAl.grow g7
  replace hBl := hBl.grow g7
  replace OX := OX.grow g7
  replace G := G.grow g7
  replace B1 := B1.grow g7
  replace B2 := B2.grow g7
  replace B3 := B3.grow g7
  replace B5 := B5.grow g7
  have zg7 := g7.size
  refine S_stM (pre := []) (old := [_, _, _]) (post := []) (vs := [_, _, _]) sz37 rfl rfl rfl (by first | rfl | assumption) B7 rfl rfl ?_
  intro w8 m8 X8
  replace B7 := Blk.eq (ys := [_, _, _]) X8 rfl
  clear X8
  replace G := G.abv m8
  replace hAl := hAl0.grow G
  replace hBl := hBl0.grow G
  replace OX := OX.md m8
  replace B1 := B1.md m8
  replace B2 := B2.md m8
  replace B3 := B3.md m8
  replace B5 := B5.md m8
  have zm8 := m8.size
  refine S_nl rfl rfl ?_
  refine th_n (hK6 _ _ ?_)
  clear hK6 K6
  refine wp_seq_k fun K7 hK7 => ?_
  refine wp_seq_k fun K8 hK8 => ?_
  refine Sb 131 rfl ?_  -- 5
  refine S_val (Y_assign rfl) ?_
  refine S_nl rfl rfl ?_
  refine th_n (hK8 _ _ ?_)
  clear hK8 K8
  refine wp_block ?_
  obtain ⟨wz, hwz⟩ : ∃ x, x = w8.heap.size := ⟨_, rfl⟩
  have O6 : OW (fun i => wz ≤ i) w8 3 1 none 0 0 (ints (List.replicate 0 (-1))) := OW.nil _ _ _ _
  go_loopw [9] (fun u9 wr => (∃ (k q cap : Nat) (A1 : Option Addr), u9 = .int .i64 k ∧ k ≤ pb ∧ q = k ∧ Blk wr b7 37 [.bool true, .int .i64 (pc : Int), .slice A1 q cap].toArray ∧ OW (fun i => wz ≤ i) wr 3 1 A1 q cap (ints (List.replicate k (-1)))) ∧ Mod (fun i => i = b7 ∨ wz ≤ i) w8 wr) (fun u9 wr => pb - (intOf u9).toNat)  -- L1
  case atStart =>
   refine ⟨?_, Mod.refl _ _⟩
   exact ⟨0, 0, 0, none, rfl, by omega, rfl, B7, O6⟩
  case round =>
   obtain ⟨w9, rfl⟩ : ∃ x : World, x = wr := ⟨_, rfl⟩
   obtain ⟨hrel, g9⟩ := hrel
   clear B7
   clear O6
   replace G := G.abv g9
   replace hAl := hAl0.grow G
   replace hBl := hBl0.grow G
   replace OX := OX.md g9
   replace B1 := B1.md g9
   replace B2 := B2.md g9
   replace B3 := B3.md g9
   replace B5 := B5.md g9
   have zg9 := g9.size
   obtain ⟨k, q1, cap1, A1, rfl, hk, hq1, B7, O6⟩ := hrel
   have GL9 := g9
   refine wp_seq_k fun K9 hK9 => ?_
   refine wp_seq_k fun K10 hK10 => ?_
   refine Sb 131 rfl ?_  -- 6
   refine S_val (Y_move rfl) ?_
   refine S_val (Y_field Try.underlying112 rfl fz112_2 (by decide) rfl) ?_
   refine S_val (Y_load Try.underlying3 rfl rfl (B2.at (by rfl))) ?_  -- l4
   refine S_val (Y_lss rfl rfl) ?_
   refine S_nl rfl rfl ?_
   refine th_n (hK10 _ _ ?_)
   clear hK10 K10
   refine S_if rfl (fun hb2 => ?_) (fun hb2 => ?_)  -- c2
   · -- c2T
    replace hb2 := nb_tt hb2
    refine wp_skip ?_
    refine th_n (hK9 _ _ ?_)
    clear hK9 K9
    refine wp_seq_k fun K11 hK11 => ?_
    refine wp_block ?_
    refine Sb 131 rfl ?_  -- 8
    refine S_val (Y_field Try.underlying37 rfl fz37_2 (by decide) rfl) ?_
    refine S_val (Y_load Try.underlying24 rfl rfl (B7.at (by rfl))) ?_  -- l5
    refine S_bs1 (cs := [_]) Try.underlying24 zr3 sz3 rfl rfl rfl ?_
    intro b10 w10 fb10 g10 B10
    have lb10 := B10.lt
    replace hAl := hAl.grow g10
    replace hBl := hBl.grow g10
    replace OX := OX.grow g10
    replace O6 := O6.grow g10
    replace G := G.grow g10
    replace GL9 := GL9.grow g10
    replace B1 := B1.grow g10
    replace B2 := B2.grow g10
    replace B3 := B3.grow g10
    replace B5 := B5.grow g10
    replace B7 := B7.grow g10
    have zg10 := g10.size
    refine S_app Try.underlying24 zr3 sz3 by3 rfl rfl O6 rfl (Src.blk B10) (by simp [Value.oneCell']) (by omega) (Pr' := fun i => wz ≤ i) (fun i hi => hi) (by omega) ?_
    intro A11 cap11 w11 X11 m11
    replace O6 := X11
    rw [ints_app, rep_snoc] at O6
    clear X11
    replace G := G.abv m11
    replace GL9 := GL9.trn m11
    replace hAl := hAl0.grow G
    replace hBl := hBl0.grow G
    replace OX := OX.md m11
    replace B1 := B1.md m11
    replace B2 := B2.md m11
    replace B3 := B3.md m11
    replace B5 := B5.md m11
    replace B7 := B7.md m11
    have zm11 := m11.size
    refine S_val (Y_field Try.underlying37 rfl fz37_2 (by decide) rfl) ?_
    refine S_stM (pre := [_, _]) (old := [_]) (post := []) (vs := [_]) sz24 rfl rfl rfl (by first | rfl | assumption) B7 rfl rfl ?_
    intro w12 m12 X12
    replace B7 := Blk.eq (ys := [_, _, _]) X12 rfl
    clear X12
    replace G := G.abv m12
    replace GL9 := GL9.trn m12
    replace hAl := hAl0.grow G
    replace hBl := hBl0.grow G
    replace OX := OX.md m12
    replace O6 := O6.md m12
    replace B1 := B1.md m12
    replace B2 := B2.md m12
    replace B3 := B3.md m12
    replace B5 := B5.md m12
    have zm12 := m12.size
    refine S_nl rfl rfl ?_
    refine ib_n ?_
    refine th_n (hK11 _ _ ?_)
    clear hK11 K11
    refine Sb 131 rfl ?_  -- 7
    refine S_val (Y_move rfl) ?_
    refine S_val (Y_inc rfl rfl (by omega)) ?_
    refine S_val (Y_assign rfl) ?_
    refine S_nl rfl rfl ?_
    refine th_n ?_
    go_roundw  -- e1 of L1
    case rel =>
     refine ⟨?_, GL9⟩
     exact ⟨k + 1, _, _, _, rfl, by omega, by omega, B7, O6⟩
    case measure =>
     exact dec_nat (by omega)
   · -- c2F
    replace hb2 := nb_tf hb2
    have hkb : k = pb := by omega
    subst hkb
    obtain rfl : q1 = (List.replicate k (-1 : Int)).length := by rw [List.length_replicate]; exact hq1
    replace O6 := O6.lt
    refine wp_exit ?_
    refine th_x ?_
    try clear GL9
    refine th_x ?_
    refine ib_e ?_
    refine th_n (hK7 _ _ ?_)
    clear hK9 K9 hK7 K7
    refine wp_seq_k fun K12 hK12 => ?_
    refine wp_seq_k fun K13 hK13 => ?_
    refine Sb 131 rfl ?_  -- 9
    refine S_val (Y_move rfl) ?_
    refine S_val (Y_field Try.underlying26 rfl fz26_0 (by decide) rfl) ?_
    refine S_val (Y_load Try.underlying23 rfl rfl (B5.at (by rfl))) ?_  -- l6
    refine S_val (Y_len Try.underlying23 rfl) ?_
    refine S_val (Y_eql rfl rfl) ?_
    refine S_nl rfl rfl ?_
    refine th_n (hK13 _ _ ?_)
    clear hK13 K13
    refine S_if rfl (fun hb3 => ?_) (fun hb3 => ?_)  -- c3
    · -- c3T
     replace hb3 := nb_tt hb3
     have hpe : pl = h.cells.length := by omega
     subst hpe
     refine Sb 131 rfl ?_  -- 10
     refine S_val (Y_field Try.underlying26 rfl fz26_0 (by decide) rfl) ?_
     refine S_val (Y_load Try.underlying23 rfl rfl (B5.at (by rfl))) ?_  -- l7
     refine S_val (Y_loadS Try.underlying37 rfl sz37 rfl (B7.row (by rfl))) ?_  -- l8
     refine S_bs1 (cs := [_, _, _]) Try.underlying23 zr37 sz37 rfl rfl rfl ?_
     intro b13 w13 fb13 g13 B13
     have lb13 := B13.lt
     replace hAl := hAl.grow g13
     replace hBl := hBl.grow g13
     replace OX := OX.grow g13
     replace O6 := O6.grow g13
     replace G := G.grow g13
     replace B1 := B1.grow g13
     replace B2 := B2.grow g13
     replace B3 := B3.grow g13
     replace B5 := B5.grow g13
     replace B7 := B7.grow g13
     have zg13 := g13.size
     refine S_app2 Try.underlying23 zr37 sz37 by37 rfl rfl OX.row rfl (Src.blk B13) (by simp [Value.oneCell']) (by omega) (Pr' := fun i => b3 < i ∧ i ≠ b5) (fun i hi => by first | omega | (dsimp only at hi; omega)) (by omega) ?_
     intro A14 cap14 w14 X14 m14 n14
     have OY := OX.add hne (z := ⟨true, (pc : Int), List.replicate k (-1)⟩) O6.oi (fun i hi => by first | omega | (dsimp only at hi ⊢; omega)) n14 X14 (fun i hi => by first | omega | (dsimp only at hi ⊢; omega)) (fun i hi => by first | omega | (dsimp only at hi ⊢; omega))
     replace G := G.abv m14
     replace hAl := hAl0.grow G
     replace hBl := hBl0.grow G
     replace O6 := O6.md m14
     replace B1 := B1.md m14
     replace B2 := B2.md m14
     replace B3 := B3.md m14
     replace B5 := B5.md m14
     replace B7 := B7.md m14
     have zm14 := m14.size
     refine S_val (Y_field Try.underlying26 rfl fz26_0 (by decide) rfl) ?_
     refine S_stM (pre := []) (old := [_]) (post := [_]) (vs := [_]) sz23 rfl rfl rfl (by first | rfl | assumption) B5 rfl rfl ?_
     intro w15 m15 X15
     replace B5 := Blk.eq (ys := [_, _]) X15 rfl
     clear X15
     replace G := G.abv m15
     replace hAl := hAl0.grow G
     replace hBl := hBl0.grow G
     replace O6 := O6.md m15
     replace OY := OY.md m15
     replace B1 := B1.md m15
     replace B2 := B2.md m15
     replace B3 := B3.md m15
     replace B7 := B7.md m15
     have zm15 := m15.size
     refine S_nl rfl rfl ?_
     refine th_n (hK12 _ _ ?_)
     clear hK12 K12
     refine Sb 131 rfl ?_  -- 12
     refine S_val (Y_field Try.underlying26 rfl fz26_1 (by decide) rfl) ?_
     refine S_val (Y_load Try.underlying24 rfl rfl (B5.at (by rfl))) ?_  -- l9
     refine S_val (Y_field Try.underlying112 rfl fz112_1 (by decide) rfl) ?_
     refine S_val (Y_load Try.underlying3 rfl rfl (B2.at (by rfl))) ?_  -- l10
     refine S_val (Y_move rfl) ?_
     refine S_val (Y_index Try.underlying24 sz3 rfl rfl (by first | assumption | omega)) ?_
     refine S_of (Ys_root sz3 OY hne (k := pa) (by show pa < h.roots.length; omega) rfl rfl) ?_
     rintro w16 ⟨m16, hp16, OXF⟩
     replace G := G.abv m16
     replace hAl := hAl0.grow G
     replace hBl := hBl0.grow G
     replace O6 := O6.md m16
     replace B1 := B1.md m16
     replace B2 := B2.md m16
     replace B3 := B3.md m16
     replace B5 := B5.md m16
     replace B7 := B7.md m16
     have zm16 := m16.size
     first | (have hvF := valid_newAt (k := pa) (n := k) (d := (pc : Int)) va hpe ⟨by omega, by omega⟩ (by omega)) | (have hvF := valid_new (k := pa) (n := k) (d := (pc : Int)) va hpl2.2 ⟨by omega, by omega⟩ (by omega))
     refine S_nl rfl rfl ?_
     refine ib_n ?_
     refine th_n (hK3 _ _ ?_)
     clear hK3 K3
     refine wp_seq_k fun K14 hK14 => ?_
     refine Sb 131 rfl ?_  -- 23
     refine S_val (Y_loadS Try.underlying26 rfl sz26 rfl (B5.row (by rfl))) ?_  -- l11
     refine S_stM (pre := []) (old := [_, _]) (post := []) (vs := [_, _]) sz26 rfl rfl rfl (by first | rfl | assumption) B3 rfl rfl ?_
     intro w17 m17 X17
     replace B3 := Blk.eq (ys := [_, _]) X17 rfl
     clear X17
     replace G := G.abv m17
     replace hAl := hAl0.grow G
     replace hBl := hBl0.grow G
     replace O6 := O6.md m17
     replace OXF := OXF.md m17
     replace B1 := B1.md m17
     replace B2 := B2.md m17
     replace B5 := B5.md m17
     replace B7 := B7.md m17
     have zm17 := m17.size
     refine S_nl rfl rfl ?_
     refine th_n (hK14 _ _ ?_)
     clear hK14 K14
     refine wp_ret ?_
     refine ret_rc (cs := [_, _]) Try.underlying26 rfl sz26 rfl rfl (B3.row (by rfl)) ?_  -- r1
     exact ⟨_, _, _, _, _, _, _, _, rfl, by simp, by simp, hvF, OXF.weak (fun i hi => by first | omega | (dsimp only at hi; omega)), G⟩
    · -- c3F
     replace hb3 := nb_tf hb3
     have hpe : pl < h.cells.length := by omega
     obtain ⟨gC, RC0, capC, rfl, hpC, _, _, _, _⟩ := OX.cellAt hne hpe
     try dsimp only at hpC
     refine Sb 131 rfl ?_  -- 11
     refine S_val (Y_field Try.underlying26 rfl fz26_0 (by decide) rfl) ?_
     refine S_val (Y_load Try.underlying23 rfl rfl (B5.at (by rfl))) ?_  -- l12
     refine S_val (Y_move rfl) ?_
     refine S_val (Y_loadS Try.underlying37 rfl sz37 rfl (B7.row (by rfl))) ?_  -- l13
     refine S_val (Y_index Try.underlying23 sz37 rfl rfl (by first | assumption | omega)) ?_
     refine S_of (Ys_cell (z := ⟨true, (pc : Int), List.replicate k (-1)⟩) sz37 OX hne hpe O6.oi (fun i hi => by first | omega | (dsimp only at hi ⊢; omega)) rfl rfl) ?_
     rintro w18 ⟨m18, hp18, OY⟩
     replace OY := OY.weak (Pr' := fun i => b3 < i ∧ i ≠ b5) (fun i hi => by rcases hi with hi | hi <;> first | omega | (dsimp only at hi ⊢; omega))
     replace G := G.abv m18
     replace hAl := hAl0.grow G
     replace hBl := hBl0.grow G
     replace O6 := O6.md m18
     replace B1 := B1.md m18
     replace B2 := B2.md m18
     replace B3 := B3.md m18
     replace B5 := B5.md m18
     replace B7 := B7.md m18
     have zm18 := m18.size
     refine S_nl rfl rfl ?_
     refine th_n (hK12 _ _ ?_)
     clear hK12 K12
     refine Sb 131 rfl ?_  -- 12
     refine S_val (Y_field Try.underlying26 rfl fz26_1 (by decide) rfl) ?_
     refine S_val (Y_load Try.underlying24 rfl rfl (B5.at (by rfl))) ?_  -- l14
     refine S_val (Y_field Try.underlying112 rfl fz112_1 (by decide) rfl) ?_
     refine S_val (Y_load Try.underlying3 rfl rfl (B2.at (by rfl))) ?_  -- l15
     refine S_val (Y_move rfl) ?_
     refine S_val (Y_index Try.underlying24 sz3 rfl rfl (by first | assumption | omega)) ?_
     refine S_of (Ys_root sz3 OY hne (k := pa) (by show pa < h.roots.length; omega) rfl rfl) ?_
     rintro w19 ⟨m19, hp19, OXF⟩
     replace G := G.abv m19
     replace hAl := hAl0.grow G
     replace hBl := hBl0.grow G
     replace O6 := O6.md m19
     replace B1 := B1.md m19
     replace B2 := B2.md m19
     replace B3 := B3.md m19
     replace B5 := B5.md m19
     replace B7 := B7.md m19
     have zm19 := m19.size
     first | (have hvF := valid_newAt (k := pa) (n := k) (d := (pc : Int)) va hpe ⟨by omega, by omega⟩ (by omega)) | (have hvF := valid_new (k := pa) (n := k) (d := (pc : Int)) va hpl2.2 ⟨by omega, by omega⟩ (by omega))
     refine S_nl rfl rfl ?_
     refine ib_n ?_
     refine th_n (hK3 _ _ ?_)
     clear hK3 K3
     refine wp_seq_k fun K15 hK15 => ?_
     refine Sb 131 rfl ?_  -- 23
     refine S_val (Y_loadS Try.underlying26 rfl sz26 rfl (B5.row (by rfl))) ?_  -- l16
     refine S_stM (pre := []) (old := [_, _]) (post := []) (vs := [_, _]) sz26 rfl rfl rfl (by first | rfl | assumption) B3 rfl rfl ?_
     intro w20 m20 X20
     replace B3 := Blk.eq (ys := [_, _]) X20 rfl
     clear X20
     replace G := G.abv m20
     replace hAl := hAl0.grow G
     replace hBl := hBl0.grow G
     replace O6 := O6.md m20
     replace OXF := OXF.md m20
     replace B1 := B1.md m20
     replace B2 := B2.md m20
     replace B5 := B5.md m20
     replace B7 := B7.md m20
     have zm20 := m20.size
     refine S_nl rfl rfl ?_
     refine th_n (hK15 _ _ ?_)
     clear hK15 K15
     refine wp_ret ?_
     refine ret_rc (cs := [_, _]) Try.underlying26 rfl sz26 rfl rfl (B3.row (by rfl)) ?_  -- r2
     exact ⟨_, _, _, _, _, _, _, _, rfl, by simp, by simp, hvF, OXF.weak (fun i hi => by first | omega | (dsimp only at hi; omega)), G⟩
 · -- c1F
  replace hb1 := nb_tf hb1
  refine wp_seq_k fun K16 hK16 => ?_
  refine Sb 131 rfl ?_  -- 13
  refine S_val (Y_eql rfl rfl) ?_
  refine S_val (Y_assign rfl) ?_
  refine S_nl rfl rfl ?_
  refine th_n (hK16 _ _ ?_)
  clear hK16 K16
  refine S_if rfl (fun hb2 => ?_) (fun hb2 => ?_)  -- c4
  · -- c4T
   replace hb2 := nb_tt hb2
   have hcu := hcv
   unfold cvP at hcu
   dsimp only at hcu
   have hpb4 : pb < h.roots.length := by omega
   have hpe : placeB h ((pb : Nat) : Int) (pc : Int) = true := by rw [hb2] at hef; simpa [effectB] using hef
   rw [placeB_at hpb4, Bool.and_eq_true, decide_eq_true_eq, decide_eq_true_eq] at hpe
   obtain ⟨m, hm, hmN⟩ := valid_root va hpb4 hpe.1
   have hj : pc < h.cells[m].refs.length := by have h9 := hpe.2; rw [hm, Int.toNat_natCast, refsOf_at hmN] at h9; omega
   have hmu := root_used va hpb4 hm hmN
   have hvF := valid_setRoot va (k := pa) (va.refs hmN _ (List.getElem_mem hj))
   refine D_start 21 131 (fun w => Mod (fun i => i = bR) w) follows rfl rfl ?_  -- d1 r14
   intro w21 g21
   replace hAl := hAl.grow g21
   replace hBl := hBl.grow g21
   replace OX := OX.grow g21
   replace G := G.grow g21
   replace B1 := B1.grow g21
   replace B2 := B2.grow g21
   replace B3 := B3.grow g21
   replace B5 := B5.grow g21
   have zg21 := g21.size
   have GS21 := Mod.refl (fun i => i = bR) w21
   obtain ⟨gB, oB, eB, hpB, hcB⟩ := hBl.int (k := pb) (by omega)
   cases eB
   rw [hm] at hcB
   obtain ⟨g2, o2, E2, d2, eA, hp2, cc2, hE2⟩ := hAl.cell hmN
   cases eA
   obtain ⟨g5, o5, e5, hp5, hc5⟩ := hE2.int hj
   cases e5
   refine Dq (i := 0) rfl GS21 (fun _ _ => Y_field Try.underlying26 rfl fz26_1 (by decide) rfl) ?_
   refine Dq (i := 1) rfl GS21 (fun _ hs => Y_load Try.underlying24 rfl rfl (by first | exact hs.cell (B5.at (by rfl)) (by intro h; first | omega | (dsimp only at h; omega)))) ?_
   refine Dq (i := 2) rfl GS21 (fun _ _ => Y_field Try.underlying112 rfl fz112_1 (by decide) rfl) ?_
   refine Dq (i := 3) rfl GS21 (fun _ hs => Y_load Try.underlying3 rfl rfl (by first | exact hs.cell (B2.at (by rfl)) (by intro h; first | omega | (dsimp only at h; omega)))) ?_
   refine Dq (i := 4) rfl GS21 (fun _ _ => Y_field Try.underlying26 rfl fz26_0 (by decide) rfl) ?_
   refine Dq (i := 5) rfl GS21 (fun _ hs => Y_load Try.underlying23 rfl rfl (by first | exact hs.cell (B1.at (by rfl)) (by intro h; first | omega | (dsimp only at h; omega)))) ?_
   refine Dq (i := 6) rfl GS21 (fun _ _ => Y_field Try.underlying26 rfl fz26_1 (by decide) rfl) ?_
   refine Dq (i := 7) rfl GS21 (fun _ hs => Y_load Try.underlying24 rfl rfl (by first | exact hs.cell (B1.at (by rfl)) (by intro h; first | omega | (dsimp only at h; omega)))) ?_
   refine Dq (i := 8) rfl GS21 (fun _ _ => Y_field Try.underlying112 rfl fz112_2 (by decide) rfl) ?_
   refine Dq (i := 9) rfl GS21 (fun _ hs => Y_load Try.underlying3 rfl rfl (by first | exact hs.cell (B2.at (by rfl)) (by intro h; first | omega | (dsimp only at h; omega)))) ?_
   refine Dq (i := 10) rfl GS21 (fun _ _ => Y_index Try.underlying24 sz3 rfl rfl (by first | assumption | omega)) ?_
   refine Dq (i := 11) rfl GS21 (fun _ hs => Y_load Try.underlying3 rfl rfl (by first | exact hs.cell (by assumption) (by intro h; first | omega | (dsimp only at h; omega)) | exact hs.cell (cc2.at (by rfl)) (by intro h; first | omega | (dsimp only at h; omega)) | exact hs.cell (B1.at (by rfl)) (by intro h; first | omega | (dsimp only at h; omega)) | exact hs.cell (B2.at (by rfl)) (by intro h; first | omega | (dsimp only at h; omega)) | exact hs.cell (B3.at (by rfl)) (by intro h; first | omega | (dsimp only at h; omega)) | exact hs.cell (B5.at (by rfl)) (by intro h; first | omega | (dsimp only at h; omega)))) ?_
   refine Dq (i := 12) rfl GS21 (fun _ _ => Y_index Try.underlying23 sz37 rfl rfl (by first | assumption | omega)) ?_
   refine Dq (i := 13) rfl GS21 (fun _ _ => Y_field Try.underlying37 rfl fz37_2 (by decide) rfl) ?_
   refine Dq (i := 14) rfl GS21 (fun _ hs => Y_load Try.underlying24 rfl rfl (by first | exact hs.cell (by assumption) (by intro h; first | omega | (dsimp only at h; omega)) | exact hs.cell (cc2.at (by rfl)) (by intro h; first | omega | (dsimp only at h; omega)) | exact hs.cell (B1.at (by rfl)) (by intro h; first | omega | (dsimp only at h; omega)) | exact hs.cell (B2.at (by rfl)) (by intro h; first | omega | (dsimp only at h; omega)) | exact hs.cell (B3.at (by rfl)) (by intro h; first | omega | (dsimp only at h; omega)) | exact hs.cell (B5.at (by rfl)) (by intro h; first | omega | (dsimp only at h; omega)))) ?_
   refine Dq (i := 15) rfl GS21 (fun _ _ => Y_field Try.underlying112 rfl fz112_3 (by decide) rfl) ?_
   refine Dq (i := 16) rfl GS21 (fun _ hs => Y_load Try.underlying3 rfl rfl (by first | exact hs.cell (B2.at (by rfl)) (by intro h; first | omega | (dsimp only at h; omega)))) ?_
   refine Dq (i := 17) rfl GS21 (fun _ _ => Y_index Try.underlying24 sz3 rfl rfl (by first | assumption | omega)) ?_
   refine Dq (i := 18) rfl GS21 (fun _ hs => Y_load Try.underlying3 rfl rfl (by first | exact hs.cell (by assumption) (by intro h; first | omega | (dsimp only at h; omega)) | exact hs.cell (cc2.at (by rfl)) (by intro h; first | omega | (dsimp only at h; omega)) | exact hs.cell (B1.at (by rfl)) (by intro h; first | omega | (dsimp only at h; omega)) | exact hs.cell (B2.at (by rfl)) (by intro h; first | omega | (dsimp only at h; omega)) | exact hs.cell (B3.at (by rfl)) (by intro h; first | omega | (dsimp only at h; omega)) | exact hs.cell (B5.at (by rfl)) (by intro h; first | omega | (dsimp only at h; omega)))) ?_
   refine Dq (i := 19) rfl GS21 (fun _ _ => Y_index Try.underlying24 sz3 rfl rfl (by first | assumption | omega)) ?_
   refine D_1 (i := 20) (by kernel_rfl) ?_
   refine E_of (i := 20) rfl (Ys_root sz3 OX hne (k := pa) (by omega) rfl rfl) ?_
   rintro w22 ⟨m22, hp22, OXF⟩
   try dsimp only at hp22
   replace G := G.abv m22
   replace GS21 := GS21.trn m22
   replace hAl := hAl0.grow G
   replace hBl := hBl0.grow G
   replace B1 := B1.md m22
   replace B2 := B2.md m22
   replace B3 := B3.md m22
   replace B5 := B5.md m22
   clear cc2
   have zm22 := m22.size
   refine ⟨GS21, ?_⟩
   refine D_en (by kernel_rfl) rfl rfl ?_
   refine ib_n ?_
   refine th_n (hK3 _ _ ?_)
   clear hK3 K3
   refine wp_seq_k fun K17 hK17 => ?_
   refine Sb 131 rfl ?_  -- 23
   refine S_val (Y_loadS Try.underlying26 rfl sz26 rfl (B5.row (by rfl))) ?_  -- l26
   refine S_stM (pre := []) (old := [_, _]) (post := []) (vs := [_, _]) sz26 rfl rfl rfl (by first | rfl | assumption) B3 rfl rfl ?_
   intro w23 m23 X23
   replace B3 := Blk.eq (ys := [_, _]) X23 rfl
   clear X23
   replace G := G.abv m23
   replace hAl := hAl0.grow G
   replace hBl := hBl0.grow G
   replace OXF := OXF.md m23
   replace B1 := B1.md m23
   replace B2 := B2.md m23
   replace B5 := B5.md m23
   have zm23 := m23.size
   refine S_nl rfl rfl ?_
   refine th_n (hK17 _ _ ?_)
   clear hK17 K17
   refine wp_ret ?_
   refine ret_rc (cs := [_, _]) Try.underlying26 rfl sz26 rfl rfl (B3.row (by rfl)) ?_  -- r3
   exact ⟨_, _, _, _, _, _, _, _, rfl, by simp, by simp, hvF, OXF.weak (fun i hi => by first | omega | (dsimp only at hi; omega)), G⟩
  · -- c4F
   replace hb2 := nb_tf hb2
   refine wp_seq_k fun K18 hK18 => ?_
   refine Sb 131 rfl ?_  -- 15
   refine S_val (Y_eql rfl rfl) ?_
   refine S_val (Y_assign rfl) ?_
   refine S_nl rfl rfl ?_
   refine th_n (hK18 _ _ ?_)
   clear hK18 K18
   refine S_if rfl (fun hb3 => ?_) (fun hb3 => ?_)  -- c5
   · -- c5T
    replace hb3 := nb_tt hb3
    have hcu := hcv
    unfold cvP at hcu
    dsimp only at hcu
    have hpb4 : pb < h.roots.length := by omega
    have hpe : placeB h ((pa : Nat) : Int) (pc : Int) = true := by rw [hb3] at hef; simpa [effectB] using hef
    rw [placeB_at hpa, Bool.and_eq_true, decide_eq_true_eq, decide_eq_true_eq] at hpe
    obtain ⟨m, hm, hmN⟩ := valid_root va hpa hpe.1
    have hj : pc < h.cells[m].refs.length := by have h9 := hpe.2; rw [hm, Int.toNat_natCast, refsOf_at hmN] at h9; omega
    have hmu := root_used va hpa hm hmN
    have hvF := valid_setRef va hmN hmu (j := pc) (va.roots _ (List.getElem_mem hpb4))
    obtain ⟨gC, RX, capX, rfl, hpC, hrs, ccx, hRX, hRb⟩ := OX.cellAt hne hmN
    try dsimp only at hpC
    obtain ⟨bX, rfl, hpX, hXC⟩ := hRb (by omega)
    try dsimp only at hpX
    refine D_start 21 131 (fun w => Mod (fun i => i = bX) w) follows rfl rfl ?_  -- d2 r16
    intro w24 g24
    replace hAl := hAl.grow g24
    replace hBl := hBl.grow g24
    replace OX := OX.grow g24
    replace G := G.grow g24
    replace B1 := B1.grow g24
    replace B2 := B2.grow g24
    replace B3 := B3.grow g24
    replace B5 := B5.grow g24
    replace ccx := ccx.grow g24
    have zg24 := g24.size
    have GS24 := Mod.refl (fun i => i = bX) w24
    obtain ⟨gB, oB, eB, hpB, hcB⟩ := hBl.int hpa
    cases eB
    rw [hm] at hcB
    obtain ⟨gD, oD, eD, hpD, hcD⟩ := hBl.int hpb4
    cases eD
    refine Dq (i := 0) rfl GS24 (fun _ _ => Y_field Try.underlying26 rfl fz26_0 (by decide) rfl) ?_
    refine Dq (i := 1) rfl GS24 (fun _ hs => Y_load Try.underlying23 rfl rfl (by first | exact hs.cell (B5.at (by rfl)) (by intro h; first | omega | (dsimp only at h; omega)))) ?_
    refine Dq (i := 2) rfl GS24 (fun _ _ => Y_field Try.underlying26 rfl fz26_1 (by decide) rfl) ?_
    refine Dq (i := 3) rfl GS24 (fun _ hs => Y_load Try.underlying24 rfl rfl (by first | exact hs.cell (B1.at (by rfl)) (by intro h; first | omega | (dsimp only at h; omega)))) ?_
    refine Dq (i := 4) rfl GS24 (fun _ _ => Y_field Try.underlying112 rfl fz112_1 (by decide) rfl) ?_
    refine Dq (i := 5) rfl GS24 (fun _ hs => Y_load Try.underlying3 rfl rfl (by first | exact hs.cell (B2.at (by rfl)) (by intro h; first | omega | (dsimp only at h; omega)))) ?_
    refine Dq (i := 6) rfl GS24 (fun _ _ => Y_index Try.underlying24 sz3 rfl rfl (by first | assumption | omega)) ?_
    refine Dq (i := 7) rfl GS24 (fun _ hs => Y_load Try.underlying3 rfl rfl (by first | exact hs.cell (by assumption) (by intro h; first | omega | (dsimp only at h; omega)) | exact hs.cell (ccx.at (by rfl)) (by intro h; first | omega | (dsimp only at h; omega)) | exact hs.cell (B1.at (by rfl)) (by intro h; first | omega | (dsimp only at h; omega)) | exact hs.cell (B2.at (by rfl)) (by intro h; first | omega | (dsimp only at h; omega)) | exact hs.cell (B3.at (by rfl)) (by intro h; first | omega | (dsimp only at h; omega)) | exact hs.cell (B5.at (by rfl)) (by intro h; first | omega | (dsimp only at h; omega)))) ?_
    refine Dq (i := 8) rfl GS24 (fun _ _ => Y_index Try.underlying23 sz37 rfl rfl (by first | assumption | omega)) ?_
    refine Dq (i := 9) rfl GS24 (fun _ _ => Y_field Try.underlying37 rfl fz37_2 (by decide) rfl) ?_
    refine Dq (i := 10) rfl GS24 (fun _ hs => Y_load Try.underlying24 rfl rfl (by first | exact hs.cell (by assumption) (by intro h; first | omega | (dsimp only at h; omega)) | exact hs.cell (ccx.at (by rfl)) (by intro h; first | omega | (dsimp only at h; omega)) | exact hs.cell (B1.at (by rfl)) (by intro h; first | omega | (dsimp only at h; omega)) | exact hs.cell (B2.at (by rfl)) (by intro h; first | omega | (dsimp only at h; omega)) | exact hs.cell (B3.at (by rfl)) (by intro h; first | omega | (dsimp only at h; omega)) | exact hs.cell (B5.at (by rfl)) (by intro h; first | omega | (dsimp only at h; omega)))) ?_
    refine Dq (i := 11) rfl GS24 (fun _ _ => Y_field Try.underlying112 rfl fz112_3 (by decide) rfl) ?_
    refine Dq (i := 12) rfl GS24 (fun _ hs => Y_load Try.underlying3 rfl rfl (by first | exact hs.cell (B2.at (by rfl)) (by intro h; first | omega | (dsimp only at h; omega)))) ?_
    refine Dq (i := 13) rfl GS24 (fun _ _ => Y_field Try.underlying26 rfl fz26_1 (by decide) rfl) ?_
    refine Dq (i := 14) rfl GS24 (fun _ hs => Y_load Try.underlying24 rfl rfl (by first | exact hs.cell (B1.at (by rfl)) (by intro h; first | omega | (dsimp only at h; omega)))) ?_
    refine Dq (i := 15) rfl GS24 (fun _ _ => Y_field Try.underlying112 rfl fz112_2 (by decide) rfl) ?_
    refine Dq (i := 16) rfl GS24 (fun _ hs => Y_load Try.underlying3 rfl rfl (by first | exact hs.cell (B2.at (by rfl)) (by intro h; first | omega | (dsimp only at h; omega)))) ?_
    refine Dq (i := 17) rfl GS24 (fun _ _ => Y_index Try.underlying24 sz3 rfl rfl (by first | assumption | omega)) ?_
    refine Dq (i := 18) rfl GS24 (fun _ hs => Y_load Try.underlying3 rfl rfl (by first | exact hs.cell (by assumption) (by intro h; first | omega | (dsimp only at h; omega)) | exact hs.cell (ccx.at (by rfl)) (by intro h; first | omega | (dsimp only at h; omega)) | exact hs.cell (B1.at (by rfl)) (by intro h; first | omega | (dsimp only at h; omega)) | exact hs.cell (B2.at (by rfl)) (by intro h; first | omega | (dsimp only at h; omega)) | exact hs.cell (B3.at (by rfl)) (by intro h; first | omega | (dsimp only at h; omega)) | exact hs.cell (B5.at (by rfl)) (by intro h; first | omega | (dsimp only at h; omega)))) ?_
    refine Dq (i := 19) rfl GS24 (fun _ _ => Y_index Try.underlying24 sz3 rfl rfl (by first | assumption | omega)) ?_
    refine D_1 (i := 20) (by kernel_rfl) ?_
    refine E_of (i := 20) rfl (Ys_ref sz3 OX hne hmN hrs hj rfl rfl) ?_
    rintro w25 ⟨m25, hp25, OXF⟩
    try dsimp only at hp25
    replace G := G.abv m25
    replace GS24 := GS24.trn m25
    replace hAl := hAl0.grow G
    replace hBl := hBl0.grow G
    replace B1 := B1.md m25
    replace B2 := B2.md m25
    replace B3 := B3.md m25
    replace B5 := B5.md m25
    clear ccx
    have zm25 := m25.size
    refine ⟨GS24, ?_⟩
    refine D_en (by kernel_rfl) rfl rfl ?_
    refine ib_n ?_
    refine th_n (hK3 _ _ ?_)
    clear hK3 K3
    refine wp_seq_k fun K19 hK19 => ?_
    refine Sb 131 rfl ?_  -- 23
    refine S_val (Y_loadS Try.underlying26 rfl sz26 rfl (B5.row (by rfl))) ?_  -- l36
    refine S_stM (pre := []) (old := [_, _]) (post := []) (vs := [_, _]) sz26 rfl rfl rfl (by first | rfl | assumption) B3 rfl rfl ?_
    intro w26 m26 X26
    replace B3 := Blk.eq (ys := [_, _]) X26 rfl
    clear X26
    replace G := G.abv m26
    replace hAl := hAl0.grow G
    replace hBl := hBl0.grow G
    replace OXF := OXF.md m26
    replace B1 := B1.md m26
    replace B2 := B2.md m26
    replace B5 := B5.md m26
    have zm26 := m26.size
    refine S_nl rfl rfl ?_
    refine th_n (hK19 _ _ ?_)
    clear hK19 K19
    refine wp_ret ?_
    refine ret_rc (cs := [_, _]) Try.underlying26 rfl sz26 rfl rfl (B3.row (by rfl)) ?_  -- r4
    exact ⟨_, _, _, _, _, _, _, _, rfl, by simp, by simp, hvF, OXF.weak (fun i hi => by first | omega | (dsimp only at hi; omega)), G⟩
   · -- c5F
    replace hb3 := nb_tf hb3
    refine wp_seq_k fun K20 hK20 => ?_
    refine Sb 131 rfl ?_  -- 17
    refine S_val (Y_eql rfl rfl) ?_
    refine S_val (Y_assign rfl) ?_
    refine S_nl rfl rfl ?_
    refine th_n (hK20 _ _ ?_)
    clear hK20 K20
    refine S_if rfl (fun hb4 => ?_) (fun hb4 => ?_)  -- c6
    · -- c6T
     replace hb4 := nb_tt hb4
     have hcu := hcv
     unfold cvP at hcu
     dsimp only at hcu
     have hpb4 : pb < h.roots.length := by omega
     have hvF := valid_setRoot va (k := pa) (va.roots _ (List.getElem_mem hpb4))
     refine D_start 12 131 (fun w => Mod (fun i => i = bR) w) follows rfl rfl ?_  -- d3 r18
     intro w27 g27
     replace hAl := hAl.grow g27
     replace hBl := hBl.grow g27
     replace OX := OX.grow g27
     replace G := G.grow g27
     replace B1 := B1.grow g27
     replace B2 := B2.grow g27
     replace B3 := B3.grow g27
     replace B5 := B5.grow g27
     have zg27 := g27.size
     have GS27 := Mod.refl (fun i => i = bR) w27
     obtain ⟨gB, oB, eB, hpB, hcB⟩ := hBl.int (k := pb) (by omega)
     cases eB
     refine Dq (i := 0) rfl GS27 (fun _ _ => Y_field Try.underlying26 rfl fz26_1 (by decide) rfl) ?_
     refine Dq (i := 1) rfl GS27 (fun _ hs => Y_load Try.underlying24 rfl rfl (by first | exact hs.cell (B5.at (by rfl)) (by intro h; first | omega | (dsimp only at h; omega)))) ?_
     refine Dq (i := 2) rfl GS27 (fun _ _ => Y_field Try.underlying112 rfl fz112_1 (by decide) rfl) ?_
     refine Dq (i := 3) rfl GS27 (fun _ hs => Y_load Try.underlying3 rfl rfl (by first | exact hs.cell (B2.at (by rfl)) (by intro h; first | omega | (dsimp only at h; omega)))) ?_
     refine Dq (i := 4) rfl GS27 (fun _ _ => Y_field Try.underlying26 rfl fz26_1 (by decide) rfl) ?_
     refine Dq (i := 5) rfl GS27 (fun _ hs => Y_load Try.underlying24 rfl rfl (by first | exact hs.cell (B1.at (by rfl)) (by intro h; first | omega | (dsimp only at h; omega)))) ?_
     refine Dq (i := 6) rfl GS27 (fun _ _ => Y_field Try.underlying112 rfl fz112_2 (by decide) rfl) ?_
     refine Dq (i := 7) rfl GS27 (fun _ hs => Y_load Try.underlying3 rfl rfl (by first | exact hs.cell (B2.at (by rfl)) (by intro h; first | omega | (dsimp only at h; omega)))) ?_
     refine Dq (i := 8) rfl GS27 (fun _ _ => Y_index Try.underlying24 sz3 rfl rfl (by first | assumption | omega)) ?_
     refine Dq (i := 9) rfl GS27 (fun _ hs => Y_load Try.underlying3 rfl rfl (by first | exact hs.cell (by assumption) (by intro h; first | omega | (dsimp only at h; omega)) | exact hs.cell (B1.at (by rfl)) (by intro h; first | omega | (dsimp only at h; omega)) | exact hs.cell (B2.at (by rfl)) (by intro h; first | omega | (dsimp only at h; omega)) | exact hs.cell (B3.at (by rfl)) (by intro h; first | omega | (dsimp only at h; omega)) | exact hs.cell (B5.at (by rfl)) (by intro h; first | omega | (dsimp only at h; omega)))) ?_
     refine Dq (i := 10) rfl GS27 (fun _ _ => Y_index Try.underlying24 sz3 rfl rfl (by first | assumption | omega)) ?_
     refine D_1 (i := 11) (by kernel_rfl) ?_
     refine E_of (i := 11) rfl (Ys_root sz3 OX hne (k := pa) (by omega) rfl rfl) ?_
     rintro w28 ⟨m28, hp28, OXF⟩
     try dsimp only at hp28
     replace G := G.abv m28
     replace GS27 := GS27.trn m28
     replace hAl := hAl0.grow G
     replace hBl := hBl0.grow G
     replace B1 := B1.md m28
     replace B2 := B2.md m28
     replace B3 := B3.md m28
     replace B5 := B5.md m28
     have zm28 := m28.size
     refine ⟨GS27, ?_⟩
     refine D_en (by kernel_rfl) rfl rfl ?_
     refine ib_n ?_
     refine th_n (hK3 _ _ ?_)
     clear hK3 K3
     refine wp_seq_k fun K21 hK21 => ?_
     refine Sb 131 rfl ?_  -- 23
     refine S_val (Y_loadS Try.underlying26 rfl sz26 rfl (B5.row (by rfl))) ?_  -- l42
     refine S_stM (pre := []) (old := [_, _]) (post := []) (vs := [_, _]) sz26 rfl rfl rfl (by first | rfl | assumption) B3 rfl rfl ?_
     intro w29 m29 X29
     replace B3 := Blk.eq (ys := [_, _]) X29 rfl
     clear X29
     replace G := G.abv m29
     replace hAl := hAl0.grow G
     replace hBl := hBl0.grow G
     replace OXF := OXF.md m29
     replace B1 := B1.md m29
     replace B2 := B2.md m29
     replace B5 := B5.md m29
     have zm29 := m29.size
     refine S_nl rfl rfl ?_
     refine th_n (hK21 _ _ ?_)
     clear hK21 K21
     refine wp_ret ?_
     refine ret_rc (cs := [_, _]) Try.underlying26 rfl sz26 rfl rfl (B3.row (by rfl)) ?_  -- r5
     exact ⟨_, _, _, _, _, _, _, _, rfl, by simp, by simp, hvF, OXF.weak (fun i hi => by first | omega | (dsimp only at hi; omega)), G⟩
    · -- c6F
     replace hb4 := nb_tf hb4
     refine wp_seq_k fun K22 hK22 => ?_
     refine Sb 131 rfl ?_  -- 19
     refine S_val (Y_eql rfl rfl) ?_
     refine S_val (Y_assign rfl) ?_
     refine S_nl rfl rfl ?_
     refine th_n (hK22 _ _ ?_)
     clear hK22 K22
     refine S_if rfl (fun hb5 => ?_) (fun hb5 => ?_)  -- c7
     · -- c7T
      replace hb5 := nb_tt hb5
      have hvF := valid_setRoot va (k := pa) (leadsB_m1 h.cells)
      refine Sb 131 rfl ?_  -- 20
      refine S_val (Y_field Try.underlying26 rfl fz26_1 (by decide) rfl) ?_
      refine S_val (Y_load Try.underlying24 rfl rfl (B5.at (by rfl))) ?_  -- l43
      refine S_val (Y_field Try.underlying112 rfl fz112_1 (by decide) rfl) ?_
      refine S_val (Y_load Try.underlying3 rfl rfl (B2.at (by rfl))) ?_  -- l44
      refine S_val (Y_index Try.underlying24 sz3 rfl rfl (by first | assumption | omega)) ?_
      refine S_of (Ys_root sz3 OX hne (k := pa) (by omega) rfl rfl) ?_
      rintro w30 ⟨m30, hp30, OXF⟩
      try dsimp only at hp30
      replace G := G.abv m30
      replace hAl := hAl0.grow G
      replace hBl := hBl0.grow G
      replace B1 := B1.md m30
      replace B2 := B2.md m30
      replace B3 := B3.md m30
      replace B5 := B5.md m30
      have zm30 := m30.size
      refine S_nl rfl rfl ?_
      refine ib_n ?_
      refine th_n (hK3 _ _ ?_)
      clear hK3 K3
      refine wp_seq_k fun K23 hK23 => ?_
      refine Sb 131 rfl ?_  -- 23
      refine S_val (Y_loadS Try.underlying26 rfl sz26 rfl (B5.row (by rfl))) ?_  -- l45
      refine S_stM (pre := []) (old := [_, _]) (post := []) (vs := [_, _]) sz26 rfl rfl rfl (by first | rfl | assumption) B3 rfl rfl ?_
      intro w31 m31 X31
      replace B3 := Blk.eq (ys := [_, _]) X31 rfl
      clear X31
      replace G := G.abv m31
      replace hAl := hAl0.grow G
      replace hBl := hBl0.grow G
      replace OXF := OXF.md m31
      replace B1 := B1.md m31
      replace B2 := B2.md m31
      replace B5 := B5.md m31
      have zm31 := m31.size
      refine S_nl rfl rfl ?_
      refine th_n (hK23 _ _ ?_)
      clear hK23 K23
      refine wp_ret ?_
      refine ret_rc (cs := [_, _]) Try.underlying26 rfl sz26 rfl rfl (B3.row (by rfl)) ?_  -- r6
      exact ⟨_, _, _, _, _, _, _, _, rfl, by simp, by simp, hvF, OXF.weak (fun i hi => by first | omega | (dsimp only at hi; omega)), G⟩
     · -- c7F
      replace hb5 := nb_tf hb5
      refine wp_seq_k fun K24 hK24 => ?_
      refine Sb 131 rfl ?_  -- 21
      refine S_val (Y_eql rfl rfl) ?_
      refine S_val (Y_assign rfl) ?_
      refine S_nl rfl rfl ?_
      refine th_n (hK24 _ _ ?_)
      clear hK24 K24
      refine S_if rfl (fun hb6 => ?_) (fun hb6 => ?_)  -- c8
      · -- c8T
       replace hb6 := nb_tt hb6
       have hcu := hcv
       unfold cvP at hcu
       dsimp only at hcu
       have hpe : rootB h (pa : Int) = true := by rw [hb6] at hef; simpa [effectB] using hef
       rw [rootB_at hpa, decide_eq_true_eq] at hpe
       obtain ⟨m, hm, hmN⟩ := valid_root va hpa hpe
       have hmu := root_used va hpa hm hmN
       have hvF := valid_setData va hmN hmu (x := (pb : Int)) (by omega)
       obtain ⟨gC, RX, capX, rfl, hpC, _, _, _, _⟩ := OX.cellAt hne hmN
       try dsimp only at hpC
       refine D_start 13 131 (fun w => Mod (fun i => i = gC) w) follows rfl rfl ?_  -- d4 r22
       intro w32 g32
       replace hAl := hAl.grow g32
       replace hBl := hBl.grow g32
       replace OX := OX.grow g32
       replace G := G.grow g32
       replace B1 := B1.grow g32
       replace B2 := B2.grow g32
       replace B3 := B3.grow g32
       replace B5 := B5.grow g32
       have zg32 := g32.size
       have GS32 := Mod.refl (fun i => i = gC) w32
       obtain ⟨gB, oB, eB, hpB, hcB⟩ := hBl.int hpa
       cases eB
       rw [hm] at hcB
       refine Dq (i := 0) rfl GS32 (fun _ _ => Y_field Try.underlying26 rfl fz26_0 (by decide) rfl) ?_
       refine Dq (i := 1) rfl GS32 (fun _ hs => Y_load Try.underlying23 rfl rfl (by first | exact hs.cell (B5.at (by rfl)) (by intro h; first | omega | (dsimp only at h; omega)))) ?_
       refine Dq (i := 2) rfl GS32 (fun _ _ => Y_field Try.underlying26 rfl fz26_1 (by decide) rfl) ?_
       refine Dq (i := 3) rfl GS32 (fun _ hs => Y_load Try.underlying24 rfl rfl (by first | exact hs.cell (B1.at (by rfl)) (by intro h; first | omega | (dsimp only at h; omega)))) ?_
       refine Dq (i := 4) rfl GS32 (fun _ _ => Y_field Try.underlying112 rfl fz112_1 (by decide) rfl) ?_
       refine Dq (i := 5) rfl GS32 (fun _ hs => Y_load Try.underlying3 rfl rfl (by first | exact hs.cell (B2.at (by rfl)) (by intro h; first | omega | (dsimp only at h; omega)))) ?_
       refine Dq (i := 6) rfl GS32 (fun _ _ => Y_index Try.underlying24 sz3 rfl rfl (by first | assumption | omega)) ?_
       refine Dq (i := 7) rfl GS32 (fun _ hs => Y_load Try.underlying3 rfl rfl (by first | exact hs.cell (by assumption) (by intro h; first | omega | (dsimp only at h; omega)) | exact hs.cell (B1.at (by rfl)) (by intro h; first | omega | (dsimp only at h; omega)) | exact hs.cell (B2.at (by rfl)) (by intro h; first | omega | (dsimp only at h; omega)) | exact hs.cell (B3.at (by rfl)) (by intro h; first | omega | (dsimp only at h; omega)) | exact hs.cell (B5.at (by rfl)) (by intro h; first | omega | (dsimp only at h; omega)))) ?_
       refine Dq (i := 8) rfl GS32 (fun _ _ => Y_field Try.underlying112 rfl fz112_2 (by decide) rfl) ?_
       refine Dq (i := 9) rfl GS32 (fun _ hs => Y_load Try.underlying3 rfl rfl (by first | exact hs.cell (B2.at (by rfl)) (by intro h; first | omega | (dsimp only at h; omega)))) ?_
       refine Dq (i := 10) rfl GS32 (fun _ _ => Y_index Try.underlying23 sz37 rfl rfl (by first | assumption | omega)) ?_
       refine Dq (i := 11) rfl GS32 (fun _ _ => Y_field Try.underlying37 rfl fz37_1 (by decide) rfl) ?_
       refine D_1 (i := 12) (by kernel_rfl) ?_
       refine E_of (i := 12) rfl (Ys_data sz3 OX hne hmN rfl rfl) ?_
       rintro w33 ⟨m33, hp33, OXF⟩
       try dsimp only at hp33
       replace G := G.abv m33
       replace GS32 := GS32.trn m33
       replace hAl := hAl0.grow G
       replace hBl := hBl0.grow G
       replace B1 := B1.md m33
       replace B2 := B2.md m33
       replace B3 := B3.md m33
       replace B5 := B5.md m33
       have zm33 := m33.size
       refine ⟨GS32, ?_⟩
       refine D_en (by kernel_rfl) rfl rfl ?_
       refine ib_n ?_
       refine th_n (hK3 _ _ ?_)
       clear hK3 K3
       refine wp_seq_k fun K25 hK25 => ?_
       refine Sb 131 rfl ?_  -- 23
       refine S_val (Y_loadS Try.underlying26 rfl sz26 rfl (B5.row (by rfl))) ?_  -- l51
       refine S_stM (pre := []) (old := [_, _]) (post := []) (vs := [_, _]) sz26 rfl rfl rfl (by first | rfl | assumption) B3 rfl rfl ?_
       intro w34 m34 X34
       replace B3 := Blk.eq (ys := [_, _]) X34 rfl
       clear X34
       replace G := G.abv m34
       replace hAl := hAl0.grow G
       replace hBl := hBl0.grow G
       replace OXF := OXF.md m34
       replace B1 := B1.md m34
       replace B2 := B2.md m34
       replace B5 := B5.md m34
       have zm34 := m34.size
       refine S_nl rfl rfl ?_
       refine th_n (hK25 _ _ ?_)
       clear hK25 K25
       refine wp_ret ?_
       refine ret_rc (cs := [_, _]) Try.underlying26 rfl sz26 rfl rfl (B3.row (by rfl)) ?_  -- r7
       exact ⟨_, _, _, _, _, _, _, _, rfl, by simp, by simp, hvF, OXF.weak (fun i hi => by first | omega | (dsimp only at hi; omega)), G⟩
      · -- c8F
       replace hb6 := nb_tf hb6
       unfold cvP at hcv; dsimp only at hcv; omega
end
end Go.Proofs.Ytikgflhepclfgab
