/-
  Walks: copies of heaps.
  Conditions: those that each theorem states.
-/
import Derived.Test.YtjmfdmndchoplaaTy
import Derived.Test.YtjmfdmndchoplaaWalkY
import Derived.Test.YtjmfdmndchoplaaSweep
namespace Go.Proofs.Ytjmfdmndchoplaa
open Go Go.RowKit
attribute [local irreducible] wpList wpAnyH Code.wp dOp

set_option maxHeartbeats 400000 in
set_option maxRecDepth 20000 in
theorem impl_copyHeap_c (Pr : Nat → Prop) (A B : Option Addr) (h : LH) (c d : Nat) (w : World) (hA : RC Pr w A h.cells) (hB : R1 Pr w B (ints h.roots)) (hz : hsize h ≤ 1048576) :
    Calls Try.prog 69 #[.agg #[.slice A h.cells.length c, .slice B h.roots.length d]] w (Ret fun v w' => ∃ A1 B1 n1 c1 n2 c2 rs, v = .agg #[.slice A1 n1 c1, .slice B1 n2 c2] ∧ n1 = (h).cells.length ∧ n2 = (h).roots.length ∧ OH (fun i => w.heap.size ≤ i) w' 70 3 A1 B1 (h) rs ∧ Grow w w') := by
 have hz1 := hsize_cells h
 have hz2 := hsize_roots h
 have hne : (70 : TypeId) ≠ 3 := by decide
 refine enter Try.func69 rfl Try.ntmps69 (L := [_,_,_,_,_,_,_,_,_,_,_,_,_,_,_,_,_,_,_,_,_,_,_,_,_,_,_,_,_,_,_,_,_,_,_,_,_]) rfl ?_
 have G := Mod.refl No w
 have hA0 := hA
 have hB0 := hB
 refine wp_seq_k fun K1 hK1 => ?_
 refine Sb 37 rfl ?_  -- 0
 refine S_box (cs := [_, _]) rfl rfl ?_
 intro b1 w1 fb1 g1 B1
 have lb1 := B1.lt
 replace hA := hA.grow g1
 replace hB := hB.grow g1
 replace G := G.grow g1
 have zg1 := g1.size
 refine S_alloc (cs := [_, _]) zr25 rfl ?_
 intro b2 w2 fb2 g2 B2
 have lb2 := B2.lt
 replace hA := hA.grow g2
 replace hB := hB.grow g2
 replace G := G.grow g2
 replace B1 := B1.grow g2
 have zg2 := g2.size
 refine S_nl rfl rfl ?_
 refine th_n (hK1 _ _ ?_)
 clear hK1 K1
 refine wp_seq_k fun K2 hK2 => ?_
 refine D_cut (fun a' w' => ∃ (b3 bm capR : Nat) (AR : Option Addr) (x4 x5 x6 x7 x8 x9 x10 x11 x12 x13 x14 x15 x16 x17 x18 x19 x20 x21 x22 x23 x24 x25 x26 x27 x28 x29 x30 x31 x32 x33 x34 x35 x36 : Value), a' = ⟨[(.agg #[.slice A h.cells.length c, .slice B h.roots.length d]), (.pointer (some ⟨b1, 0, none⟩)), (.pointer (some ⟨b2, 0, none⟩)), (.pointer (some ⟨b3, 0, none⟩)), x4, x5, x6, x7, x8, x9, x10, x11, x12, x13, x14, x15, x16, x17, x18, x19, x20, x21, x22, x23, x24, x25, x26, x27, x28, x29, x30, x31, x32, x33, x34, x35, x36].toArray, []⟩ ∧ Mod (No) w2 w' ∧ (Blk w' b3 25 [.slice (some ⟨bm, 0, none⟩) 0 (h.cells.length + 1), .slice AR h.roots.length capR].toArray) ∧ (Blk w' bm 70 (zeros [.bool false, .int .i64 0, .slice none 0 0] (h.cells.length + 1)).toArray) ∧ (OW (fun i => w2.heap.size ≤ i ∧ i ≠ bm ∧ i ≠ b3 ∧ i < w'.heap.size) w' 3 1 AR h.roots.length capR (ints h.roots)) ∧ (w2.heap.size ≤ b3 ∧ w2.heap.size ≤ bm ∧ bm ≠ b3 ∧ bm < w'.heap.size)) ?_ ?_
 · -- cut
  refine D_start 11 37 (fun w => Mod (No) w) follows rfl rfl ?_  -- d1 r1
  intro w3 g3
  replace hA := hA.grow g3
  replace hB := hB.grow g3
  replace G := G.grow g3
  replace B1 := B1.grow g3
  replace B2 := B2.grow g3
  have zg3 := g3.size
  have GS3 := Mod.refl (No) w3
  have B1d3 := B1
  refine Dq (i := 0) rfl GS3 (fun _ _ => Y_field Try.underlying25 rfl fz25_0 (by decide) rfl) ?_
  refine Dq (i := 1) rfl GS3 (fun _ hs => Y_load Try.underlying23 rfl rfl (hs.cell0 (B1.at (by rfl)))) ?_
  refine Dq (i := 2) rfl GS3 (fun _ _ => Y_len Try.underlying23 rfl) ?_
  refine Dq (i := 3) rfl GS3 (fun _ _ => Y_add (c := ((h.cells.length + 1 : Nat) : Int)) rfl rfl rfl (by omega) (by omega)) ?_
  refine Dq (i := 5) rfl GS3 (fun _ _ => Y_field Try.underlying25 rfl fz25_1 (by decide) rfl) ?_
  refine Dq (i := 6) rfl GS3 (fun _ hs => Y_load Try.underlying22 rfl rfl (hs.cell0 (B1.at (by rfl)))) ?_
  refine D_3 (i := 4) (j := 7) (k := 9) (by kernel_rfl) ?_ ?_ ?_
  · -- operation 4 comes up
   refine E_make (i := 4) (n := h.cells.length + 1) (l := 0) (z := [.bool false, .int .i64 0, .slice none 0 0]) rfl Try.underlying23 zr70 sz70 by70 rfl rfl (by omega) (by omega) (by omega) ?_
   intro bm w5 fbm g5 BM
   have lbm := BM.lt
   refine ⟨GS3.grow g5, ?_⟩
   replace hA := hA.grow g5
   replace hB := hB.grow g5
   replace G := G.grow g5
   replace GS3 := GS3.grow g5
   replace B1 := B1.grow g5
   replace B2 := B2.grow g5
   have zg5 := g5.size
   refine D_2 (i := 7) (j := 9) (by kernel_rfl) ?_ ?_
   · -- operation 7 comes up
    refine E_call rfl rfl en46 (impl_clone_int__c _ _ _ _ _ (by assumption) (by omega)) ?_  -- k1 impl.clone[int]
    rintro v6 w6 ⟨A6, q6, cap6, rfl, hq6, O6, g6⟩
    replace hA := hA.grow g6
    replace hB := hB.grow g6
    replace BM := BM.grow g6
    replace G := G.grow g6
    replace GS3 := GS3.grow g6
    replace B1 := B1.grow g6
    replace B2 := B2.grow g6
    have zg6 := g6.size
    subst hq6
    obtain ⟨AR, rfl⟩ : ∃ x, x = A6 := ⟨_, rfl⟩
    obtain ⟨capR, rfl⟩ : ∃ x, x = cap6 := ⟨_, rfl⟩
    have OX := O6.lt
    refine ⟨GS3, ?_⟩
    refine Dq (i := 8) rfl GS3 (fun _ _ => Y_build (cs := [_, _]) zr25 pc25 rfl rfl) ?_
    refine D_1 (i := 9) (by kernel_rfl) ?_
    refine E_alloc (cs := [_, _]) rfl zr25 rfl (fun b7 w7 fb7 g7 B7 => ⟨GS3.grow g7, ?_⟩)
    have lb7 := B7.lt
    replace hA := hA.grow g7
    replace hB := hB.grow g7
    replace BM := BM.grow g7
    replace OX := OX.grow g7
    replace G := G.grow g7
    replace GS3 := GS3.grow g7
    replace B1 := B1.grow g7
    replace B2 := B2.grow g7
    have zg7 := g7.size
    refine D_1 (i := 10) (by kernel_rfl) ?_
    refine E_stM (pre := []) (old := [_, _]) (post := []) (vs := [_, _]) (i := 10) rfl sz25 rfl rfl rfl (by first | rfl | assumption) B7 rfl rfl ?_
    intro w8 m8 X8
    replace B7 := Blk.eq (ys := [_, _]) X8 rfl
    clear X8
    replace G := G.abv m8
    replace GS3 := GS3.abv m8
    replace hA := hA0.grow G
    replace hB := hB0.grow G
    replace BM := BM.md m8
    replace OX := OX.md m8
    replace B1 := B1.md m8
    replace B2 := B2.md m8
    have zm8 := m8.size
    refine ⟨GS3, ?_⟩
    refine D_en (by kernel_rfl) rfl rfl ?_
    exact ⟨rfl, _, _, _, _, _, _, _, _, _, _, _, _, _, _, _, _, _, _, _, _, _, _, _, _, _, _, _, _, _, _, _, _, _, _, _, _, _, rfl, g3.grow GS3, B7, BM, OX.weak (fun i hi => by omega), ⟨by omega, by omega, by omega, by omega⟩⟩
   · -- operation 9 comes up
    refine E_alloc (cs := [_, _]) rfl zr25 rfl (fun b9 w9 fb9 g9 B9 => ⟨GS3.grow g9, ?_⟩)
    have lb9 := B9.lt
    replace hA := hA.grow g9
    replace hB := hB.grow g9
    replace BM := BM.grow g9
    replace G := G.grow g9
    replace GS3 := GS3.grow g9
    replace B1 := B1.grow g9
    replace B2 := B2.grow g9
    have zg9 := g9.size
    refine D_1 (i := 7) (by kernel_rfl) ?_
    refine E_call rfl rfl en46 (impl_clone_int__c _ _ _ _ _ (by assumption) (by omega)) ?_  -- k2 impl.clone[int]
    rintro v10 w10 ⟨A10, q10, cap10, rfl, hq10, O10, g10⟩
    replace hA := hA.grow g10
    replace hB := hB.grow g10
    replace BM := BM.grow g10
    replace G := G.grow g10
    replace GS3 := GS3.grow g10
    replace B1 := B1.grow g10
    replace B2 := B2.grow g10
    replace B9 := B9.grow g10
    have zg10 := g10.size
    subst hq10
    obtain ⟨AR, rfl⟩ : ∃ x, x = A10 := ⟨_, rfl⟩
    obtain ⟨capR, rfl⟩ : ∃ x, x = cap10 := ⟨_, rfl⟩
    have OX := O10.lt
    refine ⟨GS3, ?_⟩
    refine Dq (i := 8) rfl GS3 (fun _ _ => Y_build (cs := [_, _]) zr25 pc25 rfl rfl) ?_
    refine D_1 (i := 10) (by kernel_rfl) ?_
    refine E_stM (pre := []) (old := [_, _]) (post := []) (vs := [_, _]) (i := 10) rfl sz25 rfl rfl rfl (by first | rfl | assumption) B9 rfl rfl ?_
    intro w11 m11 X11
    replace B9 := Blk.eq (ys := [_, _]) X11 rfl
    clear X11
    replace G := G.abv m11
    replace GS3 := GS3.abv m11
    replace hA := hA0.grow G
    replace hB := hB0.grow G
    replace BM := BM.md m11
    replace OX := OX.md m11
    replace B1 := B1.md m11
    replace B2 := B2.md m11
    have zm11 := m11.size
    refine ⟨GS3, ?_⟩
    refine D_en (by kernel_rfl) rfl rfl ?_
    exact ⟨rfl, _, _, _, _, _, _, _, _, _, _, _, _, _, _, _, _, _, _, _, _, _, _, _, _, _, _, _, _, _, _, _, _, _, _, _, _, _, rfl, g3.grow GS3, B9, BM, OX.weak (fun i hi => by omega), ⟨by omega, by omega, by omega, by omega⟩⟩
  · -- operation 7 comes up
   refine E_call rfl rfl en46 (impl_clone_int__c _ _ _ _ _ (by assumption) (by omega)) ?_  -- k3 impl.clone[int]
   rintro v12 w12 ⟨A12, q12, cap12, rfl, hq12, O12, g12⟩
   replace hA := hA.grow g12
   replace hB := hB.grow g12
   replace G := G.grow g12
   replace GS3 := GS3.grow g12
   replace B1 := B1.grow g12
   replace B2 := B2.grow g12
   have zg12 := g12.size
   subst hq12
   obtain ⟨AR, rfl⟩ : ∃ x, x = A12 := ⟨_, rfl⟩
   obtain ⟨capR, rfl⟩ : ∃ x, x = cap12 := ⟨_, rfl⟩
   have OX := O12.lt
   refine ⟨GS3, ?_⟩
   refine D_2 (i := 4) (j := 9) (by kernel_rfl) ?_ ?_
   · -- operation 4 comes up
    refine E_make (i := 4) (n := h.cells.length + 1) (l := 0) (z := [.bool false, .int .i64 0, .slice none 0 0]) rfl Try.underlying23 zr70 sz70 by70 rfl rfl (by omega) (by omega) (by omega) ?_
    intro bm w13 fbm g13 BM
    have lbm := BM.lt
    refine ⟨GS3.grow g13, ?_⟩
    replace hA := hA.grow g13
    replace hB := hB.grow g13
    replace OX := OX.grow g13
    replace G := G.grow g13
    replace GS3 := GS3.grow g13
    replace B1 := B1.grow g13
    replace B2 := B2.grow g13
    have zg13 := g13.size
    refine Dq (i := 8) rfl GS3 (fun _ _ => Y_build (cs := [_, _]) zr25 pc25 rfl rfl) ?_
    refine D_1 (i := 9) (by kernel_rfl) ?_
    refine E_alloc (cs := [_, _]) rfl zr25 rfl (fun b14 w14 fb14 g14 B14 => ⟨GS3.grow g14, ?_⟩)
    have lb14 := B14.lt
    replace hA := hA.grow g14
    replace hB := hB.grow g14
    replace OX := OX.grow g14
    replace BM := BM.grow g14
    replace G := G.grow g14
    replace GS3 := GS3.grow g14
    replace B1 := B1.grow g14
    replace B2 := B2.grow g14
    have zg14 := g14.size
    refine D_1 (i := 10) (by kernel_rfl) ?_
    refine E_stM (pre := []) (old := [_, _]) (post := []) (vs := [_, _]) (i := 10) rfl sz25 rfl rfl rfl (by first | rfl | assumption) B14 rfl rfl ?_
    intro w15 m15 X15
    replace B14 := Blk.eq (ys := [_, _]) X15 rfl
    clear X15
    replace G := G.abv m15
    replace GS3 := GS3.abv m15
    replace hA := hA0.grow G
    replace hB := hB0.grow G
    replace OX := OX.md m15
    replace BM := BM.md m15
    replace B1 := B1.md m15
    replace B2 := B2.md m15
    have zm15 := m15.size
    refine ⟨GS3, ?_⟩
    refine D_en (by kernel_rfl) rfl rfl ?_
    exact ⟨rfl, _, _, _, _, _, _, _, _, _, _, _, _, _, _, _, _, _, _, _, _, _, _, _, _, _, _, _, _, _, _, _, _, _, _, _, _, _, rfl, g3.grow GS3, B14, BM, OX.weak (fun i hi => by omega), ⟨by omega, by omega, by omega, by omega⟩⟩
   · -- operation 9 comes up
    refine E_alloc (cs := [_, _]) rfl zr25 rfl (fun b16 w16 fb16 g16 B16 => ⟨GS3.grow g16, ?_⟩)
    have lb16 := B16.lt
    replace hA := hA.grow g16
    replace hB := hB.grow g16
    replace OX := OX.grow g16
    replace G := G.grow g16
    replace GS3 := GS3.grow g16
    replace B1 := B1.grow g16
    replace B2 := B2.grow g16
    have zg16 := g16.size
    refine D_1 (i := 4) (by kernel_rfl) ?_
    refine E_make (i := 4) (n := h.cells.length + 1) (l := 0) (z := [.bool false, .int .i64 0, .slice none 0 0]) rfl Try.underlying23 zr70 sz70 by70 rfl rfl (by omega) (by omega) (by omega) ?_
    intro bm w17 fbm g17 BM
    have lbm := BM.lt
    refine ⟨GS3.grow g17, ?_⟩
    replace hA := hA.grow g17
    replace hB := hB.grow g17
    replace OX := OX.grow g17
    replace G := G.grow g17
    replace GS3 := GS3.grow g17
    replace B1 := B1.grow g17
    replace B2 := B2.grow g17
    replace B16 := B16.grow g17
    have zg17 := g17.size
    refine Dq (i := 8) rfl GS3 (fun _ _ => Y_build (cs := [_, _]) zr25 pc25 rfl rfl) ?_
    refine D_1 (i := 10) (by kernel_rfl) ?_
    refine E_stM (pre := []) (old := [_, _]) (post := []) (vs := [_, _]) (i := 10) rfl sz25 rfl rfl rfl (by first | rfl | assumption) B16 rfl rfl ?_
    intro w18 m18 X18
    replace B16 := Blk.eq (ys := [_, _]) X18 rfl
    clear X18
    replace G := G.abv m18
    replace GS3 := GS3.abv m18
    replace hA := hA0.grow G
    replace hB := hB0.grow G
    replace OX := OX.md m18
    replace BM := BM.md m18
    replace B1 := B1.md m18
    replace B2 := B2.md m18
    have zm18 := m18.size
    refine ⟨GS3, ?_⟩
    refine D_en (by kernel_rfl) rfl rfl ?_
    exact ⟨rfl, _, _, _, _, _, _, _, _, _, _, _, _, _, _, _, _, _, _, _, _, _, _, _, _, _, _, _, _, _, _, _, _, _, _, _, _, _, rfl, g3.grow GS3, B16, BM, OX.weak (fun i hi => by omega), ⟨by omega, by omega, by omega, by omega⟩⟩
  · -- operation 9 comes up
   refine E_alloc (cs := [_, _]) rfl zr25 rfl (fun b19 w19 fb19 g19 B19 => ⟨GS3.grow g19, ?_⟩)
   have lb19 := B19.lt
   replace hA := hA.grow g19
   replace hB := hB.grow g19
   replace G := G.grow g19
   replace GS3 := GS3.grow g19
   replace B1 := B1.grow g19
   replace B2 := B2.grow g19
   have zg19 := g19.size
   refine D_2 (i := 4) (j := 7) (by kernel_rfl) ?_ ?_
   · -- operation 4 comes up
    refine E_make (i := 4) (n := h.cells.length + 1) (l := 0) (z := [.bool false, .int .i64 0, .slice none 0 0]) rfl Try.underlying23 zr70 sz70 by70 rfl rfl (by omega) (by omega) (by omega) ?_
    intro bm w20 fbm g20 BM
    have lbm := BM.lt
    refine ⟨GS3.grow g20, ?_⟩
    replace hA := hA.grow g20
    replace hB := hB.grow g20
    replace G := G.grow g20
    replace GS3 := GS3.grow g20
    replace B1 := B1.grow g20
    replace B2 := B2.grow g20
    replace B19 := B19.grow g20
    have zg20 := g20.size
    refine D_1 (i := 7) (by kernel_rfl) ?_
    refine E_call rfl rfl en46 (impl_clone_int__c _ _ _ _ _ (by assumption) (by omega)) ?_  -- k4 impl.clone[int]
    rintro v21 w21 ⟨A21, q21, cap21, rfl, hq21, O21, g21⟩
    replace hA := hA.grow g21
    replace hB := hB.grow g21
    replace BM := BM.grow g21
    replace G := G.grow g21
    replace GS3 := GS3.grow g21
    replace B1 := B1.grow g21
    replace B2 := B2.grow g21
    replace B19 := B19.grow g21
    have zg21 := g21.size
    subst hq21
    obtain ⟨AR, rfl⟩ : ∃ x, x = A21 := ⟨_, rfl⟩
    obtain ⟨capR, rfl⟩ : ∃ x, x = cap21 := ⟨_, rfl⟩
    have OX := O21.lt
    refine ⟨GS3, ?_⟩
    refine Dq (i := 8) rfl GS3 (fun _ _ => Y_build (cs := [_, _]) zr25 pc25 rfl rfl) ?_
    refine D_1 (i := 10) (by kernel_rfl) ?_
    refine E_stM (pre := []) (old := [_, _]) (post := []) (vs := [_, _]) (i := 10) rfl sz25 rfl rfl rfl (by first | rfl | assumption) B19 rfl rfl ?_
    intro w22 m22 X22
    replace B19 := Blk.eq (ys := [_, _]) X22 rfl
    clear X22
    replace G := G.abv m22
    replace GS3 := GS3.abv m22
    replace hA := hA0.grow G
    replace hB := hB0.grow G
    replace BM := BM.md m22
    replace OX := OX.md m22
    replace B1 := B1.md m22
    replace B2 := B2.md m22
    have zm22 := m22.size
    refine ⟨GS3, ?_⟩
    refine D_en (by kernel_rfl) rfl rfl ?_
    exact ⟨rfl, _, _, _, _, _, _, _, _, _, _, _, _, _, _, _, _, _, _, _, _, _, _, _, _, _, _, _, _, _, _, _, _, _, _, _, _, _, rfl, g3.grow GS3, B19, BM, OX.weak (fun i hi => by omega), ⟨by omega, by omega, by omega, by omega⟩⟩
   · -- operation 7 comes up
    refine E_call rfl rfl en46 (impl_clone_int__c _ _ _ _ _ (by assumption) (by omega)) ?_  -- k5 impl.clone[int]
    rintro v23 w23 ⟨A23, q23, cap23, rfl, hq23, O23, g23⟩
    replace hA := hA.grow g23
    replace hB := hB.grow g23
    replace G := G.grow g23
    replace GS3 := GS3.grow g23
    replace B1 := B1.grow g23
    replace B2 := B2.grow g23
    replace B19 := B19.grow g23
    have zg23 := g23.size
    subst hq23
    obtain ⟨AR, rfl⟩ : ∃ x, x = A23 := ⟨_, rfl⟩
    obtain ⟨capR, rfl⟩ : ∃ x, x = cap23 := ⟨_, rfl⟩
    have OX := O23.lt
    refine ⟨GS3, ?_⟩
    refine D_1 (i := 4) (by kernel_rfl) ?_
    refine E_make (i := 4) (n := h.cells.length + 1) (l := 0) (z := [.bool false, .int .i64 0, .slice none 0 0]) rfl Try.underlying23 zr70 sz70 by70 rfl rfl (by omega) (by omega) (by omega) ?_
    intro bm w24 fbm g24 BM
    have lbm := BM.lt
    refine ⟨GS3.grow g24, ?_⟩
    replace hA := hA.grow g24
    replace hB := hB.grow g24
    replace OX := OX.grow g24
    replace G := G.grow g24
    replace GS3 := GS3.grow g24
    replace B1 := B1.grow g24
    replace B2 := B2.grow g24
    replace B19 := B19.grow g24
    have zg24 := g24.size
    refine Dq (i := 8) rfl GS3 (fun _ _ => Y_build (cs := [_, _]) zr25 pc25 rfl rfl) ?_
    refine D_1 (i := 10) (by kernel_rfl) ?_
    refine E_stM (pre := []) (old := [_, _]) (post := []) (vs := [_, _]) (i := 10) rfl sz25 rfl rfl rfl (by first | rfl | assumption) B19 rfl rfl ?_
    intro w25 m25 X25
    replace B19 := Blk.eq (ys := [_, _]) X25 rfl
    clear X25
    replace G := G.abv m25
    replace GS3 := GS3.abv m25
    replace hA := hA0.grow G
    replace hB := hB0.grow G
    replace OX := OX.md m25
    replace BM := BM.md m25
    replace B1 := B1.md m25
    replace B2 := B2.md m25
    have zm25 := m25.size
    refine ⟨GS3, ?_⟩
    refine D_en (by kernel_rfl) rfl rfl ?_
    exact ⟨rfl, _, _, _, _, _, _, _, _, _, _, _, _, _, _, _, _, _, _, _, _, _, _, _, _, _, _, _, _, _, _, _, _, _, _, _, _, _, rfl, g3.grow GS3, B19, BM, OX.weak (fun i hi => by omega), ⟨by omega, by omega, by omega, by omega⟩⟩
 · -- behind the cut
  rintro a' w4 ⟨b3, bm, capR, AR, x4, x5, x6, x7, x8, x9, x10, x11, x12, x13, x14, x15, x16, x17, x18, x19, x20, x21, x22, x23, x24, x25, x26, x27, x28, x29, x30, x31, x32, x33, x34, x35, x36, rfl, gJ4, B3, BM, OX, hb39⟩
  replace hA := hA.grow gJ4
  replace hB := hB.grow gJ4
  replace G := G.grow gJ4
  replace B1 := B1.grow gJ4
  replace B2 := B2.grow gJ4
  have zgJ4 := gJ4.size
  have lb3 := B3.lt
  obtain ⟨p1, p2, p3, p4⟩ := hb39
  refine th_n (hK2 _ _ ?_)
  clear hK2 K2
  refine wp_seq_k fun K3 hK3 => ?_
  refine wp_seq_k fun K4 hK4 => ?_
  refine Sb 37 rfl ?_  -- 2
  refine S_val (Y_field Try.underlying25 rfl fz25_0 (by decide) rfl) ?_
  refine S_val (Y_load Try.underlying23 rfl rfl (B1.at (by rfl))) ?_  -- l3
  refine S_val (Y_len Try.underlying23 rfl) ?_
  refine S_val (Y_move rfl) ?_
  refine S_nl rfl rfl ?_
  refine th_n (hK4 _ _ ?_)
  clear hK4 K4
  refine wp_block ?_
  obtain ⟨wz, hwz⟩ : ∃ x, x = w4.heap.size := ⟨_, rfl⟩
  have OC1 : OW (fun i => i = bm ∨ wz ≤ i) w4 70 3 (some ⟨bm, 0, none⟩) 0 (h.cells.length + 1) (flatC ([] : List LC) []) := OW.room BM rfl (by unfold maxLen; omega) (.inl rfl)
  have OR1 : ORs (fun i => wz ≤ i) w4 3 ([] : List LC) [] := ORs.nil _ _ _
  go_loopw [18] (fun u18 wr => (∃ (k q cap : Nat) (A1 : Option Addr) (rs : List (Option Addr × Nat)), u18 = .int .i64 k ∧ k ≤ h.cells.length ∧ q = k ∧ Blk wr b3 25 [.slice A1 q cap, .slice AR h.roots.length capR].toArray ∧ OW (fun i => i = bm ∨ wz ≤ i) wr 70 3 A1 q cap (flatC (h.cells.take k) rs) ∧ ORs (fun i => wz ≤ i) wr 3 (h.cells.take k) rs) ∧ Mod (fun i => i = b3 ∨ (i = bm ∨ wz ≤ i) ∨ wz ≤ i) w4 wr) (fun u18 wr => h.cells.length - (intOf u18).toNat)  -- L1
  case atStart =>
   refine ⟨?_, Mod.refl _ _⟩
   exact ⟨0, 0, _, _, [], rfl, by omega, rfl, B3, OC1, OR1⟩
  case round =>
   obtain ⟨w26, rfl⟩ : ∃ x : World, x = wr := ⟨_, rfl⟩
   obtain ⟨hrel, g26⟩ := hrel
   clear B3
   clear OC1
   clear OR1
   replace G := G.abv g26
   replace hA := hA0.grow G
   replace hB := hB0.grow G
   replace OX := OX.md g26
   replace B1 := B1.md g26
   replace B2 := B2.md g26
   have zg26 := g26.size
   obtain ⟨k, q1, cap1, A1, rs, rfl, hk, hq1, B3, OC1, OR1⟩ := hrel
   have hlk : (h.cells.take k).length = k := by simp; omega
   have GL26 := g26
   refine wp_seq_k fun K5 hK5 => ?_
   refine Sb 37 rfl ?_  -- 3
   refine S_val (Y_lss rfl rfl) ?_
   refine S_nl rfl rfl ?_
   refine th_n (hK5 _ _ ?_)
   clear hK5 K5
   refine wp_seq_k fun K6 hK6 => ?_
   refine S_if rfl (fun hb1 => ?_) (fun hb1 => ?_)  -- c1
   · -- c1T
    replace hb1 := nb_tt hb1
    have hk1 : k < h.cells.length := by omega
    obtain ⟨g2, o2, E2, d2, rfl, hp2, cc20, hE20⟩ := hA0.cell hk1
    have cc2 := cc20.grow G
    have hE2 := hE20.grow G
    have hr1 := hsize_refs h hk1
    replace OC1 := OC1.lt
    replace OR1 := OR1.lt
    refine wp_skip ?_
    refine th_n (hK6 _ _ ?_)
    clear hK6 K6
    refine wp_seq_k fun K7 hK7 => ?_
    refine wp_block ?_
    refine wp_seq_k fun K8 hK8 => ?_
    refine Sb 37 rfl ?_  -- 4
    refine S_val (Y_index Try.underlying23 sz70 rfl rfl (by first | assumption | omega)) ?_
    refine S_val (Y_loadS Try.underlying70 rfl sz70 rfl (by first | assumption | exact B1.row (by rfl) | exact B2.row (by rfl) | exact B3.row (by rfl))) ?_  -- l4
    refine S_alloc (cs := [_, _, _]) zr70 rfl ?_
    intro b27 w27 fb27 g27 B27
    have lb27 := B27.lt
    replace hA := hA.grow g27
    replace hB := hB.grow g27
    replace cc2 := cc2.grow g27
    replace hE2 := hE2.grow g27
    replace OX := OX.grow g27
    replace OC1 := OC1.grow g27
    replace OR1 := OR1.grow g27
    replace G := G.grow g27
    replace GL26 := GL26.grow g27
    replace B1 := B1.grow g27
    replace B2 := B2.grow g27
    replace B3 := B3.grow g27
    have zg27 := g27.size
    refine S_stM (pre := []) (old := [_, _, _]) (post := []) (vs := [_, _, _]) sz70 rfl rfl rfl (by first | rfl | assumption) B27 rfl rfl ?_
    intro w28 m28 X28
    replace B27 := Blk.eq (ys := [_, _, _]) X28 rfl
    clear X28
    replace G := G.abv m28
    first | replace GL26 := GL26.abv m28 | clear GL26
    replace hA := hA0.grow G
    replace hB := hB0.grow G
    replace cc2 := cc20.grow G
    replace hE2 := hE20.grow G
    replace OX := OX.md m28
    replace OC1 := OC1.md m28
    replace OR1 := OR1.md m28
    replace B1 := B1.md m28
    replace B2 := B2.md m28
    replace B3 := B3.md m28
    have zm28 := m28.size
    refine S_nl rfl rfl ?_
    refine th_n (hK8 _ _ ?_)
    clear hK8 K8
    refine D_start 14 37 (fun w => Mod (fun i => i = b3 ∨ ((i = bm ∨ wz ≤ i) ∧ i ≠ b27)) w) follows rfl rfl ?_  -- d2 r5
    intro w29 g29
    replace hA := hA.grow g29
    replace hB := hB.grow g29
    replace cc2 := cc2.grow g29
    replace hE2 := hE2.grow g29
    replace OX := OX.grow g29
    replace OC1 := OC1.grow g29
    replace OR1 := OR1.grow g29
    replace G := G.grow g29
    replace GL26 := GL26.grow g29
    replace B1 := B1.grow g29
    replace B2 := B2.grow g29
    replace B3 := B3.grow g29
    replace B27 := B27.grow g29
    have zg29 := g29.size
    have GS29 := Mod.refl (fun i => i = b3 ∨ ((i = bm ∨ wz ≤ i) ∧ i ≠ b27)) w29
    refine Dq (i := 0) rfl GS29 (fun _ _ => Y_field Try.underlying25 rfl fz25_0 (by decide) rfl) ?_
    refine Dq (i := 2) rfl GS29 (fun _ _ => Y_field Try.underlying70 rfl fz70_0 (by decide) rfl) ?_
    refine Dq (i := 3) rfl GS29 (fun _ hs => Y_load Try.underlying4 rfl rfl (by first | exact hs.cell (B27.at (by rfl)) (by intro h; first | omega | (dsimp only at h; omega)))) ?_
    refine Dq (i := 4) rfl GS29 (fun _ _ => Y_field Try.underlying70 rfl fz70_1 (by decide) rfl) ?_
    refine Dq (i := 5) rfl GS29 (fun _ hs => Y_load Try.underlying3 rfl rfl (by first | exact hs.cell (B27.at (by rfl)) (by intro h; first | omega | (dsimp only at h; omega)))) ?_
    refine Dq (i := 6) rfl GS29 (fun _ _ => Y_field Try.underlying70 rfl fz70_2 (by decide) rfl) ?_
    refine Dq (i := 7) rfl GS29 (fun _ hs => Y_load Try.underlying22 rfl rfl (by first | exact hs.cell (B27.at (by rfl)) (by intro h; first | omega | (dsimp only at h; omega)))) ?_
    refine D_2 (i := 1) (j := 8) (by kernel_rfl) ?_ ?_
    · -- operation 1 comes up
     refine E_val (i := 1) rfl (Y_load Try.underlying23 rfl rfl (B3.at (by rfl))) GS29 ?_
     refine D_1 (i := 8) (by kernel_rfl) ?_
     refine E_call rfl rfl en46 (impl_clone_int__c _ _ _ _ _ hE2 (by omega)) ?_  -- k6 impl.clone[int]
     rintro v31 w31 ⟨A31, q31, cap31, rfl, hq31, O31, g31⟩
     replace hA := hA.grow g31
     replace hB := hB.grow g31
     replace cc2 := cc2.grow g31
     replace hE2 := hE2.grow g31
     replace OX := OX.grow g31
     replace OC1 := OC1.grow g31
     replace OR1 := OR1.grow g31
     replace G := G.grow g31
     replace GL26 := GL26.grow g31
     replace GS29 := GS29.grow g31
     replace B1 := B1.grow g31
     replace B2 := B2.grow g31
     replace B3 := B3.grow g31
     replace B27 := B27.grow g31
     have zg31 := g31.size
     subst hq31
     obtain ⟨AY, rfl⟩ : ∃ x, x = A31 := ⟨_, rfl⟩
     obtain ⟨capY, rfl⟩ : ∃ x, x = cap31 := ⟨_, rfl⟩
     have OY := O31
     refine ⟨GS29, ?_⟩
     refine Dq (i := 9) rfl GS29 (fun _ _ => Y_build (cs := [_, _, _]) zr70 pc70 rfl rfl) ?_
     refine D_1 (i := 10) (by kernel_rfl) ?_
     refine E_bs1 (cs := [_, _, _]) (i := 10) rfl Try.underlying23 zr70 sz70 rfl rfl rfl ?_
     intro b32 w32 fb32 g32 B32
     refine ⟨GS29.grow g32, ?_⟩
     have lb32 := B32.lt
     replace hA := hA.grow g32
     replace hB := hB.grow g32
     replace cc2 := cc2.grow g32
     replace hE2 := hE2.grow g32
     replace OX := OX.grow g32
     replace OC1 := OC1.grow g32
     replace OR1 := OR1.grow g32
     replace OY := OY.grow g32
     replace G := G.grow g32
     replace GL26 := GL26.grow g32
     replace GS29 := GS29.grow g32
     replace B1 := B1.grow g32
     replace B2 := B2.grow g32
     replace B3 := B3.grow g32
     replace B27 := B27.grow g32
     have zg32 := g32.size
     refine D_1 (i := 11) (by kernel_rfl) ?_
     refine E_app2 (i := 11) rfl Try.underlying23 zr70 sz70 by70 rfl rfl OC1 rfl (Src.blk B32) (by simp [Value.oneCell']) (by omega) (Pr' := fun i => (i = bm ∨ wz ≤ i) ∧ i ≠ b27) (fun i hi => by omega) (by omega) ?_
     intro A33 cap33 w33 X33 m33 n33
     replace OR1 := OR1.app OC1 hne n33
     replace OC1 := X33
     clear X33 n33
     replace G := G.abv m33
     replace GL26 := GL26.trn m33
     replace GS29 := GS29.trn m33
     replace hA := hA0.grow G
     replace hB := hB0.grow G
     replace cc2 := cc20.grow G
     replace hE2 := hE20.grow G
     replace OX := OX.md m33
     replace OY := OY.md m33
     replace B1 := B1.md m33
     replace B2 := B2.md m33
     replace B3 := B3.md m33
     replace B27 := B27.md m33
     have zm33 := m33.size
     refine ⟨GS29, ?_⟩
     have OR2 := OR1.more (c := h.cells[k]) OY (fun i hi => by omega) (Pr' := fun i => wz ≤ i) (fun i hi => by omega) (fun i hi => by omega)
     replace OC1 : OW (fun i => (i = bm ∨ wz ≤ i) ∧ i ≠ b27) w33 70 3 A33 (q1 + 1) cap33 (flatC (h.cells.take (k + 1)) (rs ++ [(AY, capY)])) := by rw [List.take_succ_eq_append_getElem hk1, ← flat_more OR1.len]; exact OC1
     rw [← List.take_succ_eq_append_getElem hk1] at OR2
     refine Dq (i := 12) rfl GS29 (fun _ _ => Y_field Try.underlying25 rfl fz25_0 (by decide) rfl) ?_
     refine D_1 (i := 13) (by kernel_rfl) ?_
     refine E_stM (pre := []) (old := [_]) (post := [_]) (vs := [_]) (i := 13) rfl sz23 rfl rfl rfl (by first | rfl | assumption) B3 rfl rfl ?_
     intro w34 m34 X34
     replace B3 := Blk.eq (ys := [_, _]) X34 rfl
     clear X34
     replace G := G.abv m34
     replace GL26 := GL26.trn m34
     replace GS29 := GS29.trn m34
     replace hA := hA0.grow G
     replace hB := hB0.grow G
     replace cc2 := cc20.grow G
     replace hE2 := hE20.grow G
     replace OX := OX.md m34
     replace OC1 := OC1.md m34
     replace OR2 := OR2.md m34
     replace B1 := B1.md m34
     replace B2 := B2.md m34
     replace B27 := B27.md m34
     have zm34 := m34.size
     refine ⟨GS29, ?_⟩
     refine D_en (by kernel_rfl) rfl rfl ?_
     refine ib_n ?_
     refine th_n (hK7 _ _ ?_)
     clear hK7 K7
     refine Sb 37 rfl ?_  -- 6
     refine S_val (Y_inc rfl rfl (by omega)) ?_
     refine S_val (Y_move rfl) ?_
     refine S_nl rfl rfl ?_
     refine th_n ?_
     go_roundw  -- e1 of L1
     case rel =>
      refine ⟨?_, GL26⟩
      exact ⟨k + 1, _, _, _, _, rfl, by omega, by omega, B3, OC1.weak (fun i hi => hi.1), OR2⟩
     case measure =>
      exact dec_nat (by omega)
    · -- operation 8 comes up
     refine E_call rfl rfl en46 (impl_clone_int__c _ _ _ _ _ hE2 (by omega)) ?_  -- k7 impl.clone[int]
     rintro v35 w35 ⟨A35, q35, cap35, rfl, hq35, O35, g35⟩
     replace hA := hA.grow g35
     replace hB := hB.grow g35
     replace cc2 := cc2.grow g35
     replace hE2 := hE2.grow g35
     replace OX := OX.grow g35
     replace OC1 := OC1.grow g35
     replace OR1 := OR1.grow g35
     replace G := G.grow g35
     replace GL26 := GL26.grow g35
     replace GS29 := GS29.grow g35
     replace B1 := B1.grow g35
     replace B2 := B2.grow g35
     replace B3 := B3.grow g35
     replace B27 := B27.grow g35
     have zg35 := g35.size
     subst hq35
     obtain ⟨AY, rfl⟩ : ∃ x, x = A35 := ⟨_, rfl⟩
     obtain ⟨capY, rfl⟩ : ∃ x, x = cap35 := ⟨_, rfl⟩
     have OY := O35
     refine ⟨GS29, ?_⟩
     refine Dq (i := 9) rfl GS29 (fun _ _ => Y_build (cs := [_, _, _]) zr70 pc70 rfl rfl) ?_
     refine D_2 (i := 1) (j := 10) (by kernel_rfl) ?_ ?_
     · -- operation 1 comes up
      refine E_val (i := 1) rfl (Y_load Try.underlying23 rfl rfl (B3.at (by rfl))) GS29 ?_
      refine D_1 (i := 10) (by kernel_rfl) ?_
      refine E_bs1 (cs := [_, _, _]) (i := 10) rfl Try.underlying23 zr70 sz70 rfl rfl rfl ?_
      intro b37 w37 fb37 g37 B37
      refine ⟨GS29.grow g37, ?_⟩
      have lb37 := B37.lt
      replace hA := hA.grow g37
      replace hB := hB.grow g37
      replace cc2 := cc2.grow g37
      replace hE2 := hE2.grow g37
      replace OX := OX.grow g37
      replace OC1 := OC1.grow g37
      replace OR1 := OR1.grow g37
      replace OY := OY.grow g37
      replace G := G.grow g37
      replace GL26 := GL26.grow g37
      replace GS29 := GS29.grow g37
      replace B1 := B1.grow g37
      replace B2 := B2.grow g37
      replace B3 := B3.grow g37
      replace B27 := B27.grow g37
      have zg37 := g37.size
      refine D_1 (i := 11) (by kernel_rfl) ?_
      refine E_app2 (i := 11) rfl Try.underlying23 zr70 sz70 by70 rfl rfl OC1 rfl (Src.blk B37) (by simp [Value.oneCell']) (by omega) (Pr' := fun i => (i = bm ∨ wz ≤ i) ∧ i ≠ b27) (fun i hi => by omega) (by omega) ?_
      intro A38 cap38 w38 X38 m38 n38
      replace OR1 := OR1.app OC1 hne n38
      replace OC1 := X38
      clear X38 n38
      replace G := G.abv m38
      replace GL26 := GL26.trn m38
      replace GS29 := GS29.trn m38
      replace hA := hA0.grow G
      replace hB := hB0.grow G
      replace cc2 := cc20.grow G
      replace hE2 := hE20.grow G
      replace OX := OX.md m38
      replace OY := OY.md m38
      replace B1 := B1.md m38
      replace B2 := B2.md m38
      replace B3 := B3.md m38
      replace B27 := B27.md m38
      have zm38 := m38.size
      refine ⟨GS29, ?_⟩
      have OR2 := OR1.more (c := h.cells[k]) OY (fun i hi => by omega) (Pr' := fun i => wz ≤ i) (fun i hi => by omega) (fun i hi => by omega)
      replace OC1 : OW (fun i => (i = bm ∨ wz ≤ i) ∧ i ≠ b27) w38 70 3 A38 (q1 + 1) cap38 (flatC (h.cells.take (k + 1)) (rs ++ [(AY, capY)])) := by rw [List.take_succ_eq_append_getElem hk1, ← flat_more OR1.len]; exact OC1
      rw [← List.take_succ_eq_append_getElem hk1] at OR2
      refine Dq (i := 12) rfl GS29 (fun _ _ => Y_field Try.underlying25 rfl fz25_0 (by decide) rfl) ?_
      refine D_1 (i := 13) (by kernel_rfl) ?_
      refine E_stM (pre := []) (old := [_]) (post := [_]) (vs := [_]) (i := 13) rfl sz23 rfl rfl rfl (by first | rfl | assumption) B3 rfl rfl ?_
      intro w39 m39 X39
      replace B3 := Blk.eq (ys := [_, _]) X39 rfl
      clear X39
      replace G := G.abv m39
      replace GL26 := GL26.trn m39
      replace GS29 := GS29.trn m39
      replace hA := hA0.grow G
      replace hB := hB0.grow G
      replace cc2 := cc20.grow G
      replace hE2 := hE20.grow G
      replace OX := OX.md m39
      replace OC1 := OC1.md m39
      replace OR2 := OR2.md m39
      replace B1 := B1.md m39
      replace B2 := B2.md m39
      replace B27 := B27.md m39
      have zm39 := m39.size
      refine ⟨GS29, ?_⟩
      refine D_en (by kernel_rfl) rfl rfl ?_
      refine ib_n ?_
      refine th_n (hK7 _ _ ?_)
      clear hK7 K7
      refine Sb 37 rfl ?_  -- 6
      refine S_val (Y_inc rfl rfl (by omega)) ?_
      refine S_val (Y_move rfl) ?_
      refine S_nl rfl rfl ?_
      refine th_n ?_
      go_roundw  -- e2 of L1
      case rel =>
       refine ⟨?_, GL26⟩
       exact ⟨k + 1, _, _, _, _, rfl, by omega, by omega, B3, OC1.weak (fun i hi => hi.1), OR2⟩
      case measure =>
       exact dec_nat (by omega)
     · -- operation 10 comes up
      refine E_bs1 (cs := [_, _, _]) (i := 10) rfl Try.underlying23 zr70 sz70 rfl rfl rfl ?_
      intro b40 w40 fb40 g40 B40
      refine ⟨GS29.grow g40, ?_⟩
      have lb40 := B40.lt
      replace hA := hA.grow g40
      replace hB := hB.grow g40
      replace cc2 := cc2.grow g40
      replace hE2 := hE2.grow g40
      replace OX := OX.grow g40
      replace OC1 := OC1.grow g40
      replace OR1 := OR1.grow g40
      replace OY := OY.grow g40
      replace G := G.grow g40
      replace GL26 := GL26.grow g40
      replace GS29 := GS29.grow g40
      replace B1 := B1.grow g40
      replace B2 := B2.grow g40
      replace B3 := B3.grow g40
      replace B27 := B27.grow g40
      have zg40 := g40.size
      refine D_1 (i := 1) (by kernel_rfl) ?_
      refine E_val (i := 1) rfl (Y_load Try.underlying23 rfl rfl (B3.at (by rfl))) GS29 ?_
      refine D_1 (i := 11) (by kernel_rfl) ?_
      refine E_app2 (i := 11) rfl Try.underlying23 zr70 sz70 by70 rfl rfl OC1 rfl (Src.blk B40) (by simp [Value.oneCell']) (by omega) (Pr' := fun i => (i = bm ∨ wz ≤ i) ∧ i ≠ b27) (fun i hi => by omega) (by omega) ?_
      intro A42 cap42 w42 X42 m42 n42
      replace OR1 := OR1.app OC1 hne n42
      replace OC1 := X42
      clear X42 n42
      replace G := G.abv m42
      replace GL26 := GL26.trn m42
      replace GS29 := GS29.trn m42
      replace hA := hA0.grow G
      replace hB := hB0.grow G
      replace cc2 := cc20.grow G
      replace hE2 := hE20.grow G
      replace OX := OX.md m42
      replace OY := OY.md m42
      replace B1 := B1.md m42
      replace B2 := B2.md m42
      replace B3 := B3.md m42
      replace B27 := B27.md m42
      have zm42 := m42.size
      refine ⟨GS29, ?_⟩
      have OR2 := OR1.more (c := h.cells[k]) OY (fun i hi => by omega) (Pr' := fun i => wz ≤ i) (fun i hi => by omega) (fun i hi => by omega)
      replace OC1 : OW (fun i => (i = bm ∨ wz ≤ i) ∧ i ≠ b27) w42 70 3 A42 (q1 + 1) cap42 (flatC (h.cells.take (k + 1)) (rs ++ [(AY, capY)])) := by rw [List.take_succ_eq_append_getElem hk1, ← flat_more OR1.len]; exact OC1
      rw [← List.take_succ_eq_append_getElem hk1] at OR2
      refine Dq (i := 12) rfl GS29 (fun _ _ => Y_field Try.underlying25 rfl fz25_0 (by decide) rfl) ?_
      refine D_1 (i := 13) (by kernel_rfl) ?_
      refine E_stM (pre := []) (old := [_]) (post := [_]) (vs := [_]) (i := 13) rfl sz23 rfl rfl rfl (by first | rfl | assumption) B3 rfl rfl ?_
      intro w43 m43 X43
      replace B3 := Blk.eq (ys := [_, _]) X43 rfl
      clear X43
      replace G := G.abv m43
      replace GL26 := GL26.trn m43
      replace GS29 := GS29.trn m43
      replace hA := hA0.grow G
      replace hB := hB0.grow G
      replace cc2 := cc20.grow G
      replace hE2 := hE20.grow G
      replace OX := OX.md m43
      replace OC1 := OC1.md m43
      replace OR2 := OR2.md m43
      replace B1 := B1.md m43
      replace B2 := B2.md m43
      replace B27 := B27.md m43
      have zm43 := m43.size
      refine ⟨GS29, ?_⟩
      refine D_en (by kernel_rfl) rfl rfl ?_
      refine ib_n ?_
      refine th_n (hK7 _ _ ?_)
      clear hK7 K7
      refine Sb 37 rfl ?_  -- 6
      refine S_val (Y_inc rfl rfl (by omega)) ?_
      refine S_val (Y_move rfl) ?_
      refine S_nl rfl rfl ?_
      refine th_n ?_
      go_roundw  -- e3 of L1
      case rel =>
       refine ⟨?_, GL26⟩
       exact ⟨k + 1, _, _, _, _, rfl, by omega, by omega, B3, OC1.weak (fun i hi => hi.1), OR2⟩
      case measure =>
       exact dec_nat (by omega)
   · -- c1F
    replace hb1 := nb_tf hb1
    refine wp_exit ?_
    refine th_x ?_
    try clear GL26
    refine th_x ?_
    refine ib_e ?_
    refine th_n (hK3 _ _ ?_)
    clear hK6 K6 hK3 K3
    refine wp_seq_k fun K9 hK9 => ?_
    refine Sb 37 rfl ?_  -- 7
    refine S_val (Y_loadS Try.underlying25 rfl sz25 rfl (B3.row (by rfl))) ?_  -- l8
    refine S_stM (pre := []) (old := [_, _]) (post := []) (vs := [_, _]) sz25 rfl rfl rfl (by first | rfl | assumption) B2 rfl rfl ?_
    intro w44 m44 X44
    replace B2 := Blk.eq (ys := [_, _]) X44 rfl
    clear X44
    replace G := G.abv m44
    replace hA := hA0.grow G
    replace hB := hB0.grow G
    replace OX := OX.md m44
    replace OC1 := OC1.md m44
    replace OR1 := OR1.md m44
    replace B1 := B1.md m44
    replace B3 := B3.md m44
    have zm44 := m44.size
    refine S_nl rfl rfl ?_
    refine th_n (hK9 _ _ ?_)
    clear hK9 K9
    refine wp_ret ?_
    refine ret_rc (cs := [_, _]) Try.underlying25 rfl sz25 rfl rfl (B2.row (by rfl)) ?_  -- r1
    rw [List.take_of_length_le (by omega)] at hlk OC1 OR1
    rw [hq1, ← hlk] at OC1
    exact ⟨_, _, _, _, _, _, rs, rfl, by omega, rfl, OH.of_parts (h := h) (OC.grown OC1 OR1 (fun _ h => h) (fun _ h => .inr h)) OX.oi (fun k b h1 h2 h3 => by omega) (fun k hk => by omega) (fun k hk => by omega), G⟩

set_option maxHeartbeats 400000 in
set_option maxRecDepth 20000 in
theorem spec_l7Copy_c (Pr : Nat → Prop) (A B : Option Addr) (h : LH) (c d : Nat) (w : World) (hA : RC Pr w A h.cells) (hB : R1 Pr w B (ints h.roots)) (hz : hsize h ≤ 1048576) :
    Calls Try.prog 77 #[.agg #[.slice A h.cells.length c, .slice B h.roots.length d]] w (Ret fun v w' => ∃ A1 B1 n1 c1 n2 c2 rs, v = .agg #[.slice A1 n1 c1, .slice B1 n2 c2] ∧ n1 = (h).cells.length ∧ n2 = (h).roots.length ∧ OH (fun i => w.heap.size ≤ i) w' 70 3 A1 B1 (h) rs ∧ Grow w w') := by
 have hz1 := hsize_cells h
 have hz2 := hsize_roots h
 have hne : (70 : TypeId) ≠ 3 := by decide
 have hAl := hA.below
 have hBl := hB.below
 refine enter Try.func77 rfl Try.ntmps77 (L := [_,_,_,_,_,_,_,_,_,_,_,_,_,_,_,_,_,_,_,_,_,_,_,_,_,_,_,_,_,_,_,_,_,_,_,_,_,_,_,_,_,_,_,_]) rfl ?_
 have G := Mod.refl No w
 have hAl0 := hAl
 have hBl0 := hBl
 refine wp_seq_k fun K1 hK1 => ?_
 refine Sb 44 rfl ?_  -- 0
 refine S_box (cs := [_, _]) rfl rfl ?_
 intro b1 w1 fb1 g1 B1
 have lb1 := B1.lt
 replace hAl := hAl.grow g1
 replace hBl := hBl.grow g1
 replace G := G.grow g1
 have zg1 := g1.size
 refine S_alloc (cs := [_, _]) zr25 rfl ?_
 intro b2 w2 fb2 g2 B2
 have lb2 := B2.lt
 replace hAl := hAl.grow g2
 replace hBl := hBl.grow g2
 replace G := G.grow g2
 replace B1 := B1.grow g2
 have zg2 := g2.size
 refine S_nl rfl rfl ?_
 refine th_n (hK1 _ _ ?_)
 clear hK1 K1
 refine wp_seq_k fun K2 hK2 => ?_
 refine Sb 44 rfl ?_  -- 1
 refine S_bs0 Try.underlying22 sz3 ?_
 intro b3 w3 fb3 g3 B3
 have lb3 := B3.lt
 replace hAl := hAl.grow g3
 replace hBl := hBl.grow g3
 replace G := G.grow g3
 replace B1 := B1.grow g3
 replace B2 := B2.grow g3
 have zg3 := g3.size
 refine S_val (Y_field Try.underlying25 rfl fz25_1 (by decide) rfl) ?_
 refine S_val (Y_load Try.underlying22 rfl rfl (B1.at (by rfl))) ?_  -- l1
 have OY : OW (fun i => b2 < i) w3 3 1 (some ⟨b3, 0, none⟩) 0 0 [] := OW.of_blk B3 rfl (by decide) (by omega)
 refine S_app0 (news := ints h.roots) Try.underlying22 zr3 sz3 by3 rfl rfl OY (by rw [ints_len]; omega) (by have hsr := Src.r1 hBl; rw [ints_len] at hsr; exact hsr) ints_one (by omega) (Pr' := fun i => b2 < i) (fun i hi => hi) (by omega) ?_
 intro A4 cap4 w4 X4 m4
 replace OY := X4
 clear X4
 replace G := G.abv m4
 replace hAl := hAl0.grow G
 replace hBl := hBl0.grow G
 replace B1 := B1.md m4
 replace B2 := B2.md m4
 have zm4 := m4.size
 have OX := OY.lt
 obtain ⟨AR, rfl⟩ : ∃ x, x = A4 := ⟨_, rfl⟩
 obtain ⟨capR, rfl⟩ : ∃ x, x = cap4 := ⟨_, rfl⟩
 clear OY
 refine S_val (Y_build (cs := [_, _]) zr25 pc25 rfl rfl) ?_
 refine S_alloc (cs := [_, _]) zr25 rfl ?_
 intro b5 w5 fb5 g5 B5
 have lb5 := B5.lt
 replace hAl := hAl.grow g5
 replace hBl := hBl.grow g5
 replace OX := OX.grow g5
 replace G := G.grow g5
 replace B1 := B1.grow g5
 replace B2 := B2.grow g5
 have zg5 := g5.size
 refine S_stM (pre := []) (old := [_, _]) (post := []) (vs := [_, _]) sz25 rfl rfl rfl (by first | rfl | assumption) B5 rfl rfl ?_
 intro w6 m6 X6
 replace B5 := Blk.eq (ys := [_, _]) X6 rfl
 clear X6
 replace G := G.abv m6
 replace hAl := hAl0.grow G
 replace hBl := hBl0.grow G
 replace OX := OX.md m6
 replace B1 := B1.md m6
 replace B2 := B2.md m6
 have zm6 := m6.size
 refine S_nl rfl rfl ?_
 refine th_n (hK2 _ _ ?_)
 clear hK2 K2
 refine wp_seq_k fun K3 hK3 => ?_
 refine wp_seq_k fun K4 hK4 => ?_
 refine Sb 44 rfl ?_  -- 2
 refine S_val (Y_assign rfl) ?_
 refine S_nl rfl rfl ?_
 refine th_n (hK4 _ _ ?_)
 clear hK4 K4
 refine wp_block ?_
 obtain ⟨wz, hwz⟩ : ∃ x, x = w6.heap.size := ⟨_, rfl⟩
 have OC1 : OW (fun i => wz ≤ i) w6 70 3 none 0 0 (flatC ([] : List LC) []) := OW.nil _ _ _ _
 have OR1 : ORs (fun i => wz ≤ i) w6 3 ([] : List LC) [] := ORs.nil _ _ _
 go_loopw [4] (fun u4 wr => (∃ (k q cap : Nat) (A1 : Option Addr) (rs : List (Option Addr × Nat)), u4 = .int .i64 k ∧ k ≤ h.cells.length ∧ q = k ∧ Blk wr b5 25 [.slice A1 q cap, .slice AR h.roots.length capR].toArray ∧ OW (fun i => wz ≤ i) wr 70 3 A1 q cap (flatC (h.cells.take k) rs) ∧ ORs (fun i => wz ≤ i) wr 3 (h.cells.take k) rs) ∧ Mod (fun i => i = b5 ∨ (wz ≤ i) ∨ wz ≤ i) w6 wr) (fun u4 wr => h.cells.length - (intOf u4).toNat)  -- L1
 case atStart =>
  refine ⟨?_, Mod.refl _ _⟩
  exact ⟨0, 0, _, _, [], rfl, by omega, rfl, B5, OC1, OR1⟩
 case round =>
  obtain ⟨w7, rfl⟩ : ∃ x : World, x = wr := ⟨_, rfl⟩
  obtain ⟨hrel, g7⟩ := hrel
  clear B5
  clear OC1
  clear OR1
  replace G := G.abv g7
  replace hAl := hAl0.grow G
  replace hBl := hBl0.grow G
  replace OX := OX.md g7
  replace B1 := B1.md g7
  replace B2 := B2.md g7
  have zg7 := g7.size
  obtain ⟨k, q1, cap1, A1, rs, rfl, hk, hq1, B5, OC1, OR1⟩ := hrel
  have hlk : (h.cells.take k).length = k := by simp; omega
  have GL7 := g7
  refine wp_seq_k fun K5 hK5 => ?_
  refine wp_seq_k fun K6 hK6 => ?_
  refine Sb 44 rfl ?_  -- 3
  refine S_val (Y_move rfl) ?_
  refine S_val (Y_field Try.underlying25 rfl fz25_0 (by decide) rfl) ?_
  refine S_val (Y_load Try.underlying23 rfl rfl (B1.at (by rfl))) ?_  -- l2
  refine S_val (Y_len Try.underlying23 rfl) ?_
  refine S_val (Y_lss rfl rfl) ?_
  refine S_nl rfl rfl ?_
  refine th_n (hK6 _ _ ?_)
  clear hK6 K6
  refine S_if rfl (fun hb1 => ?_) (fun hb1 => ?_)  -- c1
  · -- c1T
   replace hb1 := nb_tt hb1
   have hk1 : k < h.cells.length := by omega
   obtain ⟨g2, o2, E2, d2, rfl, hp2, cc20, hE20⟩ := hAl0.cell hk1
   have cc2 := cc20.grow G
   have hE2 := hE20.grow G
   have hr1 := hsize_refs h hk1
   replace OC1 := OC1.lt
   replace OR1 := OR1.lt
   refine wp_skip ?_
   refine th_n (hK5 _ _ ?_)
   clear hK5 K5
   refine wp_seq_k fun K7 hK7 => ?_
   refine wp_block ?_
   refine D_start 27 44 (fun w => Mod (fun i => i = b5 ∨ wz ≤ i) w) follows rfl rfl ?_  -- d1 r5
   intro w8 g8
   replace hAl := hAl.grow g8
   replace hBl := hBl.grow g8
   replace cc2 := cc2.grow g8
   replace hE2 := hE2.grow g8
   replace OX := OX.grow g8
   replace OC1 := OC1.grow g8
   replace OR1 := OR1.grow g8
   replace G := G.grow g8
   replace GL7 := GL7.grow g8
   replace B1 := B1.grow g8
   replace B2 := B2.grow g8
   replace B5 := B5.grow g8
   have zg8 := g8.size
   have GS8 := Mod.refl (fun i => i = b5 ∨ wz ≤ i) w8
   refine Dq (i := 0) rfl GS8 (fun _ _ => Y_field Try.underlying25 rfl fz25_0 (by decide) rfl) ?_
   refine Dq (i := 2) rfl GS8 (fun _ _ => Y_field Try.underlying25 rfl fz25_0 (by decide) rfl) ?_
   refine Dq (i := 3) rfl GS8 (fun _ hs => Y_load Try.underlying23 rfl rfl (by first | exact hs.cell (B1.at (by rfl)) (by intro h; first | omega | (dsimp only at h; omega)))) ?_
   refine Dq (i := 4) rfl GS8 (fun _ _ => Y_move rfl) ?_
   refine Dq (i := 5) rfl GS8 (fun _ _ => Y_index Try.underlying23 sz70 rfl rfl (by first | assumption | omega)) ?_
   refine Dq (i := 6) rfl GS8 (fun _ _ => Y_field Try.underlying70 rfl fz70_0 (by decide) rfl) ?_
   refine Dq (i := 7) rfl GS8 (fun _ hs => Y_load Try.underlying4 rfl rfl (by first | exact hs.cell (by assumption) (by intro h; first | omega | (dsimp only at h; omega)) | exact hs.cell (cc2.at (by rfl)) (by intro h; first | omega | (dsimp only at h; omega)) | exact hs.cell (B1.at (by rfl)) (by intro h; first | omega | (dsimp only at h; omega)) | exact hs.cell (B2.at (by rfl)) (by intro h; first | omega | (dsimp only at h; omega)) | exact hs.cell (B5.at (by rfl)) (by intro h; first | omega | (dsimp only at h; omega)))) ?_
   refine Dq (i := 8) rfl GS8 (fun _ _ => Y_field Try.underlying25 rfl fz25_0 (by decide) rfl) ?_
   refine Dq (i := 9) rfl GS8 (fun _ hs => Y_load Try.underlying23 rfl rfl (by first | exact hs.cell (B1.at (by rfl)) (by intro h; first | omega | (dsimp only at h; omega)))) ?_
   refine Dq (i := 10) rfl GS8 (fun _ _ => Y_move rfl) ?_
   refine Dq (i := 11) rfl GS8 (fun _ _ => Y_index Try.underlying23 sz70 rfl rfl (by first | assumption | omega)) ?_
   refine Dq (i := 12) rfl GS8 (fun _ _ => Y_field Try.underlying70 rfl fz70_1 (by decide) rfl) ?_
   refine Dq (i := 13) rfl GS8 (fun _ hs => Y_load Try.underlying3 rfl rfl (by first | exact hs.cell (by assumption) (by intro h; first | omega | (dsimp only at h; omega)) | exact hs.cell (cc2.at (by rfl)) (by intro h; first | omega | (dsimp only at h; omega)) | exact hs.cell (B1.at (by rfl)) (by intro h; first | omega | (dsimp only at h; omega)) | exact hs.cell (B2.at (by rfl)) (by intro h; first | omega | (dsimp only at h; omega)) | exact hs.cell (B5.at (by rfl)) (by intro h; first | omega | (dsimp only at h; omega)))) ?_
   refine Dq (i := 15) rfl GS8 (fun _ _ => Y_field Try.underlying25 rfl fz25_0 (by decide) rfl) ?_
   refine Dq (i := 16) rfl GS8 (fun _ hs => Y_load Try.underlying23 rfl rfl (by first | exact hs.cell (B1.at (by rfl)) (by intro h; first | omega | (dsimp only at h; omega)))) ?_
   refine Dq (i := 17) rfl GS8 (fun _ _ => Y_move rfl) ?_
   refine Dq (i := 18) rfl GS8 (fun _ _ => Y_index Try.underlying23 sz70 rfl rfl (by first | assumption | omega)) ?_
   refine Dq (i := 19) rfl GS8 (fun _ _ => Y_field Try.underlying70 rfl fz70_2 (by decide) rfl) ?_
   refine Dq (i := 20) rfl GS8 (fun _ hs => Y_load Try.underlying22 rfl rfl (by first | exact hs.cell (by assumption) (by intro h; first | omega | (dsimp only at h; omega)) | exact hs.cell (cc2.at (by rfl)) (by intro h; first | omega | (dsimp only at h; omega)) | exact hs.cell (B1.at (by rfl)) (by intro h; first | omega | (dsimp only at h; omega)) | exact hs.cell (B2.at (by rfl)) (by intro h; first | omega | (dsimp only at h; omega)) | exact hs.cell (B5.at (by rfl)) (by intro h; first | omega | (dsimp only at h; omega)))) ?_
   refine D_2 (i := 1) (j := 14) (by kernel_rfl) ?_ ?_
   · -- operation 1 comes up
    refine E_val (i := 1) rfl (Y_load Try.underlying23 rfl rfl (B5.at (by rfl))) GS8 ?_
    refine D_1 (i := 14) (by kernel_rfl) ?_
    refine E_bs0 (i := 14) rfl Try.underlying22 sz3 ?_
    intro b10 w10 fb10 g10 B10
    refine ⟨GS8.grow g10, ?_⟩
    have lb10 := B10.lt
    replace hAl := hAl.grow g10
    replace hBl := hBl.grow g10
    replace cc2 := cc2.grow g10
    replace hE2 := hE2.grow g10
    replace OX := OX.grow g10
    replace OC1 := OC1.grow g10
    replace OR1 := OR1.grow g10
    replace G := G.grow g10
    replace GL7 := GL7.grow g10
    replace GS8 := GS8.grow g10
    replace B1 := B1.grow g10
    replace B2 := B2.grow g10
    replace B5 := B5.grow g10
    have zg10 := g10.size
    refine D_1 (i := 21) (by kernel_rfl) ?_
    have OY : OW (fun i => b10 ≤ i) w10 3 1 (some ⟨b10, 0, none⟩) 0 0 [] := OW.of_blk B10 rfl (by decide) (Nat.le_refl _)
    refine E_app0 (i := 21) rfl (news := ints h.cells[k].refs) Try.underlying22 zr3 sz3 by3 rfl rfl OY (by rw [ints_len]; omega) (by have hsr := Src.r1 hE2; rw [ints_len] at hsr; exact hsr) ints_one (by omega) (Pr' := fun i => b10 ≤ i) (fun i hi => hi) (by omega) ?_
    intro A11 cap11 w11 X11 m11
    replace OY := X11
    clear X11
    replace G := G.abv m11
    first | replace GL7 := GL7.abv m11 | clear GL7
    replace GS8 := GS8.abv m11
    replace hAl := hAl0.grow G
    replace hBl := hBl0.grow G
    replace cc2 := cc20.grow G
    replace hE2 := hE20.grow G
    replace OX := OX.md m11
    replace OC1 := OC1.md m11
    replace OR1 := OR1.md m11
    replace B1 := B1.md m11
    replace B2 := B2.md m11
    replace B5 := B5.md m11
    have zm11 := m11.size
    refine ⟨GS8, ?_⟩
    obtain ⟨AY, rfl⟩ : ∃ x, x = A11 := ⟨_, rfl⟩
    obtain ⟨capY, rfl⟩ : ∃ x, x = cap11 := ⟨_, rfl⟩
    refine Dq (i := 22) rfl GS8 (fun _ _ => Y_build (cs := [_, _, _]) zr70 pc70 rfl rfl) ?_
    refine D_1 (i := 23) (by kernel_rfl) ?_
    refine E_bs1 (cs := [_, _, _]) (i := 23) rfl Try.underlying23 zr70 sz70 rfl rfl rfl ?_
    intro b12 w12 fb12 g12 B12
    refine ⟨GS8.grow g12, ?_⟩
    have lb12 := B12.lt
    replace hAl := hAl.grow g12
    replace hBl := hBl.grow g12
    replace cc2 := cc2.grow g12
    replace hE2 := hE2.grow g12
    replace OX := OX.grow g12
    replace OC1 := OC1.grow g12
    replace OR1 := OR1.grow g12
    replace OY := OY.grow g12
    replace G := G.grow g12
    replace GL7 := GL7.grow g12
    replace GS8 := GS8.grow g12
    replace B1 := B1.grow g12
    replace B2 := B2.grow g12
    replace B5 := B5.grow g12
    have zg12 := g12.size
    refine D_1 (i := 24) (by kernel_rfl) ?_
    refine E_app2 (i := 24) rfl Try.underlying23 zr70 sz70 by70 rfl rfl OC1 rfl (Src.blk B12) (by simp [Value.oneCell']) (by omega) (Pr' := fun i => (wz ≤ i)) (fun i hi => by omega) (by omega) ?_
    intro A13 cap13 w13 X13 m13 n13
    replace OR1 := OR1.app OC1 hne n13
    replace OC1 := X13
    clear X13 n13
    replace G := G.abv m13
    replace GL7 := GL7.trn m13
    replace GS8 := GS8.trn m13
    replace hAl := hAl0.grow G
    replace hBl := hBl0.grow G
    replace cc2 := cc20.grow G
    replace hE2 := hE20.grow G
    replace OX := OX.md m13
    replace OY := OY.md m13
    replace B1 := B1.md m13
    replace B2 := B2.md m13
    replace B5 := B5.md m13
    have zm13 := m13.size
    refine ⟨GS8, ?_⟩
    have OR2 := OR1.more (c := h.cells[k]) OY (fun i hi => by omega) (Pr' := fun i => wz ≤ i) (fun i hi => by omega) (fun i hi => by omega)
    replace OC1 : OW (fun i => (wz ≤ i)) w13 70 3 A13 (q1 + 1) cap13 (flatC (h.cells.take (k + 1)) (rs ++ [(AY, capY)])) := by rw [List.take_succ_eq_append_getElem hk1, ← flat_more OR1.len]; exact OC1
    rw [← List.take_succ_eq_append_getElem hk1] at OR2
    refine Dq (i := 25) rfl GS8 (fun _ _ => Y_field Try.underlying25 rfl fz25_0 (by decide) rfl) ?_
    refine D_1 (i := 26) (by kernel_rfl) ?_
    refine E_stM (pre := []) (old := [_]) (post := [_]) (vs := [_]) (i := 26) rfl sz23 rfl rfl rfl (by first | rfl | assumption) B5 rfl rfl ?_
    intro w14 m14 X14
    replace B5 := Blk.eq (ys := [_, _]) X14 rfl
    clear X14
    replace G := G.abv m14
    replace GL7 := GL7.trn m14
    replace GS8 := GS8.trn m14
    replace hAl := hAl0.grow G
    replace hBl := hBl0.grow G
    replace cc2 := cc20.grow G
    replace hE2 := hE20.grow G
    replace OX := OX.md m14
    replace OC1 := OC1.md m14
    replace OR2 := OR2.md m14
    replace B1 := B1.md m14
    replace B2 := B2.md m14
    have zm14 := m14.size
    refine ⟨GS8, ?_⟩
    refine D_en (by kernel_rfl) rfl rfl ?_
    refine ib_n ?_
    refine th_n (hK7 _ _ ?_)
    clear hK7 K7
    refine Sb 44 rfl ?_  -- 4
    refine S_val (Y_move rfl) ?_
    refine S_val (Y_inc rfl rfl (by omega)) ?_
    refine S_val (Y_assign rfl) ?_
    refine S_nl rfl rfl ?_
    refine th_n ?_
    go_roundw  -- e1 of L1
    case rel =>
     refine ⟨?_, GL7⟩
     exact ⟨k + 1, _, _, _, _, rfl, by omega, by omega, B5, OC1, OR2⟩
    case measure =>
     exact dec_nat (by omega)
   · -- operation 14 comes up
    refine E_bs0 (i := 14) rfl Try.underlying22 sz3 ?_
    intro b15 w15 fb15 g15 B15
    refine ⟨GS8.grow g15, ?_⟩
    have lb15 := B15.lt
    replace hAl := hAl.grow g15
    replace hBl := hBl.grow g15
    replace cc2 := cc2.grow g15
    replace hE2 := hE2.grow g15
    replace OX := OX.grow g15
    replace OC1 := OC1.grow g15
    replace OR1 := OR1.grow g15
    replace G := G.grow g15
    replace GL7 := GL7.grow g15
    replace GS8 := GS8.grow g15
    replace B1 := B1.grow g15
    replace B2 := B2.grow g15
    replace B5 := B5.grow g15
    have zg15 := g15.size
    refine D_2 (i := 1) (j := 21) (by kernel_rfl) ?_ ?_
    · -- operation 1 comes up
     refine E_val (i := 1) rfl (Y_load Try.underlying23 rfl rfl (B5.at (by rfl))) GS8 ?_
     refine D_1 (i := 21) (by kernel_rfl) ?_
     have OY : OW (fun i => b15 ≤ i) w15 3 1 (some ⟨b15, 0, none⟩) 0 0 [] := OW.of_blk B15 rfl (by decide) (Nat.le_refl _)
     refine E_app0 (i := 21) rfl (news := ints h.cells[k].refs) Try.underlying22 zr3 sz3 by3 rfl rfl OY (by rw [ints_len]; omega) (by have hsr := Src.r1 hE2; rw [ints_len] at hsr; exact hsr) ints_one (by omega) (Pr' := fun i => b15 ≤ i) (fun i hi => hi) (by omega) ?_
     intro A17 cap17 w17 X17 m17
     replace OY := X17
     clear X17
     replace G := G.abv m17
     first | replace GL7 := GL7.abv m17 | clear GL7
     replace GS8 := GS8.abv m17
     replace hAl := hAl0.grow G
     replace hBl := hBl0.grow G
     replace cc2 := cc20.grow G
     replace hE2 := hE20.grow G
     replace OX := OX.md m17
     replace OC1 := OC1.md m17
     replace OR1 := OR1.md m17
     replace B1 := B1.md m17
     replace B2 := B2.md m17
     replace B5 := B5.md m17
     have zm17 := m17.size
     refine ⟨GS8, ?_⟩
     obtain ⟨AY, rfl⟩ : ∃ x, x = A17 := ⟨_, rfl⟩
     obtain ⟨capY, rfl⟩ : ∃ x, x = cap17 := ⟨_, rfl⟩
     refine Dq (i := 22) rfl GS8 (fun _ _ => Y_build (cs := [_, _, _]) zr70 pc70 rfl rfl) ?_
     refine D_1 (i := 23) (by kernel_rfl) ?_
     refine E_bs1 (cs := [_, _, _]) (i := 23) rfl Try.underlying23 zr70 sz70 rfl rfl rfl ?_
     intro b18 w18 fb18 g18 B18
     refine ⟨GS8.grow g18, ?_⟩
     have lb18 := B18.lt
     replace hAl := hAl.grow g18
     replace hBl := hBl.grow g18
     replace cc2 := cc2.grow g18
     replace hE2 := hE2.grow g18
     replace OX := OX.grow g18
     replace OC1 := OC1.grow g18
     replace OR1 := OR1.grow g18
     replace OY := OY.grow g18
     replace G := G.grow g18
     replace GL7 := GL7.grow g18
     replace GS8 := GS8.grow g18
     replace B1 := B1.grow g18
     replace B2 := B2.grow g18
     replace B5 := B5.grow g18
     have zg18 := g18.size
     refine D_1 (i := 24) (by kernel_rfl) ?_
     refine E_app2 (i := 24) rfl Try.underlying23 zr70 sz70 by70 rfl rfl OC1 rfl (Src.blk B18) (by simp [Value.oneCell']) (by omega) (Pr' := fun i => (wz ≤ i)) (fun i hi => by omega) (by omega) ?_
     intro A19 cap19 w19 X19 m19 n19
     replace OR1 := OR1.app OC1 hne n19
     replace OC1 := X19
     clear X19 n19
     replace G := G.abv m19
     replace GL7 := GL7.trn m19
     replace GS8 := GS8.trn m19
     replace hAl := hAl0.grow G
     replace hBl := hBl0.grow G
     replace cc2 := cc20.grow G
     replace hE2 := hE20.grow G
     replace OX := OX.md m19
     replace OY := OY.md m19
     replace B1 := B1.md m19
     replace B2 := B2.md m19
     replace B5 := B5.md m19
     have zm19 := m19.size
     refine ⟨GS8, ?_⟩
     have OR2 := OR1.more (c := h.cells[k]) OY (fun i hi => by omega) (Pr' := fun i => wz ≤ i) (fun i hi => by omega) (fun i hi => by omega)
     replace OC1 : OW (fun i => (wz ≤ i)) w19 70 3 A19 (q1 + 1) cap19 (flatC (h.cells.take (k + 1)) (rs ++ [(AY, capY)])) := by rw [List.take_succ_eq_append_getElem hk1, ← flat_more OR1.len]; exact OC1
     rw [← List.take_succ_eq_append_getElem hk1] at OR2
     refine Dq (i := 25) rfl GS8 (fun _ _ => Y_field Try.underlying25 rfl fz25_0 (by decide) rfl) ?_
     refine D_1 (i := 26) (by kernel_rfl) ?_
     refine E_stM (pre := []) (old := [_]) (post := [_]) (vs := [_]) (i := 26) rfl sz23 rfl rfl rfl (by first | rfl | assumption) B5 rfl rfl ?_
     intro w20 m20 X20
     replace B5 := Blk.eq (ys := [_, _]) X20 rfl
     clear X20
     replace G := G.abv m20
     replace GL7 := GL7.trn m20
     replace GS8 := GS8.trn m20
     replace hAl := hAl0.grow G
     replace hBl := hBl0.grow G
     replace cc2 := cc20.grow G
     replace hE2 := hE20.grow G
     replace OX := OX.md m20
     replace OC1 := OC1.md m20
     replace OR2 := OR2.md m20
     replace B1 := B1.md m20
     replace B2 := B2.md m20
     have zm20 := m20.size
     refine ⟨GS8, ?_⟩
     refine D_en (by kernel_rfl) rfl rfl ?_
     refine ib_n ?_
     refine th_n (hK7 _ _ ?_)
     clear hK7 K7
     refine Sb 44 rfl ?_  -- 4
     refine S_val (Y_move rfl) ?_
     refine S_val (Y_inc rfl rfl (by omega)) ?_
     refine S_val (Y_assign rfl) ?_
     refine S_nl rfl rfl ?_
     refine th_n ?_
     go_roundw  -- e2 of L1
     case rel =>
      refine ⟨?_, GL7⟩
      exact ⟨k + 1, _, _, _, _, rfl, by omega, by omega, B5, OC1, OR2⟩
     case measure =>
      exact dec_nat (by omega)
    · -- operation 21 comes up
     have OY : OW (fun i => b15 ≤ i) w15 3 1 (some ⟨b15, 0, none⟩) 0 0 [] := OW.of_blk B15 rfl (by decide) (Nat.le_refl _)
     refine E_app0 (i := 21) rfl (news := ints h.cells[k].refs) Try.underlying22 zr3 sz3 by3 rfl rfl OY (by rw [ints_len]; omega) (by have hsr := Src.r1 hE2; rw [ints_len] at hsr; exact hsr) ints_one (by omega) (Pr' := fun i => b15 ≤ i) (fun i hi => hi) (by omega) ?_
     intro A21 cap21 w21 X21 m21
     replace OY := X21
     clear X21
     replace G := G.abv m21
     first | replace GL7 := GL7.abv m21 | clear GL7
     replace GS8 := GS8.abv m21
     replace hAl := hAl0.grow G
     replace hBl := hBl0.grow G
     replace cc2 := cc20.grow G
     replace hE2 := hE20.grow G
     replace OX := OX.md m21
     replace OC1 := OC1.md m21
     replace OR1 := OR1.md m21
     replace B1 := B1.md m21
     replace B2 := B2.md m21
     replace B5 := B5.md m21
     have zm21 := m21.size
     refine ⟨GS8, ?_⟩
     obtain ⟨AY, rfl⟩ : ∃ x, x = A21 := ⟨_, rfl⟩
     obtain ⟨capY, rfl⟩ : ∃ x, x = cap21 := ⟨_, rfl⟩
     refine Dq (i := 22) rfl GS8 (fun _ _ => Y_build (cs := [_, _, _]) zr70 pc70 rfl rfl) ?_
     refine D_2 (i := 1) (j := 23) (by kernel_rfl) ?_ ?_
     · -- operation 1 comes up
      refine E_val (i := 1) rfl (Y_load Try.underlying23 rfl rfl (B5.at (by rfl))) GS8 ?_
      refine D_1 (i := 23) (by kernel_rfl) ?_
      refine E_bs1 (cs := [_, _, _]) (i := 23) rfl Try.underlying23 zr70 sz70 rfl rfl rfl ?_
      intro b23 w23 fb23 g23 B23
      refine ⟨GS8.grow g23, ?_⟩
      have lb23 := B23.lt
      replace hAl := hAl.grow g23
      replace hBl := hBl.grow g23
      replace cc2 := cc2.grow g23
      replace hE2 := hE2.grow g23
      replace OX := OX.grow g23
      replace OC1 := OC1.grow g23
      replace OR1 := OR1.grow g23
      replace OY := OY.grow g23
      replace G := G.grow g23
      replace GL7 := GL7.grow g23
      replace GS8 := GS8.grow g23
      replace B1 := B1.grow g23
      replace B2 := B2.grow g23
      replace B5 := B5.grow g23
      have zg23 := g23.size
      refine D_1 (i := 24) (by kernel_rfl) ?_
      refine E_app2 (i := 24) rfl Try.underlying23 zr70 sz70 by70 rfl rfl OC1 rfl (Src.blk B23) (by simp [Value.oneCell']) (by omega) (Pr' := fun i => (wz ≤ i)) (fun i hi => by omega) (by omega) ?_
      intro A24 cap24 w24 X24 m24 n24
      replace OR1 := OR1.app OC1 hne n24
      replace OC1 := X24
      clear X24 n24
      replace G := G.abv m24
      replace GL7 := GL7.trn m24
      replace GS8 := GS8.trn m24
      replace hAl := hAl0.grow G
      replace hBl := hBl0.grow G
      replace cc2 := cc20.grow G
      replace hE2 := hE20.grow G
      replace OX := OX.md m24
      replace OY := OY.md m24
      replace B1 := B1.md m24
      replace B2 := B2.md m24
      replace B5 := B5.md m24
      have zm24 := m24.size
      refine ⟨GS8, ?_⟩
      have OR2 := OR1.more (c := h.cells[k]) OY (fun i hi => by omega) (Pr' := fun i => wz ≤ i) (fun i hi => by omega) (fun i hi => by omega)
      replace OC1 : OW (fun i => (wz ≤ i)) w24 70 3 A24 (q1 + 1) cap24 (flatC (h.cells.take (k + 1)) (rs ++ [(AY, capY)])) := by rw [List.take_succ_eq_append_getElem hk1, ← flat_more OR1.len]; exact OC1
      rw [← List.take_succ_eq_append_getElem hk1] at OR2
      refine Dq (i := 25) rfl GS8 (fun _ _ => Y_field Try.underlying25 rfl fz25_0 (by decide) rfl) ?_
      refine D_1 (i := 26) (by kernel_rfl) ?_
      refine E_stM (pre := []) (old := [_]) (post := [_]) (vs := [_]) (i := 26) rfl sz23 rfl rfl rfl (by first | rfl | assumption) B5 rfl rfl ?_
      intro w25 m25 X25
      replace B5 := Blk.eq (ys := [_, _]) X25 rfl
      clear X25
      replace G := G.abv m25
      replace GL7 := GL7.trn m25
      replace GS8 := GS8.trn m25
      replace hAl := hAl0.grow G
      replace hBl := hBl0.grow G
      replace cc2 := cc20.grow G
      replace hE2 := hE20.grow G
      replace OX := OX.md m25
      replace OC1 := OC1.md m25
      replace OR2 := OR2.md m25
      replace B1 := B1.md m25
      replace B2 := B2.md m25
      have zm25 := m25.size
      refine ⟨GS8, ?_⟩
      refine D_en (by kernel_rfl) rfl rfl ?_
      refine ib_n ?_
      refine th_n (hK7 _ _ ?_)
      clear hK7 K7
      refine Sb 44 rfl ?_  -- 4
      refine S_val (Y_move rfl) ?_
      refine S_val (Y_inc rfl rfl (by omega)) ?_
      refine S_val (Y_assign rfl) ?_
      refine S_nl rfl rfl ?_
      refine th_n ?_
      go_roundw  -- e3 of L1
      case rel =>
       refine ⟨?_, GL7⟩
       exact ⟨k + 1, _, _, _, _, rfl, by omega, by omega, B5, OC1, OR2⟩
      case measure =>
       exact dec_nat (by omega)
     · -- operation 23 comes up
      refine E_bs1 (cs := [_, _, _]) (i := 23) rfl Try.underlying23 zr70 sz70 rfl rfl rfl ?_
      intro b26 w26 fb26 g26 B26
      refine ⟨GS8.grow g26, ?_⟩
      have lb26 := B26.lt
      replace hAl := hAl.grow g26
      replace hBl := hBl.grow g26
      replace cc2 := cc2.grow g26
      replace hE2 := hE2.grow g26
      replace OX := OX.grow g26
      replace OC1 := OC1.grow g26
      replace OR1 := OR1.grow g26
      replace OY := OY.grow g26
      replace G := G.grow g26
      replace GL7 := GL7.grow g26
      replace GS8 := GS8.grow g26
      replace B1 := B1.grow g26
      replace B2 := B2.grow g26
      replace B5 := B5.grow g26
      have zg26 := g26.size
      refine D_1 (i := 1) (by kernel_rfl) ?_
      refine E_val (i := 1) rfl (Y_load Try.underlying23 rfl rfl (B5.at (by rfl))) GS8 ?_
      refine D_1 (i := 24) (by kernel_rfl) ?_
      refine E_app2 (i := 24) rfl Try.underlying23 zr70 sz70 by70 rfl rfl OC1 rfl (Src.blk B26) (by simp [Value.oneCell']) (by omega) (Pr' := fun i => (wz ≤ i)) (fun i hi => by omega) (by omega) ?_
      intro A28 cap28 w28 X28 m28 n28
      replace OR1 := OR1.app OC1 hne n28
      replace OC1 := X28
      clear X28 n28
      replace G := G.abv m28
      replace GL7 := GL7.trn m28
      replace GS8 := GS8.trn m28
      replace hAl := hAl0.grow G
      replace hBl := hBl0.grow G
      replace cc2 := cc20.grow G
      replace hE2 := hE20.grow G
      replace OX := OX.md m28
      replace OY := OY.md m28
      replace B1 := B1.md m28
      replace B2 := B2.md m28
      replace B5 := B5.md m28
      have zm28 := m28.size
      refine ⟨GS8, ?_⟩
      have OR2 := OR1.more (c := h.cells[k]) OY (fun i hi => by omega) (Pr' := fun i => wz ≤ i) (fun i hi => by omega) (fun i hi => by omega)
      replace OC1 : OW (fun i => (wz ≤ i)) w28 70 3 A28 (q1 + 1) cap28 (flatC (h.cells.take (k + 1)) (rs ++ [(AY, capY)])) := by rw [List.take_succ_eq_append_getElem hk1, ← flat_more OR1.len]; exact OC1
      rw [← List.take_succ_eq_append_getElem hk1] at OR2
      refine Dq (i := 25) rfl GS8 (fun _ _ => Y_field Try.underlying25 rfl fz25_0 (by decide) rfl) ?_
      refine D_1 (i := 26) (by kernel_rfl) ?_
      refine E_stM (pre := []) (old := [_]) (post := [_]) (vs := [_]) (i := 26) rfl sz23 rfl rfl rfl (by first | rfl | assumption) B5 rfl rfl ?_
      intro w29 m29 X29
      replace B5 := Blk.eq (ys := [_, _]) X29 rfl
      clear X29
      replace G := G.abv m29
      replace GL7 := GL7.trn m29
      replace GS8 := GS8.trn m29
      replace hAl := hAl0.grow G
      replace hBl := hBl0.grow G
      replace cc2 := cc20.grow G
      replace hE2 := hE20.grow G
      replace OX := OX.md m29
      replace OC1 := OC1.md m29
      replace OR2 := OR2.md m29
      replace B1 := B1.md m29
      replace B2 := B2.md m29
      have zm29 := m29.size
      refine ⟨GS8, ?_⟩
      refine D_en (by kernel_rfl) rfl rfl ?_
      refine ib_n ?_
      refine th_n (hK7 _ _ ?_)
      clear hK7 K7
      refine Sb 44 rfl ?_  -- 4
      refine S_val (Y_move rfl) ?_
      refine S_val (Y_inc rfl rfl (by omega)) ?_
      refine S_val (Y_assign rfl) ?_
      refine S_nl rfl rfl ?_
      refine th_n ?_
      go_roundw  -- e4 of L1
      case rel =>
       refine ⟨?_, GL7⟩
       exact ⟨k + 1, _, _, _, _, rfl, by omega, by omega, B5, OC1, OR2⟩
      case measure =>
       exact dec_nat (by omega)
  · -- c1F
   replace hb1 := nb_tf hb1
   refine wp_exit ?_
   refine th_x ?_
   try clear GL7
   refine th_x ?_
   refine ib_e ?_
   refine th_n (hK3 _ _ ?_)
   clear hK5 K5 hK3 K3
   refine wp_seq_k fun K8 hK8 => ?_
   refine Sb 44 rfl ?_  -- 6
   refine S_val (Y_loadS Try.underlying25 rfl sz25 rfl (B5.row (by rfl))) ?_  -- l9
   refine S_stM (pre := []) (old := [_, _]) (post := []) (vs := [_, _]) sz25 rfl rfl rfl (by first | rfl | assumption) B2 rfl rfl ?_
   intro w30 m30 X30
   replace B2 := Blk.eq (ys := [_, _]) X30 rfl
   clear X30
   replace G := G.abv m30
   replace hAl := hAl0.grow G
   replace hBl := hBl0.grow G
   replace OX := OX.md m30
   replace OC1 := OC1.md m30
   replace OR1 := OR1.md m30
   replace B1 := B1.md m30
   replace B5 := B5.md m30
   have zm30 := m30.size
   refine S_nl rfl rfl ?_
   refine th_n (hK8 _ _ ?_)
   clear hK8 K8
   refine wp_ret ?_
   refine ret_rc (cs := [_, _]) Try.underlying25 rfl sz25 rfl rfl (B2.row (by rfl)) ?_  -- r1
   rw [List.take_of_length_le (by omega)] at hlk OC1 OR1
   rw [hq1, ← hlk] at OC1
   exact ⟨_, _, _, _, _, _, rs, rfl, by omega, rfl, OH.of_parts (h := h) (OC.grown OC1 OR1 (fun _ h => h) (fun _ h => h)) OX.oi (fun k b h1 h2 h3 => by omega) (fun k hk => by omega) (fun k hk => by omega), G⟩

end Go.Proofs.Ytjmfdmndchoplaa
