/-
  Walks: the cells that can be reached, and how many.
  Conditions: those that each theorem states.
-/
import Derived.Test.YtdfifnplgbceaaaTy
import Derived.Test.YtdfifnplgbceaaaWalkJ
import Derived.Test.YtdfifnplgbceaaaWalkH
import Derived.Test.YtdfifnplgbceaaaUse
namespace Go.Proofs.Ytdfifnplgbceaaa
open Go Go.RowKit
attribute [local irreducible] wpList wpAnyH Code.wp dOp

theorem SetOf.wlt {m : Nat} {bs : List Bool} (h : SetOf m bs) : m < 2 ^ 64 := h.1
theorem SetOf.lt {m : Nat} {cs : List LC} (h : SetOf m (usedL cs)) : ∀ i, m.testBit i = true → i < cs.length := fun i hi => by
  rw [h.2] at hi
  by_cases hl : i < cs.length
  · exact hl
  · rw [List.getElem?_eq_none (by simp [usedL]; omega)] at hi
    cases hi
theorem usedL_list {m : Nat} {cs : List LC} (h : SetOf m (usedL cs)) : listB m cs.length = usedL cs := by
  apply List.ext_getElem?
  intro i
  by_cases hi : i < cs.length
  · have h1 := h.2 i
    simp only [listB, usedL, List.getElem?_map, List.getElem?_range hi, List.getElem?_eq_getElem hi, Option.map_some] at h1 ⊢
    rw [h1]
    cases cs[i].used <;> rfl
  · rw [List.getElem?_eq_none (by rw [listB_len]; omega), List.getElem?_eq_none (by simp [usedL]; omega)]
def reachV (h : LH) : List Bool := if validB h = true then mB h.cells.length (orderL h.cells h.roots nn) else []
theorem reachV_t {h : LH} (hv : validB h = true) : reachV h = mB h.cells.length (orderL h.cells h.roots nn) := if_pos hv
theorem reachV_f {h : LH} (hv : validB h = false) : reachV h = [] := if_neg (by simp [hv])
theorem reachV_len {h : LH} (hv : validB h = true) : (reachV h).length = h.cells.length := by rw [reachV_t hv, mB_len]
def usedV (h : LH) : Int × Int := if validB h = true then ((countB (usedL h.cells) : Int), (countB (reachV h) : Int)) else (-1, -1)
theorem usedV_t {h : LH} (hv : validB h = true) : usedV h = ((countB (usedL h.cells) : Int), (countB (reachV h) : Int)) := if_pos hv
theorem usedV_f {h : LH} (hv : validB h = false) : usedV h = (-1, -1) := if_neg (by simp [hv])


set_option maxHeartbeats 400000 in
set_option maxRecDepth 20000 in
theorem impl_reachable_c (Pr : Nat → Prop) (A B : Option Addr) (h : LH) (c d : Nat) (w : World) (hA : RC Pr w A h.cells) (hB : R1 Pr w B (ints h.roots)) (hz : hsize h ≤ 1048576) (va : Valid h) :
    Calls Try.prog 77 #[.agg #[.slice A h.cells.length c, .slice B h.roots.length d]] w (Ret fun v w' => ∃ m : Nat, v = .int .u64 (m : Int) ∧ m < 2 ^ 64 ∧ listB m h.cells.length = mB h.cells.length (orderL h.cells h.roots nn) ∧ Grow w w') := by
  have h40 := va.le
  have hr4 := va.roots4
  refine enter Try.func77 rfl Try.ntmps77 (L := (_ :: _ :: _ :: _ :: _ :: _ :: _ :: _ :: _ :: [])) rfl ?_
  have G := Mod.refl No w
  have hA0 := hA
  have hB0 := hB
  refine wp_seq_k fun K1 hK1 => ?_
  refine wp_region_lit ?_  -- region 0 l7_heaps.go:138
  refine S_beg 9 rfl ?_
  refine S_box (cs := [_, _]) rfl rfl ?_
  intro b1 w1 fb1 g1 B1
  have lb1 := B1.lt
  replace hA := hA.grow g1
  replace hB := hB.grow g1
  replace G := G.grow g1
  have zg1 := g1.size
  refine S_val (Y_assign rfl) ?_
  refine S_nil (L' := (_ :: _ :: _ :: _ :: _ :: _ :: _ :: _ :: _ :: [])) rfl rfl ?_
  refine th_n ?_
  refine hK1 _ _ ?_
  clear hK1 K1
  refine wp_seq_k fun K2 hK2 => ?_
  refine D_start 7 9 (fun w => Mod (No) w) follows rfl rfl ?_  -- d1 region 1 l7_heaps.go:138
  intro w2 g2
  replace hA := hA.grow g2
  replace hB := hB.grow g2
  replace G := G.grow g2
  replace B1 := B1.grow g2
  have zg2 := g2.size
  have GS2 := Mod.refl (No) w2
  refine D_q (i := 0) rfl (by kernel_rfl) (fun _ _ _ h => h) GS2 (fun _ hs => Y_loadS Try.underlying30 rfl sz30 rfl (by first | exact hs.cells0 (by assumption) | exact hs.cells0 (B1.row (by rfl)))) ?_
  refine D_q (i := 1) rfl (by kernel_rfl) (fun _ _ _ h => h) GS2 (fun _ _ => Y_field Try.underlying30 rfl fz30_1 (by decide) rfl) ?_
  refine D_q (i := 2) rfl (by kernel_rfl) (fun _ _ _ h => h) GS2 (fun _ hs => Y_load Try.underlying23 rfl rfl (by first | exact hs.cell0 (by assumption) | exact hs.cell0 (B1.at (by rfl)))) ?_
  refine D_q (i := 3) rfl (by kernel_rfl) (fun _ _ _ h => h) GS2 (fun _ hs => Y_loadS Try.underlying30 rfl sz30 rfl (by first | exact hs.cells0 (by assumption) | exact hs.cells0 (B1.row (by rfl)))) ?_
  refine D_1 (i := 4) (by kernel_rfl) ?_
  refine E_call rfl rfl en73 (impl_usedSet_c _ _ _ _ _ _ _ (by assumption) (by omega)) ?_  -- k1 impl.usedSet
  rintro v3 w3 ⟨s3, rfl, hs3, g3⟩
  replace hA := hA.grow g3
  replace hB := hB.grow g3
  replace G := G.grow g3
  replace GS2 := GS2.grow g3
  replace B1 := B1.grow g3
  have zg3 := g3.size
  refine ⟨GS2, ?_⟩
  refine D_1 (i := 5) (by kernel_rfl) ?_
  refine E_call rfl rfl en106 (impl_closure_c _ _ _ _ _ _ _ _ _ _ _ _ (by assumption) (by assumption) (by omega) (by omega) hs3.1 hs3.lt (by omega)) ?_  -- k2 impl.closure
  rintro v4 w4 ⟨s4, rfl, hs4, hr4, g4⟩
  replace hA := hA.grow g4
  replace hB := hB.grow g4
  replace G := G.grow g4
  replace GS2 := GS2.grow g4
  replace B1 := B1.grow g4
  have zg4 := g4.size
  refine ⟨GS2, ?_⟩
  refine D_q (i := 6) rfl (by kernel_rfl) (fun _ _ _ h => h) GS2 (fun _ _ => Y_assign rfl) ?_
  refine D_end (L' := (_ :: _ :: _ :: _ :: _ :: _ :: _ :: _ :: _ :: [])) (by kernel_rfl) rfl rfl ?_
  refine th_n ?_
  refine hK2 _ _ ?_
  clear hK2 K2
  refine wp_ret ?_
  refine ret_r1 rfl rfl ?_  -- r1
  exact ⟨_, rfl, hs4, list_eq va.leads va.leadsU hs3 hr4, G⟩

set_option maxHeartbeats 400000 in
set_option maxRecDepth 20000 in
theorem impl_Reachable_c (Pr : Nat → Prop) (A B : Option Addr) (h : LH) (c d : Nat) (w : World) (hA : RC Pr w A h.cells) (hB : R1 Pr w B (ints h.roots)) (hz : hsize h ≤ 1048576) :
    Calls Try.prog 41 #[.agg #[.slice A h.cells.length c, .slice B h.roots.length d]] w (Ret fun v w' => ∃ A1 q cap, v = .slice A1 q cap ∧ q = (reachV h).length ∧ OI (fun i => w.heap.size ≤ i) w' 4 A1 (bools (reachV h)) ∧ Grow w w') := by
  refine enter Try.func41 rfl Try.ntmps41 (L := (_ :: _ :: _ :: _ :: _ :: _ :: _ :: _ :: _ :: _ :: _ :: _ :: [])) rfl ?_
  have G := Mod.refl No w
  have hA0 := hA
  have hB0 := hB
  refine wp_seq_k fun K1 hK1 => ?_
  refine wp_region_lit ?_  -- region 0 l7_heaps.go:141
  refine S_beg 12 rfl ?_
  refine S_box (cs := [_, _]) rfl rfl ?_
  intro b1 w1 fb1 g1 B1
  have lb1 := B1.lt
  replace hA := hA.grow g1
  replace hB := hB.grow g1
  replace G := G.grow g1
  have zg1 := g1.size
  refine S_val (Y_assign rfl) ?_
  refine S_nil (L' := (_ :: _ :: _ :: _ :: _ :: _ :: _ :: _ :: _ :: _ :: _ :: _ :: [])) rfl rfl ?_
  refine th_n ?_
  refine hK1 _ _ ?_
  clear hK1 K1
  refine wp_seq_k fun K2 hK2 => ?_
  refine wp_seq_k fun K3 hK3 => ?_
  refine wp_region_lit ?_  -- region 1 l7_heaps.go:142
  refine S_beg 12 rfl ?_
  refine S_val (Y_loadS Try.underlying30 rfl sz30 rfl (by first | assumption | exact B1.row (by rfl))) ?_  -- l1
  refine S_call rfl en60 (impl_HeapValid_c _ _ _ _ _ _ _ (by assumption) (by assumption) (by omega)) ?_  -- k1 impl.HeapValid
  rintro v2 w2 ⟨rfl, g2⟩
  replace hA := hA.grow g2
  replace hB := hB.grow g2
  replace G := G.grow g2
  replace B1 := B1.grow g2
  have zg2 := g2.size
  refine S_val (Y_not rfl) ?_
  refine S_nil (L' := (_ :: _ :: _ :: _ :: _ :: _ :: _ :: _ :: _ :: _ :: _ :: _ :: [])) rfl rfl ?_
  refine th_n ?_
  refine hK3 _ _ ?_
  clear hK3 K3
  refine S_if rfl (fun hb1 => ?_) (fun hb1 => ?_)  -- c1
  · -- c1T
    first | with_reducible (replace hb1 := nb_nt hb1) | with_reducible (replace hb1 := nb_nf hb1) | with_reducible (replace hb1 := nb_tt hb1) | with_reducible (replace hb1 := nb_tf hb1) | with_reducible (replace hb1 := nb_bt hb1) | with_reducible (replace hb1 := nb_bf hb1) | skip
    refine wp_seq_k fun K4 hK4 => ?_
    refine wp_region_lit ?_  -- region 2 l7_heaps.go:143
    refine S_beg 12 rfl ?_
    refine S_val (Y_assign rfl) ?_
    refine S_nil (L' := (_ :: _ :: _ :: _ :: _ :: _ :: _ :: _ :: _ :: _ :: _ :: _ :: [])) rfl rfl ?_
    refine th_n ?_
    refine hK4 _ _ ?_
    clear hK4 K4
    refine wp_ret ?_
    refine th_r ?_
    clear hK2 K2
    refine ret_r1 rfl rfl ?_  -- r1
    exact ⟨_, _, _, rfl, by rw [reachV_f hb1]; rfl, by rw [reachV_f hb1]; exact OI.nil _ _ _ _, G⟩
  · -- c1F
    first | with_reducible (replace hb1 := nb_nt hb1) | with_reducible (replace hb1 := nb_nf hb1) | with_reducible (replace hb1 := nb_tt hb1) | with_reducible (replace hb1 := nb_tf hb1) | with_reducible (replace hb1 := nb_bt hb1) | with_reducible (replace hb1 := nb_bf hb1) | skip
    have va := valid_iff.1 hb1
    have hl := va.leads
    have h40 := va.le
    have hr4 := va.roots4
    have hrl := reachV_len hb1
    refine wp_skip ?_
    refine th_n ?_
    refine hK2 _ _ ?_
    clear hK2 K2
    refine wp_seq_k fun K5 hK5 => ?_
    refine D_start 7 12 (fun w => Mod (No) w) follows rfl rfl ?_  -- d1 region 3 l7_heaps.go:145
    intro w3 g3
    replace hA := hA.grow g3
    replace hB := hB.grow g3
    replace G := G.grow g3
    replace B1 := B1.grow g3
    have zg3 := g3.size
    have GS3 := Mod.refl (No) w3
    refine D_q (i := 0) rfl (by kernel_rfl) (fun _ _ _ h => h) GS3 (fun _ hs => Y_loadS Try.underlying30 rfl sz30 rfl (by first | exact hs.cells0 (by assumption) | exact hs.cells0 (B1.row (by rfl)))) ?_
    refine D_q (i := 2) rfl (by kernel_rfl) (fun _ _ _ h => h) GS3 (fun _ _ => Y_field Try.underlying30 rfl fz30_0 (by decide) rfl) ?_
    refine D_q (i := 3) rfl (by kernel_rfl) (fun _ _ _ h => h) GS3 (fun _ hs => Y_load Try.underlying28 rfl rfl (by first | exact hs.cell0 (by assumption) | exact hs.cell0 (B1.at (by rfl)))) ?_
    refine D_q (i := 4) rfl (by kernel_rfl) (fun _ _ _ h => h) GS3 (fun _ _ => Y_len Try.underlying28 rfl) ?_
    refine D_1 (i := 1) (by kernel_rfl) ?_
    refine E_call rfl rfl en77 (impl_reachable_c _ _ _ _ _ _ _ (by assumption) (by assumption) (by omega) (by assumption)) ?_  -- k2 impl.reachable
    rintro v4 w4 ⟨s4, rfl, hs4, hr4, g4⟩
    replace hA := hA.grow g4
    replace hB := hB.grow g4
    replace G := G.grow g4
    replace GS3 := GS3.grow g4
    replace B1 := B1.grow g4
    have zg4 := g4.size
    refine ⟨GS3, ?_⟩
    refine D_1 (i := 5) (by kernel_rfl) ?_
    refine E_call rfl rfl en74 (impl_cellSet_list_c _ _ _ (by first | assumption | exact SetOf.wlt (by assumption)) (by omega)) ?_  -- k3 (impl.cellSet).list
    rintro v5 w5 ⟨b5, rfl, fb5, B5, g5⟩
    replace hA := hA.grow g5
    replace hB := hB.grow g5
    replace G := G.grow g5
    replace GS3 := GS3.grow g5
    replace B1 := B1.grow g5
    have zg5 := g5.size
    have lb5 := B5.lt
    refine ⟨GS3, ?_⟩
    refine D_q (i := 6) rfl (by kernel_rfl) (fun _ _ _ h => h) GS3 (fun _ _ => Y_assign rfl) ?_
    refine D_end (L' := (_ :: _ :: _ :: _ :: _ :: _ :: _ :: _ :: _ :: _ :: _ :: _ :: [])) (by kernel_rfl) rfl rfl ?_
    refine th_n ?_
    refine hK5 _ _ ?_
    clear hK5 K5
    refine wp_ret ?_
    refine ret_r1 rfl rfl ?_  -- r2
    exact ⟨_, _, _, rfl, hrl.symm, by rw [reachV_t hb1, ← (by assumption : listB _ h.cells.length = mB h.cells.length (orderL h.cells h.roots nn))]; exact OI.of_blk' (by assumption) (by omega), G⟩

set_option maxHeartbeats 400000 in
set_option maxRecDepth 20000 in
theorem spec_Reachable_c (Pr : Nat → Prop) (A B : Option Addr) (h : LH) (c d : Nat) (w : World) (hA : RC Pr w A h.cells) (hB : R1 Pr w B (ints h.roots)) (hz : hsize h ≤ 1048576) :
    Calls Try.prog 40 #[.agg #[.slice A h.cells.length c, .slice B h.roots.length d]] w (Ret fun v w' => ∃ A1 q cap, v = .slice A1 q cap ∧ q = (reachV h).length ∧ OI (fun i => w.heap.size ≤ i) w' 4 A1 (bools (reachV h)) ∧ Grow w w') := by
  refine enter Try.func40 rfl Try.ntmps40 (L := (_ :: _ :: _ :: _ :: _ :: _ :: _ :: _ :: _ :: _ :: _ :: [])) rfl ?_
  have G := Mod.refl No w
  have hA0 := hA
  have hB0 := hB
  refine wp_seq_k fun K1 hK1 => ?_
  refine wp_region_lit ?_  -- region 0 l7_heaps.go:67
  refine S_beg 11 rfl ?_
  refine S_box (cs := [_, _]) rfl rfl ?_
  intro b1 w1 fb1 g1 B1
  have lb1 := B1.lt
  replace hA := hA.grow g1
  replace hB := hB.grow g1
  replace G := G.grow g1
  have zg1 := g1.size
  refine S_val (Y_assign rfl) ?_
  refine S_nil (L' := (_ :: _ :: _ :: _ :: _ :: _ :: _ :: _ :: _ :: _ :: _ :: [])) rfl rfl ?_
  refine th_n ?_
  refine hK1 _ _ ?_
  clear hK1 K1
  refine wp_seq_k fun K2 hK2 => ?_
  refine wp_seq_k fun K3 hK3 => ?_
  refine wp_region_lit ?_  -- region 1 l7_heaps.go:68
  refine S_beg 11 rfl ?_
  refine S_val (Y_loadS Try.underlying30 rfl sz30 rfl (by first | assumption | exact B1.row (by rfl))) ?_  -- l1
  refine S_call rfl en56 (spec_HeapValid_c _ _ _ _ _ _ _ (by assumption) (by assumption) (by omega)) ?_  -- k1 spec.HeapValid
  rintro v2 w2 ⟨rfl, g2⟩
  replace hA := hA.grow g2
  replace hB := hB.grow g2
  replace G := G.grow g2
  replace B1 := B1.grow g2
  have zg2 := g2.size
  refine S_val (Y_not rfl) ?_
  refine S_nil (L' := (_ :: _ :: _ :: _ :: _ :: _ :: _ :: _ :: _ :: _ :: _ :: [])) rfl rfl ?_
  refine th_n ?_
  refine hK3 _ _ ?_
  clear hK3 K3
  refine S_if rfl (fun hb1 => ?_) (fun hb1 => ?_)  -- c1
  · -- c1T
    first | with_reducible (replace hb1 := nb_nt hb1) | with_reducible (replace hb1 := nb_nf hb1) | with_reducible (replace hb1 := nb_tt hb1) | with_reducible (replace hb1 := nb_tf hb1) | with_reducible (replace hb1 := nb_bt hb1) | with_reducible (replace hb1 := nb_bf hb1) | skip
    refine wp_seq_k fun K4 hK4 => ?_
    refine wp_region_lit ?_  -- region 2 l7_heaps.go:69
    refine S_beg 11 rfl ?_
    refine S_bs0 Try.underlying55 sz4 ?_
    intro b3 w3 fb3 g3 B3
    have lb3 := B3.lt
    replace hA := hA.grow g3
    replace hB := hB.grow g3
    replace G := G.grow g3
    replace B1 := B1.grow g3
    have zg3 := g3.size
    refine S_val (Y_assign rfl) ?_
    refine S_nil (L' := (_ :: _ :: _ :: _ :: _ :: _ :: _ :: _ :: _ :: _ :: _ :: [])) rfl rfl ?_
    refine th_n ?_
    refine hK4 _ _ ?_
    clear hK4 K4
    refine wp_ret ?_
    refine th_r ?_
    clear hK2 K2
    refine ret_r1 rfl rfl ?_  -- r1
    exact ⟨_, _, _, rfl, by rw [reachV_f hb1]; rfl, by rw [reachV_f hb1]; exact OI.nil _ _ _ _, G⟩
  · -- c1F
    first | with_reducible (replace hb1 := nb_nt hb1) | with_reducible (replace hb1 := nb_nf hb1) | with_reducible (replace hb1 := nb_tt hb1) | with_reducible (replace hb1 := nb_tf hb1) | with_reducible (replace hb1 := nb_bt hb1) | with_reducible (replace hb1 := nb_bf hb1) | skip
    have va := valid_iff.1 hb1
    have hl := va.leads
    have h40 := va.le
    have hr4 := va.roots4
    have hrl := reachV_len hb1
    refine wp_skip ?_
    refine th_n ?_
    refine hK2 _ _ ?_
    clear hK2 K2
    refine wp_seq_k fun K5 hK5 => ?_
    refine wp_region_lit ?_  -- region 3 l7_heaps.go:71
    refine S_beg 11 rfl ?_
    refine S_val (Y_loadS Try.underlying30 rfl sz30 rfl (by first | assumption | exact B1.row (by rfl))) ?_  -- l2
    refine S_val (Y_field Try.underlying30 rfl fz30_1 (by decide) rfl) ?_
    refine S_val (Y_load Try.underlying23 rfl rfl (by first | assumption | exact B1.at (by rfl))) ?_  -- l3
    refine S_call rfl en71 (spec_l7Reach_c _ _ _ _ _ _ _ _ _ _ _ (by assumption) (by assumption) (by omega) (by omega) (by assumption)) ?_  -- k2 spec.l7Reach
    rintro v4 w4 ⟨b4, rfl, fb4, B4, g4⟩
    replace hA := hA.grow g4
    replace hB := hB.grow g4
    replace G := G.grow g4
    replace B1 := B1.grow g4
    have zg4 := g4.size
    have lb4 := B4.lt
    refine S_val (Y_assign rfl) ?_
    refine S_nil (L' := (_ :: _ :: _ :: _ :: _ :: _ :: _ :: _ :: _ :: _ :: _ :: [])) rfl rfl ?_
    refine th_n ?_
    refine hK5 _ _ ?_
    clear hK5 K5
    refine wp_ret ?_
    refine ret_r1 rfl rfl ?_  -- r2
    exact ⟨_, _, _, rfl, hrl.symm, by rw [reachV_t hb1]; exact OI.of_blk' (by assumption) (by omega), G⟩

set_option maxHeartbeats 400000 in
set_option maxRecDepth 20000 in
theorem impl_UsedCells_c (Pr : Nat → Prop) (A B : Option Addr) (h : LH) (c d : Nat) (w : World) (hA : RC Pr w A h.cells) (hB : R1 Pr w B (ints h.roots)) (hz : hsize h ≤ 1048576) :
    Calls Try.prog 33 #[.agg #[.slice A h.cells.length c, .slice B h.roots.length d]] w (Ret fun v w' => v = .tuple #[.int .i64 (usedV h).1, .int .i64 (usedV h).2] ∧ Grow w w') := by
  refine enter Try.func33 rfl Try.ntmps33 (L := (_ :: _ :: _ :: _ :: _ :: _ :: _ :: _ :: _ :: _ :: _ :: _ :: _ :: _ :: _ :: _ :: _ :: [])) rfl ?_
  have G := Mod.refl No w
  have hA0 := hA
  have hB0 := hB
  refine wp_seq_k fun K1 hK1 => ?_
  refine wp_region_lit ?_  -- region 0 l7_heaps.go:160
  refine S_beg 17 rfl ?_
  refine S_box (cs := [_, _]) rfl rfl ?_
  intro b1 w1 fb1 g1 B1
  have lb1 := B1.lt
  replace hA := hA.grow g1
  replace hB := hB.grow g1
  replace G := G.grow g1
  have zg1 := g1.size
  refine S_val (Y_assign rfl) ?_
  refine S_val (Y_assign rfl) ?_
  refine S_nil (L' := (_ :: _ :: _ :: _ :: _ :: _ :: _ :: _ :: _ :: _ :: _ :: _ :: _ :: _ :: _ :: _ :: _ :: [])) rfl rfl ?_
  refine th_n ?_
  refine hK1 _ _ ?_
  clear hK1 K1
  refine wp_seq_k fun K2 hK2 => ?_
  refine wp_seq_k fun K3 hK3 => ?_
  refine wp_region_lit ?_  -- region 1 l7_heaps.go:161
  refine S_beg 17 rfl ?_
  refine S_val (Y_loadS Try.underlying30 rfl sz30 rfl (by first | assumption | exact B1.row (by rfl))) ?_  -- l1
  refine S_call rfl en60 (impl_HeapValid_c _ _ _ _ _ _ _ (by assumption) (by assumption) (by omega)) ?_  -- k1 impl.HeapValid
  rintro v2 w2 ⟨rfl, g2⟩
  replace hA := hA.grow g2
  replace hB := hB.grow g2
  replace G := G.grow g2
  replace B1 := B1.grow g2
  have zg2 := g2.size
  refine S_val (Y_not rfl) ?_
  refine S_nil (L' := (_ :: _ :: _ :: _ :: _ :: _ :: _ :: _ :: _ :: _ :: _ :: _ :: _ :: _ :: _ :: _ :: _ :: [])) rfl rfl ?_
  refine th_n ?_
  refine hK3 _ _ ?_
  clear hK3 K3
  refine S_if rfl (fun hb1 => ?_) (fun hb1 => ?_)  -- c1
  · -- c1T
    first | with_reducible (replace hb1 := nb_nt hb1) | with_reducible (replace hb1 := nb_nf hb1) | with_reducible (replace hb1 := nb_tt hb1) | with_reducible (replace hb1 := nb_tf hb1) | with_reducible (replace hb1 := nb_bt hb1) | with_reducible (replace hb1 := nb_bf hb1) | skip
    refine wp_seq_k fun K4 hK4 => ?_
    refine wp_region_lit ?_  -- region 2 l7_heaps.go:162
    refine S_beg 17 rfl ?_
    refine S_val (Y_assign rfl) ?_
    refine S_val (Y_assign rfl) ?_
    refine S_nil (L' := (_ :: _ :: _ :: _ :: _ :: _ :: _ :: _ :: _ :: _ :: _ :: _ :: _ :: _ :: _ :: _ :: _ :: [])) rfl rfl ?_
    refine th_n ?_
    refine hK4 _ _ ?_
    clear hK4 K4
    refine wp_ret ?_
    refine th_r ?_
    clear hK2 K2
    refine ret_r2 rfl rfl rfl ?_  -- r1
    exact ⟨by rw [usedV_f hb1], G⟩
  · -- c1F
    first | with_reducible (replace hb1 := nb_nt hb1) | with_reducible (replace hb1 := nb_nf hb1) | with_reducible (replace hb1 := nb_tt hb1) | with_reducible (replace hb1 := nb_tf hb1) | with_reducible (replace hb1 := nb_bt hb1) | with_reducible (replace hb1 := nb_bf hb1) | skip
    have va := valid_iff.1 hb1
    have hl := va.leads
    have h40 := va.le
    have hr4 := va.roots4
    have hrl := reachV_len hb1
    refine wp_skip ?_
    refine th_n ?_
    refine hK2 _ _ ?_
    clear hK2 K2
    refine wp_seq_k fun K5 hK5 => ?_
    refine D_start 12 17 (fun w => Mod (No) w) follows rfl rfl ?_  -- d1 region 3 l7_heaps.go:164
    intro w3 g3
    replace hA := hA.grow g3
    replace hB := hB.grow g3
    replace G := G.grow g3
    replace B1 := B1.grow g3
    have zg3 := g3.size
    have GS3 := Mod.refl (No) w3
    refine D_q (i := 0) rfl (by kernel_rfl) (fun _ _ _ h => h) GS3 (fun _ hs => Y_loadS Try.underlying30 rfl sz30 rfl (by first | exact hs.cells0 (by assumption) | exact hs.cells0 (B1.row (by rfl)))) ?_
    refine D_q (i := 2) rfl (by kernel_rfl) (fun _ _ _ h => h) GS3 (fun _ _ => Y_field Try.underlying30 rfl fz30_0 (by decide) rfl) ?_
    refine D_q (i := 3) rfl (by kernel_rfl) (fun _ _ _ h => h) GS3 (fun _ hs => Y_load Try.underlying28 rfl rfl (by first | exact hs.cell0 (by assumption) | exact hs.cell0 (B1.at (by rfl)))) ?_
    refine D_q (i := 4) rfl (by kernel_rfl) (fun _ _ _ h => h) GS3 (fun _ _ => Y_len Try.underlying28 rfl) ?_
    refine D_q (i := 7) rfl (by kernel_rfl) (fun _ _ _ h => h) GS3 (fun _ hs => Y_loadS Try.underlying30 rfl sz30 rfl (by first | exact hs.cells0 (by assumption) | exact hs.cells0 (B1.row (by rfl)))) ?_
    refine D_1 (i := 1) (by kernel_rfl) ?_
    refine E_call rfl rfl en73 (impl_usedSet_c _ _ _ _ _ _ _ (by assumption) (by omega)) ?_  -- k2 impl.usedSet
    rintro v4 w4 ⟨s4, rfl, hs4, g4⟩
    replace hA := hA.grow g4
    replace hB := hB.grow g4
    replace G := G.grow g4
    replace GS3 := GS3.grow g4
    replace B1 := B1.grow g4
    have zg4 := g4.size
    refine ⟨GS3, ?_⟩
    refine D_1 (i := 5) (by kernel_rfl) ?_
    refine E_call rfl rfl en74 (impl_cellSet_list_c _ _ _ (by first | assumption | exact SetOf.wlt (by assumption)) (by omega)) ?_  -- k3 (impl.cellSet).list
    rintro v5 w5 ⟨b5, rfl, fb5, B5, g5⟩
    replace hA := hA.grow g5
    replace hB := hB.grow g5
    replace G := G.grow g5
    replace GS3 := GS3.grow g5
    replace B1 := B1.grow g5
    have zg5 := g5.size
    have lb5 := B5.lt
    refine ⟨GS3, ?_⟩
    refine D_1 (i := 6) (by kernel_rfl) ?_
    refine E_call rfl rfl en72 (impl_count_c (fun _ => True) _ _ _ _ _ (by first | exact R1.of_blk0 (by assumption) | exact (OI.r1 (by assumption)).weak (fun _ _ => trivial)) (by first | exact listB_len _ _ | exact Eq.symm (by assumption)) (by omega)) ?_  -- k4 impl.count
    rintro v6 w6 ⟨rfl, g6⟩
    replace hA := hA.grow g6
    replace hB := hB.grow g6
    replace G := G.grow g6
    replace GS3 := GS3.grow g6
    replace B1 := B1.grow g6
    replace B5 := B5.grow g6
    have zg6 := g6.size
    refine ⟨GS3, ?_⟩
    refine D_1 (i := 8) (by kernel_rfl) ?_
    refine E_call rfl rfl en41 (impl_Reachable_c _ _ _ _ _ _ _ (by assumption) (by assumption) (by omega)) ?_  -- k5 impl.Reachable
    rintro v7 w7 ⟨A7, q7, cap7, rfl, hq7, O7, g7⟩
    replace hA := hA.grow g7
    replace hB := hB.grow g7
    replace G := G.grow g7
    replace GS3 := GS3.grow g7
    replace B1 := B1.grow g7
    replace B5 := B5.grow g7
    have zg7 := g7.size
    refine ⟨GS3, ?_⟩
    refine D_1 (i := 9) (by kernel_rfl) ?_
    refine E_call rfl rfl en72 (impl_count_c (fun _ => True) _ _ _ _ _ (by first | exact R1.of_blk0 (by assumption) | exact (OI.r1 (by assumption)).weak (fun _ _ => trivial)) (by first | exact listB_len _ _ | exact Eq.symm (by assumption)) (by omega)) ?_  -- k6 impl.count
    rintro v8 w8 ⟨rfl, g8⟩
    replace hA := hA.grow g8
    replace hB := hB.grow g8
    replace O7 := O7.grow g8
    replace G := G.grow g8
    replace GS3 := GS3.grow g8
    replace B1 := B1.grow g8
    replace B5 := B5.grow g8
    have zg8 := g8.size
    refine ⟨GS3, ?_⟩
    refine D_q (i := 10) rfl (by kernel_rfl) (fun _ _ _ h => h) GS3 (fun _ _ => Y_assign rfl) ?_
    refine D_q (i := 11) rfl (by kernel_rfl) (fun _ _ _ h => h) GS3 (fun _ _ => Y_assign rfl) ?_
    refine D_end (L' := (_ :: _ :: _ :: _ :: _ :: _ :: _ :: _ :: _ :: _ :: _ :: _ :: _ :: _ :: _ :: _ :: _ :: [])) (by kernel_rfl) rfl rfl ?_
    refine th_n ?_
    refine hK5 _ _ ?_
    clear hK5 K5
    refine wp_ret ?_
    refine ret_r2 rfl rfl rfl ?_  -- r2
    exact ⟨by rw [usedV_t hb1, ← usedL_list (by assumption : SetOf _ (usedL h.cells))], G⟩

set_option maxHeartbeats 400000 in
set_option maxRecDepth 20000 in
theorem spec_UsedCells_c (Pr : Nat → Prop) (A B : Option Addr) (h : LH) (c d : Nat) (w : World) (hA : RC Pr w A h.cells) (hB : R1 Pr w B (ints h.roots)) (hz : hsize h ≤ 1048576) :
    Calls Try.prog 32 #[.agg #[.slice A h.cells.length c, .slice B h.roots.length d]] w (Ret fun v w' => v = .tuple #[.int .i64 (usedV h).1, .int .i64 (usedV h).2] ∧ Grow w w') := by
  refine enter Try.func32 rfl Try.ntmps32 (L := (_ :: _ :: _ :: _ :: _ :: _ :: _ :: _ :: _ :: _ :: _ :: _ :: _ :: _ :: _ :: _ :: _ :: _ :: _ :: _ :: _ :: _ :: _ :: _ :: _ :: _ :: _ :: _ :: _ :: _ :: _ :: _ :: _ :: _ :: _ :: _ :: _ :: _ :: [])) rfl ?_
  have G := Mod.refl No w
  have hA0 := hA
  have hB0 := hB
  refine wp_seq_k fun K1 hK1 => ?_
  refine wp_region_lit ?_  -- region 0 l7_heaps.go:75
  refine S_beg 38 rfl ?_
  refine S_box (cs := [_, _]) rfl rfl ?_
  intro b1 w1 fb1 g1 B1
  have lb1 := B1.lt
  replace hA := hA.grow g1
  replace hB := hB.grow g1
  replace G := G.grow g1
  have zg1 := g1.size
  refine S_val (Y_assign rfl) ?_
  refine S_val (Y_assign rfl) ?_
  refine S_nil (L' := (_ :: _ :: _ :: _ :: _ :: _ :: _ :: _ :: _ :: _ :: _ :: _ :: _ :: _ :: _ :: _ :: _ :: _ :: _ :: _ :: _ :: _ :: _ :: _ :: _ :: _ :: _ :: _ :: _ :: _ :: _ :: _ :: _ :: _ :: _ :: _ :: _ :: _ :: [])) rfl rfl ?_
  refine th_n ?_
  refine hK1 _ _ ?_
  clear hK1 K1
  refine wp_seq_k fun K2 hK2 => ?_
  refine wp_seq_k fun K3 hK3 => ?_
  refine wp_region_lit ?_  -- region 1 l7_heaps.go:76
  refine S_beg 38 rfl ?_
  refine S_val (Y_loadS Try.underlying30 rfl sz30 rfl (by first | assumption | exact B1.row (by rfl))) ?_  -- l1
  refine S_call rfl en56 (spec_HeapValid_c _ _ _ _ _ _ _ (by assumption) (by assumption) (by omega)) ?_  -- k1 spec.HeapValid
  rintro v2 w2 ⟨rfl, g2⟩
  replace hA := hA.grow g2
  replace hB := hB.grow g2
  replace G := G.grow g2
  replace B1 := B1.grow g2
  have zg2 := g2.size
  refine S_val (Y_not rfl) ?_
  refine S_nil (L' := (_ :: _ :: _ :: _ :: _ :: _ :: _ :: _ :: _ :: _ :: _ :: _ :: _ :: _ :: _ :: _ :: _ :: _ :: _ :: _ :: _ :: _ :: _ :: _ :: _ :: _ :: _ :: _ :: _ :: _ :: _ :: _ :: _ :: _ :: _ :: _ :: _ :: _ :: [])) rfl rfl ?_
  refine th_n ?_
  refine hK3 _ _ ?_
  clear hK3 K3
  refine S_if rfl (fun hb1 => ?_) (fun hb1 => ?_)  -- c1
  · -- c1T
    first | with_reducible (replace hb1 := nb_nt hb1) | with_reducible (replace hb1 := nb_nf hb1) | with_reducible (replace hb1 := nb_tt hb1) | with_reducible (replace hb1 := nb_tf hb1) | with_reducible (replace hb1 := nb_bt hb1) | with_reducible (replace hb1 := nb_bf hb1) | skip
    refine wp_seq_k fun K4 hK4 => ?_
    refine wp_region_lit ?_  -- region 2 l7_heaps.go:77
    refine S_beg 38 rfl ?_
    refine S_val (Y_assign rfl) ?_
    refine S_val (Y_assign rfl) ?_
    refine S_nil (L' := (_ :: _ :: _ :: _ :: _ :: _ :: _ :: _ :: _ :: _ :: _ :: _ :: _ :: _ :: _ :: _ :: _ :: _ :: _ :: _ :: _ :: _ :: _ :: _ :: _ :: _ :: _ :: _ :: _ :: _ :: _ :: _ :: _ :: _ :: _ :: _ :: _ :: _ :: [])) rfl rfl ?_
    refine th_n ?_
    refine hK4 _ _ ?_
    clear hK4 K4
    refine wp_ret ?_
    refine th_r ?_
    clear hK2 K2
    refine ret_r2 rfl rfl rfl ?_  -- r1
    exact ⟨by rw [usedV_f hb1], G⟩
  · -- c1F
    first | with_reducible (replace hb1 := nb_nt hb1) | with_reducible (replace hb1 := nb_nf hb1) | with_reducible (replace hb1 := nb_tt hb1) | with_reducible (replace hb1 := nb_tf hb1) | with_reducible (replace hb1 := nb_bt hb1) | with_reducible (replace hb1 := nb_bf hb1) | skip
    have va := valid_iff.1 hb1
    have hl := va.leads
    have h40 := va.le
    have hr4 := va.roots4
    have hrl := reachV_len hb1
    refine wp_skip ?_
    refine th_n ?_
    refine hK2 _ _ ?_
    clear hK2 K2
    refine wp_seq_k fun K5 hK5 => ?_
    refine wp_region_lit ?_  -- region 3 l7_heaps.go:79
    refine S_beg 38 rfl ?_
    refine S_val (Y_assign rfl) ?_
    refine S_nil (L' := (_ :: _ :: _ :: _ :: _ :: _ :: _ :: _ :: _ :: _ :: _ :: _ :: _ :: _ :: _ :: _ :: _ :: _ :: _ :: _ :: _ :: _ :: _ :: _ :: _ :: _ :: _ :: _ :: _ :: _ :: _ :: _ :: _ :: _ :: _ :: _ :: _ :: _ :: [])) rfl rfl ?_
    refine th_n ?_
    refine hK5 _ _ ?_
    clear hK5 K5
    refine wp_seq_k fun K6 hK6 => ?_
    refine wp_region_lit ?_  -- region 4 l7_heaps.go:80
    refine S_beg 38 rfl ?_
    refine S_val (Y_assign rfl) ?_
    refine S_nil (L' := (_ :: _ :: _ :: _ :: _ :: _ :: _ :: _ :: _ :: _ :: _ :: _ :: _ :: _ :: _ :: _ :: _ :: _ :: _ :: _ :: _ :: _ :: _ :: _ :: _ :: _ :: _ :: _ :: _ :: _ :: _ :: _ :: _ :: _ :: _ :: _ :: _ :: _ :: [])) rfl rfl ?_
    refine th_n ?_
    refine hK6 _ _ ?_
    clear hK6 K6
    refine wp_seq_k fun K7 hK7 => ?_
    refine wp_region_lit ?_  -- region 5 l7_heaps.go:81
    refine S_beg 38 rfl ?_
    refine S_val (Y_loadS Try.underlying30 rfl sz30 rfl (by first | assumption | exact B1.row (by rfl))) ?_  -- l2
    refine S_val (Y_field Try.underlying30 rfl fz30_1 (by decide) rfl) ?_
    refine S_val (Y_load Try.underlying23 rfl rfl (by first | assumption | exact B1.at (by rfl))) ?_  -- l3
    refine S_call rfl en71 (spec_l7Reach_c _ _ _ _ _ _ _ _ _ _ _ (by assumption) (by assumption) (by omega) (by omega) (by assumption)) ?_  -- k2 spec.l7Reach
    rintro v3 w3 ⟨b3, rfl, fb3, B3, g3⟩
    replace hA := hA.grow g3
    replace hB := hB.grow g3
    replace G := G.grow g3
    replace B1 := B1.grow g3
    have zg3 := g3.size
    have lb3 := B3.lt
    have hRB : R1 (fun _ => True) w3 (some ⟨b3, 0, none⟩) (bools (reachV h)) := by rw [reachV_t hb1]; exact R1.of_blk0 B3
    refine S_val (Y_assign rfl) ?_
    refine S_nil (L' := (_ :: _ :: _ :: _ :: _ :: _ :: _ :: _ :: _ :: _ :: _ :: _ :: _ :: _ :: _ :: _ :: _ :: _ :: _ :: _ :: _ :: _ :: _ :: _ :: _ :: _ :: _ :: _ :: _ :: _ :: _ :: _ :: _ :: _ :: _ :: _ :: _ :: _ :: [])) rfl rfl ?_
    refine th_n ?_
    refine hK7 _ _ ?_
    clear hK7 K7
    refine wp_seq_k fun K8 hK8 => ?_
    refine wp_seq_k fun K9 hK9 => ?_
    refine wp_region_lit ?_  -- region 6 l7_heaps.go:82
    refine S_beg 38 rfl ?_
    refine S_val (Y_assign rfl) ?_
    refine S_nil (L' := (_ :: _ :: _ :: _ :: _ :: _ :: _ :: _ :: _ :: _ :: _ :: _ :: _ :: _ :: _ :: _ :: _ :: _ :: _ :: _ :: _ :: _ :: _ :: _ :: _ :: _ :: _ :: _ :: _ :: _ :: _ :: _ :: _ :: _ :: _ :: _ :: _ :: _ :: [])) rfl rfl ?_
    refine th_n ?_
    refine hK9 _ _ ?_
    clear hK9 K9
    refine wp_block ?_
    go_loopw [4, 5, 7] (fun u4 u5 u7 wr => (∃ k : Nat, u7 = .int .i64 k ∧ u4 = .int .i64 ((countB ((usedL h.cells).take k) : Nat) : Int) ∧ u5 = .int .i64 ((countB ((reachV h).take k) : Nat) : Int) ∧ k ≤ h.cells.length) ∧ Mod No w3 wr) (fun u4 u5 u7 wr => h.cells.length - (intOf u7).toNat)  -- L1
    case atStart =>
      refine ⟨?_, Mod.refl _ _⟩
      exact ⟨0, rfl, rfl, rfl, by omega⟩
    case round =>
      obtain ⟨w4, rfl⟩ : ∃ x : World, x = wr := ⟨_, rfl⟩
      obtain ⟨hrel, g4⟩ := hrel
      replace hA := hA.grow g4
      replace hB := hB.grow g4
      replace hRB := hRB.grow g4
      replace G := G.grow g4
      replace B1 := B1.grow g4
      replace B3 := B3.grow g4
      have zg4 := g4.size
      obtain ⟨k, rfl, rfl, rfl, hk⟩ := hrel
      have hc1 := countB_le ((usedL h.cells).take k)
      have hc2 := countB_le ((reachV h).take k)
      rw [List.length_take] at hc1 hc2
      have GL4 := g4
      refine wp_seq_k fun K10 hK10 => ?_
      refine wp_seq_k fun K11 hK11 => ?_
      refine wp_region_lit ?_  -- region 7 l7_heaps.go:82
      refine S_beg 38 rfl ?_
      refine S_val (Y_move rfl) ?_
      refine S_val (Y_field Try.underlying30 rfl fz30_0 (by decide) rfl) ?_
      refine S_val (Y_load Try.underlying28 rfl rfl (by first | assumption | exact B1.at (by rfl) | exact B3.at (by rfl))) ?_  -- l4
      refine S_val (Y_len Try.underlying28 rfl) ?_
      refine S_val (Y_lss rfl rfl) ?_
      refine S_nil (L' := (_ :: _ :: _ :: _ :: _ :: _ :: _ :: _ :: _ :: _ :: _ :: _ :: _ :: _ :: _ :: _ :: _ :: _ :: _ :: _ :: _ :: _ :: _ :: _ :: _ :: _ :: _ :: _ :: _ :: _ :: _ :: _ :: _ :: _ :: _ :: _ :: _ :: _ :: [])) rfl rfl ?_
      refine th_n ?_
      refine hK11 _ _ ?_
      clear hK11 K11
      refine S_if rfl (fun hb2 => ?_) (fun hb2 => ?_)  -- c2
      · -- c2T
        first | with_reducible (replace hb2 := nb_nt hb2) | with_reducible (replace hb2 := nb_nf hb2) | with_reducible (replace hb2 := nb_tt hb2) | with_reducible (replace hb2 := nb_tf hb2) | with_reducible (replace hb2 := nb_bt hb2) | with_reducible (replace hb2 := nb_bf hb2) | skip
        have hk1 : k < h.cells.length := by omega
        have hk3 : k < (usedL h.cells).length := by simp [usedL, hk1]
        have hk4 : k < (reachV h).length := by omega
        obtain ⟨g2, o2, E2, d2, rfl, hp2, cc20, _⟩ := hA0.cell hk1
        have cc2 := cc20.grow G
        obtain ⟨g3, o3, e3, hp3, hc3⟩ := hRB.bool hk4
        cases e3
        have hcu := countB_succ hk3
        have hcr := countB_succ hk4
        have hue : (usedL h.cells)[k] = h.cells[k].used := by simp [usedL]
        rw [hue] at hcu
        refine wp_skip ?_
        refine th_n ?_
        refine hK10 _ _ ?_
        clear hK10 K10
        refine wp_seq_k fun K12 hK12 => ?_
        refine wp_block ?_
        refine wp_seq_k fun K13 hK13 => ?_
        refine wp_seq_k fun K14 hK14 => ?_
        refine wp_region_lit ?_  -- region 9 l7_heaps.go:83
        refine S_beg 38 rfl ?_
        refine S_val (Y_field Try.underlying30 rfl fz30_0 (by decide) rfl) ?_
        refine S_val (Y_load Try.underlying28 rfl rfl (by first | assumption | exact B1.at (by rfl) | exact B3.at (by rfl) | exact cc2.at (by rfl))) ?_  -- l5
        refine S_val (Y_move rfl) ?_
        refine S_val (Y_index Try.underlying28 sz83 rfl rfl (by first | assumption | omega)) ?_
        refine S_val (Y_field Try.underlying83 rfl fz83_0 (by decide) rfl) ?_
        refine S_val (Y_load Try.underlying4 rfl rfl (by first | assumption | exact B1.at (by rfl) | exact B3.at (by rfl) | exact cc2.at (by rfl))) ?_  -- l6
        refine S_nil (L' := (_ :: _ :: _ :: _ :: _ :: _ :: _ :: _ :: _ :: _ :: _ :: _ :: _ :: _ :: _ :: _ :: _ :: _ :: _ :: _ :: _ :: _ :: _ :: _ :: _ :: _ :: _ :: _ :: _ :: _ :: _ :: _ :: _ :: _ :: _ :: _ :: _ :: _ :: [])) rfl rfl ?_
        refine th_n ?_
        refine hK14 _ _ ?_
        clear hK14 K14
        refine S_if rfl (fun hb3 => ?_) (fun hb3 => ?_)  -- c3
        · -- c3T
          first | with_reducible (replace hb3 := nb_nt hb3) | with_reducible (replace hb3 := nb_nf hb3) | with_reducible (replace hb3 := nb_tt hb3) | with_reducible (replace hb3 := nb_tf hb3) | with_reducible (replace hb3 := nb_bt hb3) | with_reducible (replace hb3 := nb_bf hb3) | skip
          refine wp_region_lit ?_  -- region 10 l7_heaps.go:84
          refine S_beg 38 rfl ?_
          refine S_val (Y_move rfl) ?_
          refine S_val (Y_inc rfl rfl (by omega)) ?_
          refine S_val (Y_assign rfl) ?_
          refine S_nil (L' := (_ :: _ :: _ :: _ :: _ :: _ :: _ :: _ :: _ :: _ :: _ :: _ :: _ :: _ :: _ :: _ :: _ :: _ :: _ :: _ :: _ :: _ :: _ :: _ :: _ :: _ :: _ :: _ :: _ :: _ :: _ :: _ :: _ :: _ :: _ :: _ :: _ :: _ :: [])) rfl rfl ?_
          refine th_n ?_
          refine hK13 _ _ ?_
          clear hK13 K13
          refine wp_seq_k fun K15 hK15 => ?_
          refine wp_region_lit ?_  -- region 11 l7_heaps.go:86
          refine S_beg 38 rfl ?_
          refine S_val (Y_move rfl) ?_
          refine S_val (Y_move rfl) ?_
          refine S_val (Y_index Try.underlying55 sz4 rfl rfl (by first | assumption | omega)) ?_
          refine S_val (Y_load Try.underlying4 rfl rfl (by first | assumption | exact B1.at (by rfl) | exact B3.at (by rfl) | exact cc2.at (by rfl))) ?_  -- l7
          refine S_nil (L' := (_ :: _ :: _ :: _ :: _ :: _ :: _ :: _ :: _ :: _ :: _ :: _ :: _ :: _ :: _ :: _ :: _ :: _ :: _ :: _ :: _ :: _ :: _ :: _ :: _ :: _ :: _ :: _ :: _ :: _ :: _ :: _ :: _ :: _ :: _ :: _ :: _ :: _ :: [])) rfl rfl ?_
          refine th_n ?_
          refine hK15 _ _ ?_
          clear hK15 K15
          refine S_if rfl (fun hb4 => ?_) (fun hb4 => ?_)  -- c4
          · -- c4T
            first | with_reducible (replace hb4 := nb_nt hb4) | with_reducible (replace hb4 := nb_nf hb4) | with_reducible (replace hb4 := nb_tt hb4) | with_reducible (replace hb4 := nb_tf hb4) | with_reducible (replace hb4 := nb_bt hb4) | with_reducible (replace hb4 := nb_bf hb4) | skip
            refine wp_region_lit ?_  -- region 12 l7_heaps.go:87
            refine S_beg 38 rfl ?_
            refine S_val (Y_move rfl) ?_
            refine S_val (Y_inc rfl rfl (by omega)) ?_
            refine S_val (Y_assign rfl) ?_
            refine S_nil (L' := (_ :: _ :: _ :: _ :: _ :: _ :: _ :: _ :: _ :: _ :: _ :: _ :: _ :: _ :: _ :: _ :: _ :: _ :: _ :: _ :: _ :: _ :: _ :: _ :: _ :: _ :: _ :: _ :: _ :: _ :: _ :: _ :: _ :: _ :: _ :: _ :: _ :: _ :: [])) rfl rfl ?_
            refine ib_n ?_
            refine th_n ?_
            refine hK12 _ _ ?_
            clear hK12 K12
            refine wp_region_lit ?_  -- region 8 l7_heaps.go:82
            refine S_beg 38 rfl ?_
            refine S_val (Y_move rfl) ?_
            refine S_val (Y_inc rfl rfl (by omega)) ?_
            refine S_val (Y_assign rfl) ?_
            refine S_nil (L' := (_ :: _ :: _ :: _ :: _ :: _ :: _ :: _ :: _ :: _ :: _ :: _ :: _ :: _ :: _ :: _ :: _ :: _ :: _ :: _ :: _ :: _ :: _ :: _ :: _ :: _ :: _ :: _ :: _ :: _ :: _ :: _ :: _ :: _ :: _ :: _ :: _ :: _ :: [])) rfl rfl ?_
            refine th_n ?_
            go_roundw  -- e1 of L1
            case rel =>
              refine ⟨?_, GL4⟩
              exact ⟨k + 1, rfl, by rw [hcu, if_pos hb3], by rw [hcr, if_pos hb4], by omega⟩
            case measure =>
              exact dec_nat (by omega)
          · -- c4F
            first | with_reducible (replace hb4 := nb_nt hb4) | with_reducible (replace hb4 := nb_nf hb4) | with_reducible (replace hb4 := nb_tt hb4) | with_reducible (replace hb4 := nb_tf hb4) | with_reducible (replace hb4 := nb_bt hb4) | with_reducible (replace hb4 := nb_bf hb4) | skip
            refine wp_skip ?_
            refine ib_n ?_
            refine th_n ?_
            refine hK12 _ _ ?_
            clear hK12 K12
            refine wp_region_lit ?_  -- region 8 l7_heaps.go:82
            refine S_beg 38 rfl ?_
            refine S_val (Y_move rfl) ?_
            refine S_val (Y_inc rfl rfl (by omega)) ?_
            refine S_val (Y_assign rfl) ?_
            refine S_nil (L' := (_ :: _ :: _ :: _ :: _ :: _ :: _ :: _ :: _ :: _ :: _ :: _ :: _ :: _ :: _ :: _ :: _ :: _ :: _ :: _ :: _ :: _ :: _ :: _ :: _ :: _ :: _ :: _ :: _ :: _ :: _ :: _ :: _ :: _ :: _ :: _ :: _ :: _ :: [])) rfl rfl ?_
            refine th_n ?_
            go_roundw  -- e2 of L1
            case rel =>
              refine ⟨?_, GL4⟩
              exact ⟨k + 1, rfl, by rw [hcu, if_pos hb3], by rw [hcr, if_neg (by simp [hb4])]; rfl, by omega⟩
            case measure =>
              exact dec_nat (by omega)
        · -- c3F
          first | with_reducible (replace hb3 := nb_nt hb3) | with_reducible (replace hb3 := nb_nf hb3) | with_reducible (replace hb3 := nb_tt hb3) | with_reducible (replace hb3 := nb_tf hb3) | with_reducible (replace hb3 := nb_bt hb3) | with_reducible (replace hb3 := nb_bf hb3) | skip
          refine wp_skip ?_
          refine th_n ?_
          refine hK13 _ _ ?_
          clear hK13 K13
          refine wp_seq_k fun K16 hK16 => ?_
          refine wp_region_lit ?_  -- region 11 l7_heaps.go:86
          refine S_beg 38 rfl ?_
          refine S_val (Y_move rfl) ?_
          refine S_val (Y_move rfl) ?_
          refine S_val (Y_index Try.underlying55 sz4 rfl rfl (by first | assumption | omega)) ?_
          refine S_val (Y_load Try.underlying4 rfl rfl (by first | assumption | exact B1.at (by rfl) | exact B3.at (by rfl) | exact cc2.at (by rfl))) ?_  -- l8
          refine S_nil (L' := (_ :: _ :: _ :: _ :: _ :: _ :: _ :: _ :: _ :: _ :: _ :: _ :: _ :: _ :: _ :: _ :: _ :: _ :: _ :: _ :: _ :: _ :: _ :: _ :: _ :: _ :: _ :: _ :: _ :: _ :: _ :: _ :: _ :: _ :: _ :: _ :: _ :: _ :: [])) rfl rfl ?_
          refine th_n ?_
          refine hK16 _ _ ?_
          clear hK16 K16
          refine S_if rfl (fun hb4 => ?_) (fun hb4 => ?_)  -- c5
          · -- c5T
            first | with_reducible (replace hb4 := nb_nt hb4) | with_reducible (replace hb4 := nb_nf hb4) | with_reducible (replace hb4 := nb_tt hb4) | with_reducible (replace hb4 := nb_tf hb4) | with_reducible (replace hb4 := nb_bt hb4) | with_reducible (replace hb4 := nb_bf hb4) | skip
            refine wp_region_lit ?_  -- region 12 l7_heaps.go:87
            refine S_beg 38 rfl ?_
            refine S_val (Y_move rfl) ?_
            refine S_val (Y_inc rfl rfl (by omega)) ?_
            refine S_val (Y_assign rfl) ?_
            refine S_nil (L' := (_ :: _ :: _ :: _ :: _ :: _ :: _ :: _ :: _ :: _ :: _ :: _ :: _ :: _ :: _ :: _ :: _ :: _ :: _ :: _ :: _ :: _ :: _ :: _ :: _ :: _ :: _ :: _ :: _ :: _ :: _ :: _ :: _ :: _ :: _ :: _ :: _ :: _ :: [])) rfl rfl ?_
            refine ib_n ?_
            refine th_n ?_
            refine hK12 _ _ ?_
            clear hK12 K12
            refine wp_region_lit ?_  -- region 8 l7_heaps.go:82
            refine S_beg 38 rfl ?_
            refine S_val (Y_move rfl) ?_
            refine S_val (Y_inc rfl rfl (by omega)) ?_
            refine S_val (Y_assign rfl) ?_
            refine S_nil (L' := (_ :: _ :: _ :: _ :: _ :: _ :: _ :: _ :: _ :: _ :: _ :: _ :: _ :: _ :: _ :: _ :: _ :: _ :: _ :: _ :: _ :: _ :: _ :: _ :: _ :: _ :: _ :: _ :: _ :: _ :: _ :: _ :: _ :: _ :: _ :: _ :: _ :: _ :: [])) rfl rfl ?_
            refine th_n ?_
            go_roundw  -- e3 of L1
            case rel =>
              refine ⟨?_, GL4⟩
              exact ⟨k + 1, rfl, by rw [hcu, if_neg (by simp [hb3])]; rfl, by rw [hcr, if_pos hb4], by omega⟩
            case measure =>
              exact dec_nat (by omega)
          · -- c5F
            first | with_reducible (replace hb4 := nb_nt hb4) | with_reducible (replace hb4 := nb_nf hb4) | with_reducible (replace hb4 := nb_tt hb4) | with_reducible (replace hb4 := nb_tf hb4) | with_reducible (replace hb4 := nb_bt hb4) | with_reducible (replace hb4 := nb_bf hb4) | skip
            refine wp_skip ?_
            refine ib_n ?_
            refine th_n ?_
            refine hK12 _ _ ?_
            clear hK12 K12
            refine wp_region_lit ?_  -- region 8 l7_heaps.go:82
            refine S_beg 38 rfl ?_
            refine S_val (Y_move rfl) ?_
            refine S_val (Y_inc rfl rfl (by omega)) ?_
            refine S_val (Y_assign rfl) ?_
            refine S_nil (L' := (_ :: _ :: _ :: _ :: _ :: _ :: _ :: _ :: _ :: _ :: _ :: _ :: _ :: _ :: _ :: _ :: _ :: _ :: _ :: _ :: _ :: _ :: _ :: _ :: _ :: _ :: _ :: _ :: _ :: _ :: _ :: _ :: _ :: _ :: _ :: _ :: _ :: _ :: [])) rfl rfl ?_
            refine th_n ?_
            go_roundw  -- e4 of L1
            case rel =>
              refine ⟨?_, GL4⟩
              exact ⟨k + 1, rfl, by rw [hcu, if_neg (by simp [hb3])]; rfl, by rw [hcr, if_neg (by simp [hb4])]; rfl, by omega⟩
            case measure =>
              exact dec_nat (by omega)
      · -- c2F
        first | with_reducible (replace hb2 := nb_nt hb2) | with_reducible (replace hb2 := nb_nf hb2) | with_reducible (replace hb2 := nb_tt hb2) | with_reducible (replace hb2 := nb_tf hb2) | with_reducible (replace hb2 := nb_bt hb2) | with_reducible (replace hb2 := nb_bf hb2) | skip
        refine wp_exit ?_
        refine th_x ?_
        clear GL4
        refine th_x ?_
        refine ib_e ?_
        refine th_n ?_
        refine hK8 _ _ ?_
        clear hK10 K10 hK8 K8
        refine wp_seq_k fun K17 hK17 => ?_
        refine wp_region_lit ?_  -- region 13 l7_heaps.go:90
        refine S_beg 38 rfl ?_
        refine S_val (Y_move rfl) ?_
        refine S_val (Y_move rfl) ?_
        refine S_val (Y_assign rfl) ?_
        refine S_val (Y_assign rfl) ?_
        refine S_nil (L' := (_ :: _ :: _ :: _ :: _ :: _ :: _ :: _ :: _ :: _ :: _ :: _ :: _ :: _ :: _ :: _ :: _ :: _ :: _ :: _ :: _ :: _ :: _ :: _ :: _ :: _ :: _ :: _ :: _ :: _ :: _ :: _ :: _ :: _ :: _ :: _ :: _ :: _ :: [])) rfl rfl ?_
        refine th_n ?_
        refine hK17 _ _ ?_
        clear hK17 K17
        refine wp_ret ?_
        refine ret_r2 rfl rfl rfl ?_  -- r2
        have hul : (usedL h.cells).length = h.cells.length := by simp [usedL]
        rw [List.take_of_length_le (by omega), List.take_of_length_le (by omega)]
        exact ⟨by rw [usedV_t hb1], G⟩

end Go.Proofs.Ytdfifnplgbceaaa
