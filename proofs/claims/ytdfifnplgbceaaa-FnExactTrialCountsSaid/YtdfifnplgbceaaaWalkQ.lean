/-
  Walks: the order of the cells, as the program and the reference tell it.
  Conditions: those that each theorem states.
-/
import Derived.Test.YtdfifnplgbceaaaTy
import Derived.Test.YtdfifnplgbceaaaWalkK
import Derived.Test.YtdfifnplgbceaaaWalkM
namespace Go.Proofs.Ytdfifnplgbceaaa
open Go Go.RowKit
attribute [local irreducible] wpList wpAnyH Code.wp dOp

def metV (h : LH) : List Int := if validB h = true then orderL h.cells h.roots nn else []
theorem metV_t {h : LH} (hv : validB h = true) : metV h = orderL h.cells h.roots nn := if_pos hv
theorem metV_f {h : LH} (hv : validB h = false) : metV h = [] := if_neg (by simp [hv])
theorem metV_len (h : LH) : (metV h).length ≤ h.cells.length := by
  cases hv : validB h with
  | true => rw [metV_t hv]; exact (orderL_bnd (valid_iff.1 hv).leads).len
  | false => rw [metV_f hv]; exact Nat.zero_le _
theorem reachV_le (h : LH) : (reachV h).length ≤ h.cells.length := by
  cases hv : validB h with
  | true => rw [reachV_len hv]; exact Nat.le_refl _
  | false => rw [reachV_f hv]; exact Nat.zero_le _


set_option maxHeartbeats 400000 in
set_option maxRecDepth 20000 in
theorem spec_MetOrder_c (Pr : Nat → Prop) (A B : Option Addr) (h : LH) (c d : Nat) (w : World) (hA : RC Pr w A h.cells) (hB : R1 Pr w B (ints h.roots)) (hz : hsize h ≤ 1048576) :
    Calls Try.prog 16 #[.agg #[.slice A h.cells.length c, .slice B h.roots.length d]] w (Ret fun v w' => ∃ A1 q cap, v = .slice A1 q cap ∧ q = (metV h).length ∧ OI (fun i => w.heap.size ≤ i) w' 3 A1 (ints (metV h)) ∧ Grow w w') := by
  refine enter Try.func16 rfl Try.ntmps16 (L := (_ :: _ :: _ :: _ :: _ :: _ :: _ :: _ :: _ :: [])) rfl ?_
  have G := Mod.refl No w
  have hA0 := hA
  have hB0 := hB
  refine wp_seq_k fun K1 hK1 => ?_
  refine wp_region_lit ?_  -- region 0 l9_views.go:28
  refine S_beg 9 rfl ?_
  refine S_box (cs := [_, _]) rfl rfl ?_
  intro b1 w1 fb1 g1 B1
  have lb1 := B1.lt
  replace hA := hA.grow g1
  replace hB := hB.grow g1
  replace G := G.grow g1
  have zg1 := g1.size
  refine S_val (Y_assign rfl) ?_
  refine S_nil (L' := (_ :: _ :: _ :: _ :: _ :: _ :: _ :: _ :: _ :: [])) rfl rfl ?_
  refine th_n ?_
  refine hK1 _ _ ?_
  clear hK1 K1
  refine wp_seq_k fun K2 hK2 => ?_
  refine wp_seq_k fun K3 hK3 => ?_
  refine wp_region_lit ?_  -- region 1 l9_views.go:29
  refine S_beg 9 rfl ?_
  refine S_val (Y_loadS Try.underlying30 rfl sz30 rfl (by first | assumption | exact B1.row (by rfl))) ?_  -- l1
  refine S_call rfl en56 (spec_HeapValid_c _ _ _ _ _ _ _ (by assumption) (by assumption) (by omega)) ?_  -- k1 spec.HeapValid
  rintro v2 w2 ⟨rfl, g2⟩
  replace hA := hA.grow g2
  replace hB := hB.grow g2
  replace G := G.grow g2
  replace B1 := B1.grow g2
  have zg2 := g2.size
  refine S_val (Y_not rfl) ?_
  refine S_nil (L' := (_ :: _ :: _ :: _ :: _ :: _ :: _ :: _ :: _ :: [])) rfl rfl ?_
  refine th_n ?_
  refine hK3 _ _ ?_
  clear hK3 K3
  refine S_if rfl (fun hb1 => ?_) (fun hb1 => ?_)  -- c1
  · -- c1T
    first | with_reducible (replace hb1 := nb_nt hb1) | with_reducible (replace hb1 := nb_nf hb1) | with_reducible (replace hb1 := nb_tt hb1) | with_reducible (replace hb1 := nb_tf hb1) | with_reducible (replace hb1 := nb_bt hb1) | with_reducible (replace hb1 := nb_bf hb1) | skip
    refine wp_seq_k fun K4 hK4 => ?_
    refine wp_region_lit ?_  -- region 2 l9_views.go:30
    refine S_beg 9 rfl ?_
    refine S_bs0 Try.underlying23 sz3 ?_
    intro b3 w3 fb3 g3 B3
    have lb3 := B3.lt
    replace hA := hA.grow g3
    replace hB := hB.grow g3
    replace G := G.grow g3
    replace B1 := B1.grow g3
    have zg3 := g3.size
    refine S_val (Y_assign rfl) ?_
    refine S_nil (L' := (_ :: _ :: _ :: _ :: _ :: _ :: _ :: _ :: _ :: [])) rfl rfl ?_
    refine th_n ?_
    refine hK4 _ _ ?_
    clear hK4 K4
    refine wp_ret ?_
    refine th_r ?_
    clear hK2 K2
    refine ret_r1 rfl rfl ?_  -- r1
    exact ⟨_, _, _, rfl, by rw [metV_f hb1]; rfl, by rw [metV_f hb1]; exact OI.nil _ _ _ _, G⟩
  · -- c1F
    first | with_reducible (replace hb1 := nb_nt hb1) | with_reducible (replace hb1 := nb_nf hb1) | with_reducible (replace hb1 := nb_tt hb1) | with_reducible (replace hb1 := nb_tf hb1) | with_reducible (replace hb1 := nb_bt hb1) | with_reducible (replace hb1 := nb_bf hb1) | skip
    have va := valid_iff.1 hb1
    have hl := va.leads
    have h40 := va.le
    have hr4 := va.roots4
    refine wp_skip ?_
    refine th_n ?_
    refine hK2 _ _ ?_
    clear hK2 K2
    refine wp_seq_k fun K5 hK5 => ?_
    refine wp_region_lit ?_  -- region 3 l9_views.go:32
    refine S_beg 9 rfl ?_
    refine S_val (Y_loadS Try.underlying30 rfl sz30 rfl (by first | assumption | exact B1.row (by rfl))) ?_  -- l2
    refine S_call rfl en57 (spec_l9Order_c _ _ _ _ _ _ _ (by assumption) (by assumption) (by omega) (by assumption)) ?_  -- k2 spec.l9Order
    rintro v4 w4 ⟨A4, q4, cap4, rfl, hq4, O4, g4⟩
    replace hA := hA.grow g4
    replace hB := hB.grow g4
    replace G := G.grow g4
    replace B1 := B1.grow g4
    have zg4 := g4.size
    subst hq4
    refine S_val (Y_assign rfl) ?_
    refine S_nil (L' := (_ :: _ :: _ :: _ :: _ :: _ :: _ :: _ :: _ :: [])) rfl rfl ?_
    refine th_n ?_
    refine hK5 _ _ ?_
    clear hK5 K5
    refine wp_ret ?_
    refine ret_r1 rfl rfl ?_  -- r2
    exact ⟨_, _, _, rfl, by rw [metV_t hb1], by rw [metV_t hb1]; exact OI.weak (by first | assumption | exact OW.oi (by assumption)) (fun i hi => by omega), G⟩

set_option maxHeartbeats 400000 in
set_option maxRecDepth 20000 in
theorem impl_MetOrder_c (Pr : Nat → Prop) (A B : Option Addr) (h : LH) (c d : Nat) (w : World) (hA : RC Pr w A h.cells) (hB : R1 Pr w B (ints h.roots)) (hz : hsize h ≤ 1048576) :
    Calls Try.prog 18 #[.agg #[.slice A h.cells.length c, .slice B h.roots.length d]] w (Ret fun v w' => ∃ A1 q cap, v = .slice A1 q cap ∧ q = (metV h).length ∧ OI (fun i => w.heap.size ≤ i) w' 3 A1 (ints (metV h)) ∧ Grow w w') := by
  refine enter Try.func18 rfl Try.ntmps18 (L := (_ :: _ :: _ :: _ :: _ :: _ :: _ :: _ :: [])) rfl ?_
  have G := Mod.refl No w
  have hA0 := hA
  have hB0 := hB
  refine wp_seq_k fun K1 hK1 => ?_
  refine wp_region_lit ?_  -- region 0 l9_views.go:47
  refine S_beg 8 rfl ?_
  refine S_box (cs := [_, _]) rfl rfl ?_
  intro b1 w1 fb1 g1 B1
  have lb1 := B1.lt
  replace hA := hA.grow g1
  replace hB := hB.grow g1
  replace G := G.grow g1
  have zg1 := g1.size
  refine S_val (Y_assign rfl) ?_
  refine S_nil (L' := (_ :: _ :: _ :: _ :: _ :: _ :: _ :: _ :: [])) rfl rfl ?_
  refine th_n ?_
  refine hK1 _ _ ?_
  clear hK1 K1
  refine wp_seq_k fun K2 hK2 => ?_
  refine wp_seq_k fun K3 hK3 => ?_
  refine wp_region_lit ?_  -- region 1 l9_views.go:48
  refine S_beg 8 rfl ?_
  refine S_val (Y_loadS Try.underlying30 rfl sz30 rfl (by first | assumption | exact B1.row (by rfl))) ?_  -- l1
  refine S_call rfl en60 (impl_HeapValid_c _ _ _ _ _ _ _ (by assumption) (by assumption) (by omega)) ?_  -- k1 impl.HeapValid
  rintro v2 w2 ⟨rfl, g2⟩
  replace hA := hA.grow g2
  replace hB := hB.grow g2
  replace G := G.grow g2
  replace B1 := B1.grow g2
  have zg2 := g2.size
  refine S_val (Y_not rfl) ?_
  refine S_nil (L' := (_ :: _ :: _ :: _ :: _ :: _ :: _ :: _ :: [])) rfl rfl ?_
  refine th_n ?_
  refine hK3 _ _ ?_
  clear hK3 K3
  refine S_if rfl (fun hb1 => ?_) (fun hb1 => ?_)  -- c1
  · -- c1T
    first | with_reducible (replace hb1 := nb_nt hb1) | with_reducible (replace hb1 := nb_nf hb1) | with_reducible (replace hb1 := nb_tt hb1) | with_reducible (replace hb1 := nb_tf hb1) | with_reducible (replace hb1 := nb_bt hb1) | with_reducible (replace hb1 := nb_bf hb1) | skip
    refine wp_seq_k fun K4 hK4 => ?_
    refine wp_region_lit ?_  -- region 2 l9_views.go:49
    refine S_beg 8 rfl ?_
    refine S_val (Y_assign rfl) ?_
    refine S_nil (L' := (_ :: _ :: _ :: _ :: _ :: _ :: _ :: _ :: [])) rfl rfl ?_
    refine th_n ?_
    refine hK4 _ _ ?_
    clear hK4 K4
    refine wp_ret ?_
    refine th_r ?_
    clear hK2 K2
    refine ret_r1 rfl rfl ?_  -- r1
    exact ⟨_, _, _, rfl, by rw [metV_f hb1]; rfl, by rw [metV_f hb1]; exact OI.nil _ _ _ _, G⟩
  · -- c1F
    first | with_reducible (replace hb1 := nb_nt hb1) | with_reducible (replace hb1 := nb_nf hb1) | with_reducible (replace hb1 := nb_tt hb1) | with_reducible (replace hb1 := nb_tf hb1) | with_reducible (replace hb1 := nb_bt hb1) | with_reducible (replace hb1 := nb_bf hb1) | skip
    have va := valid_iff.1 hb1
    have hl := va.leads
    have h40 := va.le
    have hr4 := va.roots4
    refine wp_skip ?_
    refine th_n ?_
    refine hK2 _ _ ?_
    clear hK2 K2
    refine wp_seq_k fun K5 hK5 => ?_
    refine wp_region_lit ?_  -- region 3 l9_views.go:51
    refine S_beg 8 rfl ?_
    refine S_val (Y_loadS Try.underlying30 rfl sz30 rfl (by first | assumption | exact B1.row (by rfl))) ?_  -- l2
    refine S_call rfl en61 (impl_metOrder_c _ _ _ _ _ _ _ (by assumption) (by assumption) (by omega) (by assumption) (by omega)) ?_  -- k2 impl.metOrder
    rintro v3 w3 ⟨A3, q3, cap3, rfl, hq3, O3, g3⟩
    replace hA := hA.grow g3
    replace hB := hB.grow g3
    replace G := G.grow g3
    replace B1 := B1.grow g3
    have zg3 := g3.size
    subst hq3
    refine S_val (Y_assign rfl) ?_
    refine S_nil (L' := (_ :: _ :: _ :: _ :: _ :: _ :: _ :: _ :: [])) rfl rfl ?_
    refine th_n ?_
    refine hK5 _ _ ?_
    clear hK5 K5
    refine wp_ret ?_
    refine ret_r1 rfl rfl ?_  -- r2
    exact ⟨_, _, _, rfl, by rw [metV_t hb1], by rw [metV_t hb1]; exact OI.weak (by first | assumption | exact OW.oi (by assumption)) (fun i hi => by omega), G⟩

end Go.Proofs.Ytdfifnplgbceaaa
