/-
  Walks: the heap without cells.
  Conditions: those that each theorem states.
-/
import Derived.Test.YtfcblicpfbfojaaTy
import Derived.Test.YtfcblicpfbfojaaWalkM
namespace Go.Proofs.Ytfcblicpfbfojaa
open Go Go.RowKit
attribute [local irreducible] wpList wpAnyH Code.wp dOp

def emptyH : LH := ⟨[], List.replicate 4 (-1)⟩
theorem OC.none {Pr : Nat → Prop} {w : World} {eC eI : TypeId} {A : Option Addr} : OC Pr w eC eI A [] [] := OC.nil _ _ _ _ _
theorem OH.bare {Pr : Nat → Prop} {w : World} {eC eI : TypeId} {A B : Option Addr} {xs : List Int} (r : OI Pr w eI B (ints xs)) : OH Pr w eC eI A B ⟨[], xs⟩ [] := ⟨OC.nil _ _ _ _ _, r, fun i c q h => by simp at h⟩
theorem rep_snoc (k : Nat) : List.replicate k (-1 : Int) ++ [-1] = List.replicate (k + 1) (-1) := by simp [List.replicate_succ']


set_option maxHeartbeats 400000 in
set_option maxRecDepth 20000 in
theorem impl_EmptyHeap_c (w : World) :
    Calls Try.prog 19 #[] w (Ret fun v w' => ∃ A1 B1 n1 c1 n2 c2 rs, v = .agg #[.slice A1 n1 c1, .slice B1 n2 c2] ∧ n1 = (emptyH).cells.length ∧ n2 = (emptyH).roots.length ∧ OH (fun i => w.heap.size ≤ i) w' 90 3 A1 B1 (emptyH) rs ∧ Grow w w') := by
  refine enter Try.func19 rfl Try.ntmps19 (L := (_ :: _ :: _ :: [])) rfl ?_
  have G := Mod.refl No w
  refine wp_seq_k fun K1 hK1 => ?_
  refine wp_region_lit ?_  -- region 0 l7_heaps.go:74
  refine S_beg 3 rfl ?_
  refine S_alloc (cs := [_, _]) zr31 rfl ?_
  intro b1 w1 fb1 g1 B1
  have lb1 := B1.lt
  replace G := G.grow g1
  have zg1 := g1.size
  refine S_nil (L' := (_ :: _ :: _ :: [])) rfl rfl ?_
  refine th_n ?_
  refine hK1 _ _ ?_
  clear hK1 K1
  refine wp_seq_k fun K2 hK2 => ?_
  refine wp_region_lit ?_  -- region 1 l7_heaps.go:74
  refine S_beg 3 rfl ?_
  refine S_bsN (cs := [_, _, _, _]) Try.underlying29 zr3 sz3 rfl rfl ?_
  intro b2 w2 fb2 g2 B2
  have lb2 := B2.lt
  replace G := G.grow g2
  replace B1 := B1.grow g2
  have zg2 := g2.size
  refine S_val (Y_build (cs := [_, _]) zr31 pc31 rfl rfl) ?_
  refine S_stM (pre := []) (old := [_, _]) (post := []) (vs := [_, _]) sz31 rfl rfl rfl (by first | rfl | assumption) B1 rfl rfl ?_
  intro w3 m3 X3
  replace B1 := Blk.eq (ys := [_, _]) X3 rfl
  clear X3
  replace G := G.above m3 (by intro i h; first | omega | (dsimp only at h; omega))
  replace B2 := B2.mod m3 (by intro h; first | omega | (dsimp only at h; omega))
  have zm3 := m3.size
  refine S_nil (L' := (_ :: _ :: _ :: [])) rfl rfl ?_
  refine th_n ?_
  refine hK2 _ _ ?_
  clear hK2 K2
  refine wp_ret ?_
  refine ret_rc (cs := [_, _]) Try.underlying31 rfl sz31 rfl rfl (B1.row (by rfl)) ?_  -- r1
  exact ⟨_, _, _, _, _, _, [], rfl, rfl, rfl, OH.bare (OI.of_blk' B2 (by omega)), G⟩

set_option maxHeartbeats 400000 in
set_option maxRecDepth 20000 in
theorem spec_EmptyHeap_c (w : World) :
    Calls Try.prog 18 #[] w (Ret fun v w' => ∃ A1 B1 n1 c1 n2 c2 rs, v = .agg #[.slice A1 n1 c1, .slice B1 n2 c2] ∧ n1 = (emptyH).cells.length ∧ n2 = (emptyH).roots.length ∧ OH (fun i => w.heap.size ≤ i) w' 90 3 A1 B1 (emptyH) rs ∧ Grow w w') := by
  refine enter Try.func18 rfl Try.ntmps18 (L := (_ :: _ :: _ :: _ :: _ :: _ :: _ :: _ :: _ :: _ :: _ :: _ :: _ :: _ :: [])) rfl ?_
  have G := Mod.refl No w
  refine wp_seq_k fun K1 hK1 => ?_
  refine wp_region_lit ?_  -- region 0 l7_heaps.go:36
  refine S_beg 14 rfl ?_
  refine S_alloc (cs := [_, _]) zr31 rfl ?_
  intro b1 w1 fb1 g1 B1
  have lb1 := B1.lt
  replace G := G.grow g1
  have zg1 := g1.size
  refine S_nil (L' := (_ :: _ :: _ :: _ :: _ :: _ :: _ :: _ :: _ :: _ :: _ :: _ :: _ :: _ :: [])) rfl rfl ?_
  refine th_n ?_
  refine hK1 _ _ ?_
  clear hK1 K1
  refine wp_seq_k fun K2 hK2 => ?_
  refine wp_region_lit ?_  -- region 1 l7_heaps.go:37
  refine S_beg 14 rfl ?_
  refine S_val (Y_build (cs := [_, _]) zr31 pc31 rfl rfl) ?_
  refine S_alloc (cs := [_, _]) zr31 rfl ?_
  intro b2 w2 fb2 g2 B2
  have lb2 := B2.lt
  replace G := G.grow g2
  replace B1 := B1.grow g2
  have zg2 := g2.size
  refine S_stM (pre := []) (old := [_, _]) (post := []) (vs := [_, _]) sz31 rfl rfl rfl (by first | rfl | assumption) B2 rfl rfl ?_
  intro w3 m3 X3
  replace B2 := Blk.eq (ys := [_, _]) X3 rfl
  clear X3
  replace G := G.above m3 (by intro i h; first | omega | (dsimp only at h; omega))
  replace B1 := B1.mod m3 (by intro h; first | omega | (dsimp only at h; omega))
  have zm3 := m3.size
  refine S_nil (L' := (_ :: _ :: _ :: _ :: _ :: _ :: _ :: _ :: _ :: _ :: _ :: _ :: _ :: _ :: [])) rfl rfl ?_
  refine th_n ?_
  refine hK2 _ _ ?_
  clear hK2 K2
  refine wp_seq_k fun K3 hK3 => ?_
  refine wp_seq_k fun K4 hK4 => ?_
  refine wp_region_lit ?_  -- region 2 l7_heaps.go:38
  refine S_beg 14 rfl ?_
  refine S_val (Y_assign rfl) ?_
  refine S_nil (L' := (_ :: _ :: _ :: _ :: _ :: _ :: _ :: _ :: _ :: _ :: _ :: _ :: _ :: _ :: [])) rfl rfl ?_
  refine th_n ?_
  refine hK4 _ _ ?_
  clear hK4 K4
  refine wp_block ?_
  have O2 : OW (fun i => b2 < i) w3 3 1 none 0 0 (ints (List.replicate 0 (-1))) := OW.nil _ _ _ _
  go_loopw [2] (fun u2 wr => (∃ (k q cap : Nat) (A : Option Addr), u2 = .int .i64 k ∧ k ≤ 4 ∧ q = k ∧ Blk wr b2 31 [.slice none 0 0, .slice A q cap].toArray ∧ OW (fun i => b2 < i) wr 3 1 A q cap (ints (List.replicate k (-1)))) ∧ Mod (fun i => i = b2 ∨ b2 < i) w3 wr) (fun u2 wr => 4 - (intOf u2).toNat)  -- L1
  case atStart =>
    refine ⟨?_, Mod.refl _ _⟩
    exact ⟨0, 0, 0, none, rfl, by omega, rfl, B2, O2⟩
  case round =>
    obtain ⟨w4, rfl⟩ : ∃ x : World, x = wr := ⟨_, rfl⟩
    obtain ⟨hrel, g4⟩ := hrel
    clear B2
    clear O2
    replace G := G.above g4 (by intro i h; first | omega | (dsimp only at h; omega))
    replace B1 := B1.mod g4 (by intro h; first | omega | (dsimp only at h; omega))
    have zg4 := g4.size
    obtain ⟨k, q2, cap2, A2, rfl, hk, hq2, B2, O2⟩ := hrel
    have GL4 := g4
    refine wp_seq_k fun K5 hK5 => ?_
    refine wp_seq_k fun K6 hK6 => ?_
    refine wp_region_lit ?_  -- region 3 l7_heaps.go:38
    refine S_beg 14 rfl ?_
    refine S_val (Y_move rfl) ?_
    refine S_val (Y_lss rfl rfl) ?_
    refine S_nil (L' := (_ :: _ :: _ :: _ :: _ :: _ :: _ :: _ :: _ :: _ :: _ :: _ :: _ :: _ :: [])) rfl rfl ?_
    refine th_n ?_
    refine hK6 _ _ ?_
    clear hK6 K6
    refine S_if rfl (fun hb1 => ?_) (fun hb1 => ?_)  -- c1
    · -- c1T
      first | with_reducible (replace hb1 := nb_nt hb1) | with_reducible (replace hb1 := nb_nf hb1) | with_reducible (replace hb1 := nb_tt hb1) | with_reducible (replace hb1 := nb_tf hb1) | with_reducible (replace hb1 := nb_bt hb1) | with_reducible (replace hb1 := nb_bf hb1) | skip
      refine wp_skip ?_
      refine th_n ?_
      refine hK5 _ _ ?_
      clear hK5 K5
      refine wp_seq_k fun K7 hK7 => ?_
      refine wp_block ?_
      refine wp_region_lit ?_  -- region 5 l7_heaps.go:39
      refine S_beg 14 rfl ?_
      refine S_val (Y_field Try.underlying31 rfl fz31_1 (by decide) rfl) ?_
      refine S_val (Y_load Try.underlying29 rfl rfl (by first | assumption | exact B1.at (by rfl) | exact B2.at (by rfl))) ?_  -- l1
      refine S_bs1 (cs := [_]) Try.underlying29 zr3 sz3 rfl rfl rfl ?_
      intro b5 w5 fb5 g5 B5
      have lb5 := B5.lt
      replace O2 := O2.grow g5
      replace G := G.grow g5
      replace GL4 := GL4.grow g5
      replace B1 := B1.grow g5
      replace B2 := B2.grow g5
      have zg5 := g5.size
      refine S_app Try.underlying29 zr3 sz3 by3 rfl rfl O2 rfl (Src.blk B5) (by simp [Value.oneCell']) (by omega) (Pr' := fun i => b2 < i) (fun i hi => hi) (by omega) ?_
      intro A6 cap6 w6 X6 m6
      replace O2 := X6
      rw [ints_app, rep_snoc] at O2
      clear X6
      replace G := G.above m6 (by intro i h; first | omega | (dsimp only at h; omega))
      replace GL4 := Mod.trans' GL4 m6 (fun _ h _ => h) (fun i h _ => by first | exact h | omega | (dsimp only at h ⊢; omega) | (subst h; rfl) | (subst h; exact ⟨by omega, rfl⟩))
      replace B1 := B1.mod m6 (by intro h; first | omega | (dsimp only at h; omega))
      replace B2 := B2.mod m6 (by intro h; first | omega | (dsimp only at h; omega))
      have zm6 := m6.size
      refine S_val (Y_field Try.underlying31 rfl fz31_1 (by decide) rfl) ?_
      refine S_stM (pre := [_]) (old := [_]) (post := []) (vs := [_]) sz29 rfl rfl rfl (by first | rfl | assumption) B2 rfl rfl ?_
      intro w7 m7 X7
      replace B2 := Blk.eq (ys := [_, _]) X7 rfl
      clear X7
      replace G := G.above m7 (by intro i h; first | omega | (dsimp only at h; omega))
      replace GL4 := Mod.trans' GL4 m7 (fun _ h _ => h) (fun i h _ => by first | exact h | omega | (dsimp only at h ⊢; omega) | (subst h; rfl) | (subst h; exact ⟨by omega, rfl⟩))
      replace O2 := O2.mod m7 (by intro k hk h; first | omega | (dsimp only at hk h; omega) | (dsimp only at hk; omega))
      replace B1 := B1.mod m7 (by intro h; first | omega | (dsimp only at h; omega))
      have zm7 := m7.size
      refine S_nil (L' := (_ :: _ :: _ :: _ :: _ :: _ :: _ :: _ :: _ :: _ :: _ :: _ :: _ :: _ :: [])) rfl rfl ?_
      refine ib_n ?_
      refine th_n ?_
      refine hK7 _ _ ?_
      clear hK7 K7
      refine wp_region_lit ?_  -- region 4 l7_heaps.go:38
      refine S_beg 14 rfl ?_
      refine S_val (Y_move rfl) ?_
      refine S_val (Y_inc rfl rfl (by omega)) ?_
      refine S_val (Y_assign rfl) ?_
      refine S_nil (L' := (_ :: _ :: _ :: _ :: _ :: _ :: _ :: _ :: _ :: _ :: _ :: _ :: _ :: _ :: [])) rfl rfl ?_
      refine th_n ?_
      go_roundw  -- e1 of L1
      case rel =>
        refine ⟨?_, GL4⟩
        exact ⟨k + 1, _, _, _, rfl, by omega, by omega, B2, O2⟩
      case measure =>
        exact dec_nat (by omega)
    · -- c1F
      first | with_reducible (replace hb1 := nb_nt hb1) | with_reducible (replace hb1 := nb_nf hb1) | with_reducible (replace hb1 := nb_tt hb1) | with_reducible (replace hb1 := nb_tf hb1) | with_reducible (replace hb1 := nb_bt hb1) | with_reducible (replace hb1 := nb_bf hb1) | skip
      refine wp_exit ?_
      refine th_x ?_
      clear GL4
      refine th_x ?_
      refine ib_e ?_
      refine th_n ?_
      refine hK3 _ _ ?_
      clear hK5 K5 hK3 K3
      refine wp_seq_k fun K8 hK8 => ?_
      refine wp_region_lit ?_  -- region 6 l7_heaps.go:41
      refine S_beg 14 rfl ?_
      refine S_val (Y_loadS Try.underlying31 rfl sz31 rfl (by first | assumption | exact B1.row (by rfl) | exact B2.row (by rfl))) ?_  -- l2
      refine S_stM (pre := []) (old := [_, _]) (post := []) (vs := [_, _]) sz31 rfl rfl rfl (by first | rfl | assumption) B1 rfl rfl ?_
      intro w8 m8 X8
      replace B1 := Blk.eq (ys := [_, _]) X8 rfl
      clear X8
      replace G := G.above m8 (by intro i h; first | omega | (dsimp only at h; omega))
      replace O2 := O2.mod m8 (by intro k hk h; first | omega | (dsimp only at hk h; omega) | (dsimp only at hk; omega))
      replace B2 := B2.mod m8 (by intro h; first | omega | (dsimp only at h; omega))
      have zm8 := m8.size
      refine S_nil (L' := (_ :: _ :: _ :: _ :: _ :: _ :: _ :: _ :: _ :: _ :: _ :: _ :: _ :: _ :: [])) rfl rfl ?_
      refine th_n ?_
      refine hK8 _ _ ?_
      clear hK8 K8
      refine wp_ret ?_
      refine ret_rc (cs := [_, _]) Try.underlying31 rfl sz31 rfl rfl (B1.row (by rfl)) ?_  -- r1
      have : k = 4 := by omega
      subst this
      subst hq2
      exact ⟨_, _, _, _, _, _, [], rfl, rfl, rfl, OH.bare (O2.oi.weak (fun i hi => by omega)), G⟩

end Go.Proofs.Ytfcblicpfbfojaa
