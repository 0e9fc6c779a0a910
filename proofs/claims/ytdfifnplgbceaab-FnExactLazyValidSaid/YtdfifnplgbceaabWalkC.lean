/-
  Walks: fresh copies of the arguments.
  Conditions: those that each theorem states.
-/
import Derived.Test.YtdfifnplgbceaabTy
import Derived.Test.YtdfifnplgbceaabWalkB
import Derived.Test.YtdfifnplgbceaabOwn
namespace Go.Proofs.Ytdfifnplgbceaab
open Go Go.RowKit
attribute [local irreducible] wpList wpAnyH Code.wp dOp

set_option maxHeartbeats 400000 in
set_option maxRecDepth 20000 in
theorem laws_toIntS_c (Pr : Nat → Prop) (A : Option Addr) (xs : List Int) (c : Nat) (w : World) (hA : R1 Pr w A (ints xs)) (hx : xs.length ≤ 1048576) :
    Calls Try.prog 29 #[.slice A xs.length c] w (Ret fun v w' => ∃ b, v = .slice (some ⟨b, 0, none⟩) xs.length xs.length ∧ w.heap.size ≤ b ∧ Blk w' b 3 (ints xs).toArray ∧ Grow w w') := by
  refine enter Try.func29 rfl Try.ntmps29 (L := (_ :: _ :: _ :: _ :: _ :: _ :: _ :: _ :: _ :: _ :: _ :: _ :: _ :: _ :: _ :: _ :: _ :: _ :: _ :: _ :: _ :: _ :: [])) rfl ?_
  have G := Mod.refl No w
  have hA0 := hA
  refine wp_seq_k fun K1 hK1 => ?_
  refine wp_region_lit ?_  -- region 0 exact.go:96
  refine S_beg 22 rfl ?_
  refine S_val (Y_assign rfl) ?_
  refine S_nil (L' := (_ :: _ :: _ :: _ :: _ :: _ :: _ :: _ :: _ :: _ :: _ :: _ :: _ :: _ :: _ :: _ :: _ :: _ :: _ :: _ :: _ :: _ :: [])) rfl rfl ?_
  refine th_n ?_
  refine hK1 _ _ ?_
  clear hK1 K1
  refine wp_seq_k fun K2 hK2 => ?_
  refine wp_region_lit ?_  -- region 1 exact.go:97
  refine S_beg 22 rfl ?_
  refine S_val (Y_move rfl) ?_
  refine S_val (Y_len Try.underlying23 rfl) ?_
  refine S_make (z := [.int .i64 0]) Try.underlying23 zr3 sz3 by3 rfl rfl (by omega) (by omega) (by omega) ?_
  intro b1 w1 fb1 g1 B1
  have lb1 := B1.lt
  replace hA := hA.grow g1
  replace G := G.grow g1
  have zg1 := g1.size
  refine S_val (Y_assign rfl) ?_
  refine S_nil (L' := (_ :: _ :: _ :: _ :: _ :: _ :: _ :: _ :: _ :: _ :: _ :: _ :: _ :: _ :: _ :: _ :: _ :: _ :: _ :: _ :: _ :: _ :: [])) rfl rfl ?_
  refine th_n ?_
  refine hK2 _ _ ?_
  clear hK2 K2
  refine wp_seq_k fun K3 hK3 => ?_
  refine wp_seq_k fun K4 hK4 => ?_
  refine wp_region_lit ?_  -- region 2 exact.go:98
  refine S_beg 22 rfl ?_
  refine S_val (Y_assign rfl) ?_
  refine S_nil (L' := (_ :: _ :: _ :: _ :: _ :: _ :: _ :: _ :: _ :: _ :: _ :: _ :: _ :: _ :: _ :: _ :: _ :: _ :: _ :: _ :: _ :: _ :: [])) rfl rfl ?_
  refine th_n ?_
  refine hK4 _ _ ?_
  clear hK4 K4
  refine wp_block ?_
  go_loopw [4] (fun u4 wr => (∃ k : Nat, u4 = .int .i64 k ∧ k ≤ xs.length ∧ Blk wr b1 3 (ints (xs.take k) ++ zeros [.int .i64 0] (xs.length - k)).toArray) ∧ Mod (fun i => i = b1) w1 wr) (fun u4 wr => xs.length - (intOf u4).toNat)  -- L1
  case atStart =>
    refine ⟨?_, Mod.refl _ _⟩
    exact ⟨0, rfl, by omega, by simpa [ints] using B1⟩
  case round =>
    obtain ⟨w2, rfl⟩ : ∃ x : World, x = wr := ⟨_, rfl⟩
    obtain ⟨hrel, g2⟩ := hrel
    clear B1
    replace G := G.above g2 (by intro i h; first | omega | (dsimp only at h; omega))
    replace hA := hA0.grow G
    have zg2 := g2.size
    obtain ⟨k, rfl, hk, B1⟩ := hrel
    have GL2 := g2
    refine wp_seq_k fun K5 hK5 => ?_
    refine wp_seq_k fun K6 hK6 => ?_
    refine wp_region_lit ?_  -- region 3 exact.go:98
    refine S_beg 22 rfl ?_
    refine S_val (Y_move rfl) ?_
    refine S_val (Y_move rfl) ?_
    refine S_val (Y_len Try.underlying23 rfl) ?_
    refine S_val (Y_lss rfl rfl) ?_
    refine S_nil (L' := (_ :: _ :: _ :: _ :: _ :: _ :: _ :: _ :: _ :: _ :: _ :: _ :: _ :: _ :: _ :: _ :: _ :: _ :: _ :: _ :: _ :: _ :: [])) rfl rfl ?_
    refine th_n ?_
    refine hK6 _ _ ?_
    clear hK6 K6
    refine S_if rfl (fun hb1 => ?_) (fun hb1 => ?_)  -- c1
    · -- c1T
      first | with_reducible (replace hb1 := nb_nt hb1) | with_reducible (replace hb1 := nb_nf hb1) | with_reducible (replace hb1 := nb_tt hb1) | with_reducible (replace hb1 := nb_tf hb1) | with_reducible (replace hb1 := nb_bt hb1) | with_reducible (replace hb1 := nb_bf hb1) | skip
      have hk1 : k < xs.length := by omega
      obtain ⟨g1, o1, rfl, hp1, hc1⟩ := hA.int hk1
      rw [zeros_pos (by omega)] at B1
      refine wp_skip ?_
      refine th_n ?_
      refine hK5 _ _ ?_
      clear hK5 K5
      refine wp_seq_k fun K7 hK7 => ?_
      refine wp_block ?_
      refine wp_region_lit ?_  -- region 5 exact.go:99
      refine S_beg 22 rfl ?_
      refine S_val (Y_move rfl) ?_
      refine S_val (Y_move rfl) ?_
      refine S_val (Y_move rfl) ?_
      refine S_val (Y_move rfl) ?_
      refine S_val (Y_index Try.underlying23 sz3 rfl rfl (by first | assumption | omega)) ?_
      refine S_val (Y_load Try.underlying3 rfl rfl (by first | assumption | exact B1.at (by rfl))) ?_  -- l1
      refine S_val (Y_index Try.underlying23 sz3 rfl rfl (by first | assumption | omega)) ?_
      refine S_stM (pre := ints (xs.take k)) (old := [.int .i64 0]) (post := zeros [.int .i64 0] (xs.length - k - 1)) (vs := [_]) sz3 rfl rfl rfl rfl (by rw [List.append_assoc]; exact B1) (by simp [ints]; omega) rfl ?_
      intro w3 m3 X3
      replace B1 := Blk.eq X3 (ints_snoc hk1)
      clear X3
      replace G := G.above m3 (by intro i h; first | omega | (dsimp only at h; omega))
      replace GL2 := Mod.trans' GL2 m3 (fun _ h _ => h) (fun i h _ => by first | exact h | omega | (dsimp only at h ⊢; omega) | (subst h; rfl) | (subst h; exact ⟨by omega, rfl⟩))
      replace hA := hA0.grow G
      have zm3 := m3.size
      refine S_nil (L' := (_ :: _ :: _ :: _ :: _ :: _ :: _ :: _ :: _ :: _ :: _ :: _ :: _ :: _ :: _ :: _ :: _ :: _ :: _ :: _ :: _ :: _ :: [])) rfl rfl ?_
      refine ib_n ?_
      refine th_n ?_
      refine hK7 _ _ ?_
      clear hK7 K7
      refine wp_region_lit ?_  -- region 4 exact.go:98
      refine S_beg 22 rfl ?_
      refine S_val (Y_move rfl) ?_
      refine S_val (Y_inc rfl rfl (by omega)) ?_
      refine S_val (Y_assign rfl) ?_
      refine S_nil (L' := (_ :: _ :: _ :: _ :: _ :: _ :: _ :: _ :: _ :: _ :: _ :: _ :: _ :: _ :: _ :: _ :: _ :: _ :: _ :: _ :: _ :: _ :: [])) rfl rfl ?_
      refine th_n ?_
      go_roundw  -- e1 of L1
      case rel =>
        refine ⟨?_, GL2⟩
        exact ⟨k + 1, rfl, by omega, B1⟩
      case measure =>
        exact dec_nat (by omega)
    · -- c1F
      first | with_reducible (replace hb1 := nb_nt hb1) | with_reducible (replace hb1 := nb_nf hb1) | with_reducible (replace hb1 := nb_tt hb1) | with_reducible (replace hb1 := nb_tf hb1) | with_reducible (replace hb1 := nb_bt hb1) | with_reducible (replace hb1 := nb_bf hb1) | skip
      refine wp_exit ?_
      refine th_x ?_
      clear GL2
      refine th_x ?_
      refine ib_e ?_
      refine th_n ?_
      refine hK3 _ _ ?_
      clear hK5 K5 hK3 K3
      refine wp_seq_k fun K8 hK8 => ?_
      refine wp_region_lit ?_  -- region 6 exact.go:101
      refine S_beg 22 rfl ?_
      refine S_val (Y_move rfl) ?_
      refine S_val (Y_assign rfl) ?_
      refine S_nil (L' := (_ :: _ :: _ :: _ :: _ :: _ :: _ :: _ :: _ :: _ :: _ :: _ :: _ :: _ :: _ :: _ :: _ :: _ :: _ :: _ :: _ :: _ :: [])) rfl rfl ?_
      refine th_n ?_
      refine hK8 _ _ ?_
      clear hK8 K8
      refine wp_ret ?_
      refine ret_r1 rfl rfl ?_  -- r1
      have : k = xs.length := by omega
      subst this
      exact ⟨b1, rfl, fb1, Blk.eq B1 (by simp [zeros]), G⟩

set_option maxHeartbeats 400000 in
set_option maxRecDepth 20000 in
theorem laws_toCell_c (Pr : Nat → Prop) (x : LC) (A : Option Addr) (c : Nat) (w : World) (hA : R1 Pr w A (ints x.refs)) (hx : x.refs.length ≤ 1048576) :
    Calls Try.prog 113 #[.agg #[.bool x.used, .int .i64 x.data, .slice A x.refs.length c]] w (Ret fun v w' => ∃ b, v = .agg #[.bool x.used, .int .i64 x.data, .slice (some ⟨b, 0, none⟩) x.refs.length x.refs.length] ∧ w.heap.size ≤ b ∧ Blk w' b 3 (ints x.refs).toArray ∧ Grow w w') := by
  refine enter Try.func113 rfl Try.ntmps113 (L := (_ :: _ :: _ :: _ :: _ :: _ :: _ :: _ :: _ :: _ :: _ :: _ :: _ :: _ :: _ :: [])) rfl ?_
  have G := Mod.refl No w
  have hA0 := hA
  refine wp_seq_k fun K1 hK1 => ?_
  refine wp_region_lit ?_  -- region 0 exact.go:104
  refine S_beg 15 rfl ?_
  refine S_box (cs := [_, _, _]) rfl rfl ?_
  intro b1 w1 fb1 g1 B1
  have lb1 := B1.lt
  replace hA := hA.grow g1
  replace G := G.grow g1
  have zg1 := g1.size
  refine S_alloc (cs := [_, _, _]) zr80 rfl ?_
  intro b2 w2 fb2 g2 B2
  have lb2 := B2.lt
  replace hA := hA.grow g2
  replace G := G.grow g2
  replace B1 := B1.grow g2
  have zg2 := g2.size
  refine S_nil (L' := (_ :: _ :: _ :: _ :: _ :: _ :: _ :: _ :: _ :: _ :: _ :: _ :: _ :: _ :: _ :: [])) rfl rfl ?_
  refine th_n ?_
  refine hK1 _ _ ?_
  clear hK1 K1
  refine wp_seq_k fun K2 hK2 => ?_
  refine wp_region_lit ?_  -- region 1 exact.go:105
  refine S_beg 15 rfl ?_
  refine S_alloc (cs := [_, _, _]) zr80 rfl ?_
  intro b3 w3 fb3 g3 B3
  have lb3 := B3.lt
  replace hA := hA.grow g3
  replace G := G.grow g3
  replace B1 := B1.grow g3
  replace B2 := B2.grow g3
  have zg3 := g3.size
  refine S_nil (L' := (_ :: _ :: _ :: _ :: _ :: _ :: _ :: _ :: _ :: _ :: _ :: _ :: _ :: _ :: _ :: [])) rfl rfl ?_
  refine th_n ?_
  refine hK2 _ _ ?_
  clear hK2 K2
  refine wp_seq_k fun K3 hK3 => ?_
  refine wp_region_lit ?_  -- region 2 exact.go:106
  refine S_beg 15 rfl ?_
  refine S_val (Y_field Try.underlying115 rfl fz115_0 (by decide) rfl) ?_
  refine S_val (Y_load Try.underlying4 rfl rfl (by first | assumption | exact B1.at (by rfl) | exact B2.at (by rfl) | exact B3.at (by rfl))) ?_  -- l1
  refine S_val (Y_field Try.underlying80 rfl fz80_0 (by decide) rfl) ?_
  refine S_stM (pre := []) (old := [_]) (post := [_, _]) (vs := [_]) sz4 rfl rfl rfl (by first | rfl | assumption) B3 rfl rfl ?_
  intro w4 m4 X4
  replace B3 := Blk.eq (ys := [_, _, _]) X4 rfl
  clear X4
  replace G := G.above m4 (by intro i h; first | omega | (dsimp only at h; omega))
  replace hA := hA0.grow G
  replace B1 := B1.mod m4 (by intro h; first | omega | (dsimp only at h; omega))
  replace B2 := B2.mod m4 (by intro h; first | omega | (dsimp only at h; omega))
  have zm4 := m4.size
  refine S_nil (L' := (_ :: _ :: _ :: _ :: _ :: _ :: _ :: _ :: _ :: _ :: _ :: _ :: _ :: _ :: _ :: [])) rfl rfl ?_
  refine th_n ?_
  refine hK3 _ _ ?_
  clear hK3 K3
  refine wp_seq_k fun K4 hK4 => ?_
  refine wp_region_lit ?_  -- region 3 exact.go:107
  refine S_beg 15 rfl ?_
  refine S_val (Y_field Try.underlying115 rfl fz115_1 (by decide) rfl) ?_
  refine S_val (Y_load Try.underlying3 rfl rfl (by first | assumption | exact B1.at (by rfl) | exact B2.at (by rfl) | exact B3.at (by rfl))) ?_  -- l2
  refine S_val (Y_field Try.underlying80 rfl fz80_1 (by decide) rfl) ?_
  refine S_stM (pre := [_]) (old := [_]) (post := [_]) (vs := [_]) sz3 rfl rfl rfl (by first | rfl | assumption) B3 rfl rfl ?_
  intro w5 m5 X5
  replace B3 := Blk.eq (ys := [_, _, _]) X5 rfl
  clear X5
  replace G := G.above m5 (by intro i h; first | omega | (dsimp only at h; omega))
  replace hA := hA0.grow G
  replace B1 := B1.mod m5 (by intro h; first | omega | (dsimp only at h; omega))
  replace B2 := B2.mod m5 (by intro h; first | omega | (dsimp only at h; omega))
  have zm5 := m5.size
  refine S_nil (L' := (_ :: _ :: _ :: _ :: _ :: _ :: _ :: _ :: _ :: _ :: _ :: _ :: _ :: _ :: _ :: [])) rfl rfl ?_
  refine th_n ?_
  refine hK4 _ _ ?_
  clear hK4 K4
  refine wp_seq_k fun K5 hK5 => ?_
  refine wp_region_lit ?_  -- region 4 exact.go:108
  refine S_beg 15 rfl ?_
  refine S_val (Y_field Try.underlying115 rfl fz115_2 (by decide) rfl) ?_
  refine S_val (Y_load Try.underlying23 rfl rfl (by first | assumption | exact B1.at (by rfl) | exact B2.at (by rfl) | exact B3.at (by rfl))) ?_  -- l3
  refine S_call rfl en29 (laws_toIntS_c _ _ _ _ _ (by assumption) (by omega)) ?_  -- k1 laws.toIntS
  rintro v6 w6 ⟨b6, rfl, fb6, B6, g6⟩
  replace hA := hA.grow g6
  replace G := G.grow g6
  replace B1 := B1.grow g6
  replace B2 := B2.grow g6
  replace B3 := B3.grow g6
  have zg6 := g6.size
  have lb6 := B6.lt
  refine S_val (Y_field Try.underlying80 rfl fz80_2 (by decide) rfl) ?_
  refine S_stM (pre := [_, _]) (old := [_]) (post := []) (vs := [_]) sz23 rfl rfl rfl (by first | rfl | assumption) B3 rfl rfl ?_
  intro w7 m7 X7
  replace B3 := Blk.eq (ys := [_, _, _]) X7 rfl
  clear X7
  replace G := G.above m7 (by intro i h; first | omega | (dsimp only at h; omega))
  replace hA := hA0.grow G
  replace B1 := B1.mod m7 (by intro h; first | omega | (dsimp only at h; omega))
  replace B2 := B2.mod m7 (by intro h; first | omega | (dsimp only at h; omega))
  replace B6 := B6.mod m7 (by intro h; first | omega | (dsimp only at h; omega))
  have zm7 := m7.size
  refine S_nil (L' := (_ :: _ :: _ :: _ :: _ :: _ :: _ :: _ :: _ :: _ :: _ :: _ :: _ :: _ :: _ :: [])) rfl rfl ?_
  refine th_n ?_
  refine hK5 _ _ ?_
  clear hK5 K5
  refine wp_seq_k fun K6 hK6 => ?_
  refine wp_region_lit ?_  -- region 5 exact.go:109
  refine S_beg 15 rfl ?_
  refine S_val (Y_loadS Try.underlying80 rfl sz80 rfl (by first | assumption | exact B1.row (by rfl) | exact B2.row (by rfl) | exact B3.row (by rfl) | exact B6.row (by rfl))) ?_  -- l4
  refine S_stM (pre := []) (old := [_, _, _]) (post := []) (vs := [_, _, _]) sz80 rfl rfl rfl (by first | rfl | assumption) B2 rfl rfl ?_
  intro w8 m8 X8
  replace B2 := Blk.eq (ys := [_, _, _]) X8 rfl
  clear X8
  replace G := G.above m8 (by intro i h; first | omega | (dsimp only at h; omega))
  replace hA := hA0.grow G
  replace B1 := B1.mod m8 (by intro h; first | omega | (dsimp only at h; omega))
  replace B3 := B3.mod m8 (by intro h; first | omega | (dsimp only at h; omega))
  replace B6 := B6.mod m8 (by intro h; first | omega | (dsimp only at h; omega))
  have zm8 := m8.size
  refine S_nil (L' := (_ :: _ :: _ :: _ :: _ :: _ :: _ :: _ :: _ :: _ :: _ :: _ :: _ :: _ :: _ :: [])) rfl rfl ?_
  refine th_n ?_
  refine hK6 _ _ ?_
  clear hK6 K6
  refine wp_ret ?_
  refine ret_rc (cs := [_, _, _]) Try.underlying80 rfl sz80 rfl rfl (B2.row (by rfl)) ?_  -- r1
  exact ⟨_, rfl, by omega, by assumption, G⟩

set_option maxHeartbeats 400000 in
set_option maxRecDepth 20000 in
theorem laws_toCellS_c (Pr : Nat → Prop) (A : Option Addr) (xs : List LC) (c : Nat) (w : World) (hA : RC Pr w A xs) (hx : xs.length ≤ 1048576) (hr : ∀ k (h : k < xs.length), xs[k].refs.length ≤ 1048576) :
    Calls Try.prog 71 #[.slice A xs.length c] w (Ret fun v w' => ∃ b rs, v = .slice (some ⟨b, 0, none⟩) xs.length xs.length ∧ OC (fun k => w.heap.size ≤ k) w' 80 3 (some ⟨b, 0, none⟩) xs rs ∧ Grow w w') := by
  refine enter Try.func71 rfl Try.ntmps71 (L := (_ :: _ :: _ :: _ :: _ :: _ :: _ :: _ :: _ :: _ :: _ :: _ :: _ :: _ :: _ :: _ :: _ :: _ :: _ :: _ :: _ :: _ :: _ :: [])) rfl ?_
  have G := Mod.refl No w
  have hA0 := hA
  refine wp_seq_k fun K1 hK1 => ?_
  refine wp_region_lit ?_  -- region 0 exact.go:112
  refine S_beg 23 rfl ?_
  refine S_val (Y_assign rfl) ?_
  refine S_nil (L' := (_ :: _ :: _ :: _ :: _ :: _ :: _ :: _ :: _ :: _ :: _ :: _ :: _ :: _ :: _ :: _ :: _ :: _ :: _ :: _ :: _ :: _ :: _ :: [])) rfl rfl ?_
  refine th_n ?_
  refine hK1 _ _ ?_
  clear hK1 K1
  refine wp_seq_k fun K2 hK2 => ?_
  refine wp_region_lit ?_  -- region 1 exact.go:113
  refine S_beg 23 rfl ?_
  refine S_val (Y_move rfl) ?_
  refine S_val (Y_len Try.underlying22 rfl) ?_
  refine S_make (z := [.bool false, .int .i64 0, .slice none 0 0]) Try.underlying31 zr80 sz80 by80 rfl rfl (by omega) (by omega) (by omega) ?_
  intro b1 w1 fb1 g1 B1
  have lb1 := B1.lt
  replace hA := hA.grow g1
  replace G := G.grow g1
  have zg1 := g1.size
  refine S_val (Y_assign rfl) ?_
  refine S_nil (L' := (_ :: _ :: _ :: _ :: _ :: _ :: _ :: _ :: _ :: _ :: _ :: _ :: _ :: _ :: _ :: _ :: _ :: _ :: _ :: _ :: _ :: _ :: _ :: [])) rfl rfl ?_
  refine th_n ?_
  refine hK2 _ _ ?_
  clear hK2 K2
  refine wp_seq_k fun K3 hK3 => ?_
  refine wp_seq_k fun K4 hK4 => ?_
  refine wp_region_lit ?_  -- region 2 exact.go:114
  refine S_beg 23 rfl ?_
  refine S_val (Y_assign rfl) ?_
  refine S_nil (L' := (_ :: _ :: _ :: _ :: _ :: _ :: _ :: _ :: _ :: _ :: _ :: _ :: _ :: _ :: _ :: _ :: _ :: _ :: _ :: _ :: _ :: _ :: _ :: [])) rfl rfl ?_
  refine th_n ?_
  refine hK4 _ _ ?_
  clear hK4 K4
  refine wp_block ?_
  go_loopw [4] (fun u4 wr => (∃ (k : Nat) (rs : List (Option Addr × Nat)), u4 = .int .i64 k ∧ k ≤ xs.length ∧ Blk wr b1 80 (flatC (xs.take k) rs ++ zeros [.bool false, .int .i64 0, .slice none 0 0] (xs.length - k)).toArray ∧ ORs (fun i => b1 < i) wr 3 (xs.take k) rs) ∧ Mod (fun i => i = b1) w1 wr) (fun u4 wr => xs.length - (intOf u4).toNat)  -- L1
  case atStart =>
    refine ⟨?_, Mod.refl _ _⟩
    exact ⟨0, [], rfl, by omega, by simpa [flatC] using B1, ORs.nil _ _ _⟩
  case round =>
    obtain ⟨w2, rfl⟩ : ∃ x : World, x = wr := ⟨_, rfl⟩
    obtain ⟨hrel, g2⟩ := hrel
    clear B1
    replace G := G.above g2 (by intro i h; first | omega | (dsimp only at h; omega))
    replace hA := hA0.grow G
    have zg2 := g2.size
    obtain ⟨k, rs, rfl, hk, B1, O1⟩ := hrel
    replace O1 := O1.lt
    have lb1b := B1.lt
    have GL2 := g2
    refine wp_seq_k fun K5 hK5 => ?_
    refine wp_seq_k fun K6 hK6 => ?_
    refine wp_region_lit ?_  -- region 3 exact.go:114
    refine S_beg 23 rfl ?_
    refine S_val (Y_move rfl) ?_
    refine S_val (Y_move rfl) ?_
    refine S_val (Y_len Try.underlying22 rfl) ?_
    refine S_val (Y_lss rfl rfl) ?_
    refine S_nil (L' := (_ :: _ :: _ :: _ :: _ :: _ :: _ :: _ :: _ :: _ :: _ :: _ :: _ :: _ :: _ :: _ :: _ :: _ :: _ :: _ :: _ :: _ :: _ :: [])) rfl rfl ?_
    refine th_n ?_
    refine hK6 _ _ ?_
    clear hK6 K6
    refine S_if rfl (fun hb1 => ?_) (fun hb1 => ?_)  -- c1
    · -- c1T
      first | with_reducible (replace hb1 := nb_nt hb1) | with_reducible (replace hb1 := nb_nf hb1) | with_reducible (replace hb1 := nb_tt hb1) | with_reducible (replace hb1 := nb_tf hb1) | with_reducible (replace hb1 := nb_bt hb1) | with_reducible (replace hb1 := nb_bf hb1) | skip
      have hk1 : k < xs.length := by omega
      obtain ⟨g1, o1, E1, e1, rfl, hp1, cc10, hE10⟩ := hA0.cell hk1
      have cc1 := cc10.grow G
      have hE1 := hE10.grow G
      have hr1 := hr k hk1
      rw [zeros_pos (by omega)] at B1
      refine wp_skip ?_
      refine th_n ?_
      refine hK5 _ _ ?_
      clear hK5 K5
      refine wp_seq_k fun K7 hK7 => ?_
      refine wp_block ?_
      refine wp_region_lit ?_  -- region 5 exact.go:115
      refine S_beg 23 rfl ?_
      refine S_val (Y_move rfl) ?_
      refine S_val (Y_move rfl) ?_
      refine S_val (Y_move rfl) ?_
      refine S_val (Y_move rfl) ?_
      refine S_val (Y_index Try.underlying22 sz115 rfl rfl (by first | assumption | omega)) ?_
      refine S_val (Y_loadS Try.underlying115 rfl sz115 rfl (by first | assumption | exact B1.row (by rfl))) ?_  -- l1
      refine S_call rfl en113 (laws_toCell_c _ _ _ _ _ (by assumption) (by omega)) ?_  -- k1 laws.toCell
      rintro v3 w3 ⟨b3, rfl, fb3, B3, g3⟩
      replace hA := hA.grow g3
      replace cc1 := cc1.grow g3
      replace hE1 := hE1.grow g3
      replace O1 := O1.grow g3
      replace G := G.grow g3
      replace GL2 := GL2.grow g3
      replace B1 := B1.grow g3
      have zg3 := g3.size
      have lb3 := B3.lt
      refine S_val (Y_index Try.underlying31 sz80 rfl rfl (by first | assumption | omega)) ?_
      refine S_stM (pre := flatC (xs.take k) rs) (old := [.bool false, .int .i64 0, .slice none 0 0]) (post := zeros [.bool false, .int .i64 0, .slice none 0 0] (xs.length - k - 1)) (vs := [_, _, _]) sz80 rfl rfl rfl rfl (by rw [List.append_assoc]; exact B1) (by rw [O1.flat, List.length_take]; omega) rfl ?_
      intro w4 m4 X4
      replace B1 := Blk.eq X4 (flatC_snoc O1.len hk1)
      clear X4
      replace G := G.above m4 (by intro i h; first | omega | (dsimp only at h; omega))
      replace GL2 := Mod.trans' GL2 m4 (fun _ h _ => h) (fun i h _ => by first | exact h | omega | (dsimp only at h ⊢; omega) | (subst h; rfl) | (subst h; exact ⟨by omega, rfl⟩))
      replace hA := hA0.grow G
      replace cc1 := cc10.grow G
      replace hE1 := hE10.grow G
      replace O1 := O1.mod m4 (by intro k hk h; first | omega | (dsimp only at hk h; omega) | (dsimp only at hk; omega))
      replace B3 := B3.mod m4 (by intro h; first | omega | (dsimp only at h; omega))
      have zm4 := m4.size
      refine S_nil (L' := (_ :: _ :: _ :: _ :: _ :: _ :: _ :: _ :: _ :: _ :: _ :: _ :: _ :: _ :: _ :: _ :: _ :: _ :: _ :: _ :: _ :: _ :: _ :: [])) rfl rfl ?_
      refine ib_n ?_
      refine th_n ?_
      refine hK7 _ _ ?_
      clear hK7 K7
      refine wp_region_lit ?_  -- region 4 exact.go:114
      refine S_beg 23 rfl ?_
      refine S_val (Y_move rfl) ?_
      refine S_val (Y_inc rfl rfl (by omega)) ?_
      refine S_val (Y_assign rfl) ?_
      refine S_nil (L' := (_ :: _ :: _ :: _ :: _ :: _ :: _ :: _ :: _ :: _ :: _ :: _ :: _ :: _ :: _ :: _ :: _ :: _ :: _ :: _ :: _ :: _ :: _ :: [])) rfl rfl ?_
      refine th_n ?_
      go_roundw  -- e1 of L1
      case rel =>
        refine ⟨?_, GL2⟩
        refine ⟨k + 1, _, rfl, by omega, B1, ?_⟩
        rw [List.take_succ_eq_append_getElem hk1]
        exact O1.snoc (OI.of_blk' B3 (by omega)) (fun i hi => hi.1) (fun i b hi e => by simp only [Option.some.injEq, Addr.mk.injEq, and_true] at e; omega)
      case measure =>
        exact dec_nat (by omega)
    · -- c1F
      first | with_reducible (replace hb1 := nb_nt hb1) | with_reducible (replace hb1 := nb_nf hb1) | with_reducible (replace hb1 := nb_tt hb1) | with_reducible (replace hb1 := nb_tf hb1) | with_reducible (replace hb1 := nb_bt hb1) | with_reducible (replace hb1 := nb_bf hb1) | skip
      refine wp_exit ?_
      refine th_x ?_
      clear GL2
      refine th_x ?_
      refine ib_e ?_
      refine th_n ?_
      refine hK3 _ _ ?_
      clear hK5 K5 hK3 K3
      refine wp_seq_k fun K8 hK8 => ?_
      refine wp_region_lit ?_  -- region 6 exact.go:117
      refine S_beg 23 rfl ?_
      refine S_val (Y_move rfl) ?_
      refine S_val (Y_assign rfl) ?_
      refine S_nil (L' := (_ :: _ :: _ :: _ :: _ :: _ :: _ :: _ :: _ :: _ :: _ :: _ :: _ :: _ :: _ :: _ :: _ :: _ :: _ :: _ :: _ :: _ :: _ :: [])) rfl rfl ?_
      refine th_n ?_
      refine hK8 _ _ ?_
      clear hK8 K8
      refine wp_ret ?_
      refine ret_r1 rfl rfl ?_  -- r1
      have : k = xs.length := by omega
      subst this
      rw [List.take_length] at O1 B1
      exact ⟨b1, rs, rfl, ⟨O1.weak (fun i hi => by omega), fun _ => ⟨b1, _, rfl, fb1, B1⟩⟩, G⟩

set_option maxHeartbeats 400000 in
set_option maxRecDepth 20000 in
theorem laws_toHeap_c (Pr : Nat → Prop) (A B : Option Addr) (h : LH) (c d : Nat) (w : World) (hA : RC Pr w A h.cells) (hB : R1 Pr w B (ints h.roots)) (hz : hsize h ≤ 1048576) :
    Calls Try.prog 21 #[.agg #[.slice A h.cells.length c, .slice B h.roots.length d]] w (Ret fun v w' => ∃ a b rs, v = .agg #[.slice (some ⟨a, 0, none⟩) h.cells.length h.cells.length, .slice (some ⟨b, 0, none⟩) h.roots.length h.roots.length] ∧ OH (fun k => w.heap.size ≤ k) w' 80 3 (some ⟨a, 0, none⟩) (some ⟨b, 0, none⟩) h rs ∧ Grow w w') := by
  have hz1 := hsize_cells h
  have hz2 := hsize_roots h
  have hz3 : ∀ k (hk : k < h.cells.length), h.cells[k].refs.length ≤ 1048576 := fun k hk => Nat.le_trans (hsize_refs h hk) hz
  refine enter Try.func21 rfl Try.ntmps21 (L := (_ :: _ :: _ :: _ :: _ :: _ :: _ :: _ :: _ :: _ :: _ :: _ :: _ :: [])) rfl ?_
  have G := Mod.refl No w
  have hA0 := hA
  have hB0 := hB
  refine wp_seq_k fun K1 hK1 => ?_
  refine wp_region_lit ?_  -- region 0 exact.go:120
  refine S_beg 13 rfl ?_
  refine S_box (cs := [_, _]) rfl rfl ?_
  intro b1 w1 fb1 g1 B1
  have lb1 := B1.lt
  replace hA := hA.grow g1
  replace hB := hB.grow g1
  replace G := G.grow g1
  have zg1 := g1.size
  refine S_alloc (cs := [_, _]) zr33 rfl ?_
  intro b2 w2 fb2 g2 B2
  have lb2 := B2.lt
  replace hA := hA.grow g2
  replace hB := hB.grow g2
  replace G := G.grow g2
  replace B1 := B1.grow g2
  have zg2 := g2.size
  refine S_nil (L' := (_ :: _ :: _ :: _ :: _ :: _ :: _ :: _ :: _ :: _ :: _ :: _ :: _ :: [])) rfl rfl ?_
  refine th_n ?_
  refine hK1 _ _ ?_
  clear hK1 K1
  refine wp_seq_k fun K2 hK2 => ?_
  refine wp_region_lit ?_  -- region 1 exact.go:121
  refine S_beg 13 rfl ?_
  refine S_alloc (cs := [_, _]) zr33 rfl ?_
  intro b3 w3 fb3 g3 B3
  have lb3 := B3.lt
  replace hA := hA.grow g3
  replace hB := hB.grow g3
  replace G := G.grow g3
  replace B1 := B1.grow g3
  replace B2 := B2.grow g3
  have zg3 := g3.size
  refine S_nil (L' := (_ :: _ :: _ :: _ :: _ :: _ :: _ :: _ :: _ :: _ :: _ :: _ :: _ :: [])) rfl rfl ?_
  refine th_n ?_
  refine hK2 _ _ ?_
  clear hK2 K2
  refine wp_seq_k fun K3 hK3 => ?_
  refine wp_region_lit ?_  -- region 2 exact.go:122
  refine S_beg 13 rfl ?_
  refine S_val (Y_field Try.underlying25 rfl fz25_0 (by decide) rfl) ?_
  refine S_val (Y_load Try.underlying22 rfl rfl (by first | assumption | exact B1.at (by rfl) | exact B2.at (by rfl) | exact B3.at (by rfl))) ?_  -- l1
  refine S_call rfl en71 (laws_toCellS_c _ _ _ _ _ (by assumption) (by omega) (by assumption)) ?_  -- k1 laws.toCellS
  rintro v4 w4 ⟨b4, rs4, rfl, O4, g4⟩
  replace hA := hA.grow g4
  replace hB := hB.grow g4
  replace G := G.grow g4
  replace B1 := B1.grow g4
  replace B2 := B2.grow g4
  replace B3 := B3.grow g4
  have zg4 := g4.size
  replace O4 := O4.lt
  refine S_val (Y_field Try.underlying33 rfl fz33_0 (by decide) rfl) ?_
  refine S_stM (pre := []) (old := [_]) (post := [_]) (vs := [_]) sz31 rfl rfl rfl (by first | rfl | assumption) B3 rfl rfl ?_
  intro w5 m5 X5
  replace B3 := Blk.eq (ys := [_, _]) X5 rfl
  clear X5
  replace G := G.above m5 (by intro i h; first | omega | (dsimp only at h; omega))
  replace hA := hA0.grow G
  replace hB := hB0.grow G
  replace O4 := O4.mod m5 (by intro k hk h; first | omega | (dsimp only at hk h; omega) | (dsimp only at hk; omega))
  replace B1 := B1.mod m5 (by intro h; first | omega | (dsimp only at h; omega))
  replace B2 := B2.mod m5 (by intro h; first | omega | (dsimp only at h; omega))
  have zm5 := m5.size
  refine S_nil (L' := (_ :: _ :: _ :: _ :: _ :: _ :: _ :: _ :: _ :: _ :: _ :: _ :: _ :: [])) rfl rfl ?_
  refine th_n ?_
  refine hK3 _ _ ?_
  clear hK3 K3
  refine wp_seq_k fun K4 hK4 => ?_
  refine wp_region_lit ?_  -- region 3 exact.go:123
  refine S_beg 13 rfl ?_
  refine S_val (Y_field Try.underlying25 rfl fz25_1 (by decide) rfl) ?_
  refine S_val (Y_load Try.underlying23 rfl rfl (by first | assumption | exact B1.at (by rfl) | exact B2.at (by rfl) | exact B3.at (by rfl))) ?_  -- l2
  refine S_call rfl en29 (laws_toIntS_c _ _ _ _ _ (by assumption) (by omega)) ?_  -- k2 laws.toIntS
  rintro v6 w6 ⟨b6, rfl, fb6, B6, g6⟩
  replace hA := hA.grow g6
  replace hB := hB.grow g6
  replace O4 := O4.grow g6
  replace G := G.grow g6
  replace B1 := B1.grow g6
  replace B2 := B2.grow g6
  replace B3 := B3.grow g6
  have zg6 := g6.size
  have lb6 := B6.lt
  refine S_val (Y_field Try.underlying33 rfl fz33_1 (by decide) rfl) ?_
  refine S_stM (pre := [_]) (old := [_]) (post := []) (vs := [_]) sz23 rfl rfl rfl (by first | rfl | assumption) B3 rfl rfl ?_
  intro w7 m7 X7
  replace B3 := Blk.eq (ys := [_, _]) X7 rfl
  clear X7
  replace G := G.above m7 (by intro i h; first | omega | (dsimp only at h; omega))
  replace hA := hA0.grow G
  replace hB := hB0.grow G
  replace O4 := O4.mod m7 (by intro k hk h; first | omega | (dsimp only at hk h; omega) | (dsimp only at hk; omega))
  replace B1 := B1.mod m7 (by intro h; first | omega | (dsimp only at h; omega))
  replace B2 := B2.mod m7 (by intro h; first | omega | (dsimp only at h; omega))
  replace B6 := B6.mod m7 (by intro h; first | omega | (dsimp only at h; omega))
  have zm7 := m7.size
  refine S_nil (L' := (_ :: _ :: _ :: _ :: _ :: _ :: _ :: _ :: _ :: _ :: _ :: _ :: _ :: [])) rfl rfl ?_
  refine th_n ?_
  refine hK4 _ _ ?_
  clear hK4 K4
  refine wp_seq_k fun K5 hK5 => ?_
  refine wp_region_lit ?_  -- region 4 exact.go:124
  refine S_beg 13 rfl ?_
  refine S_val (Y_loadS Try.underlying33 rfl sz33 rfl (by first | assumption | exact B1.row (by rfl) | exact B2.row (by rfl) | exact B3.row (by rfl) | exact B6.row (by rfl))) ?_  -- l3
  refine S_stM (pre := []) (old := [_, _]) (post := []) (vs := [_, _]) sz33 rfl rfl rfl (by first | rfl | assumption) B2 rfl rfl ?_
  intro w8 m8 X8
  replace B2 := Blk.eq (ys := [_, _]) X8 rfl
  clear X8
  replace G := G.above m8 (by intro i h; first | omega | (dsimp only at h; omega))
  replace hA := hA0.grow G
  replace hB := hB0.grow G
  replace O4 := O4.mod m8 (by intro k hk h; first | omega | (dsimp only at hk h; omega) | (dsimp only at hk; omega))
  replace B1 := B1.mod m8 (by intro h; first | omega | (dsimp only at h; omega))
  replace B3 := B3.mod m8 (by intro h; first | omega | (dsimp only at h; omega))
  replace B6 := B6.mod m8 (by intro h; first | omega | (dsimp only at h; omega))
  have zm8 := m8.size
  refine S_nil (L' := (_ :: _ :: _ :: _ :: _ :: _ :: _ :: _ :: _ :: _ :: _ :: _ :: _ :: [])) rfl rfl ?_
  refine th_n ?_
  refine hK5 _ _ ?_
  clear hK5 K5
  refine wp_ret ?_
  refine ret_rc (cs := [_, _]) Try.underlying33 rfl sz33 rfl rfl (B2.row (by rfl)) ?_  -- r1
  exact ⟨_, _, _, rfl, OH.of_parts O4 (OI.of_blk' (Pr := fun k => k = b6) B6 rfl) (fun k b h1 h2 h3 => by omega) (fun k hk => by omega) (fun k hk => by omega), G⟩

end Go.Proofs.Ytdfifnplgbceaab
