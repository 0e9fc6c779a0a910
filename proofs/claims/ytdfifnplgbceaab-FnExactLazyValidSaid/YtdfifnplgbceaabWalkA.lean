/-
  Walks: the laws' own helpers that measure and compare values.
  Conditions: those that each theorem states.
-/
import Derived.Test.YtdfifnplgbceaabTy
import Derived.Test.YtdfifnplgbceaabOps
import Derived.Test.YtdfifnplgbceaabPlain
namespace Go.Proofs.Ytdfifnplgbceaab
open Go Go.RowKit
attribute [local irreducible] wpList wpAnyH Code.wp dOp

theorem bF {p : Prop} [Decidable p] (h : ¬ p) : Value.bool false = .bool (decide p) := by simp [h]
theorem bT {p : Prop} [Decidable p] (h : p) : Value.bool true = .bool (decide p) := by simp [h]
theorem take_eq {α : Type} {xs ys : List α} {k : Nat} (h : xs.take k = ys.take k) (hx : k < xs.length) (hy : k < ys.length) (e : xs[k] = ys[k]) : xs.take (k + 1) = ys.take (k + 1) := by
  rw [List.take_succ_eq_append_getElem hx, List.take_succ_eq_append_getElem hy, h, e]
theorem take_all {α : Type} {xs ys : List α} {k : Nat} (h : xs.take k = ys.take k) (hx : xs.length ≤ k) (hy : ys.length ≤ k) : xs = ys := by
  rwa [List.take_of_length_le hx, List.take_of_length_le hy] at h


set_option maxHeartbeats 400000 in
set_option maxRecDepth 20000 in
theorem laws_szIntS_c (A : Option Addr) (n c : Nat) (left : Int) (w : World) (hn : n ≤ 9223372036854775807) (hl : -1 ≤ left) (hl2 : left ≤ 1048576) :
    Calls Try.prog 68 #[.slice A n c, .int .i64 left] w (Ret fun v w' => ∃ r : Int, v = .int .i64 r ∧ (-1 ≤ r ∧ r ≤ 1048576 ∧ (0 ≤ r → (n : Int) + r ≤ left)) ∧ Grow w w') := by
  refine enter Try.func68 rfl Try.ntmps68 (L := (_ :: _ :: _ :: _ :: _ :: _ :: _ :: _ :: _ :: _ :: _ :: _ :: [])) rfl ?_
  have G := Mod.refl No w
  refine wp_seq_k fun K1 hK1 => ?_
  refine wp_region_lit ?_  -- region 0 exact.go:134
  refine S_beg 12 rfl ?_
  refine S_val (Y_assign rfl) ?_
  refine S_nil (L' := (_ :: _ :: _ :: _ :: _ :: _ :: _ :: _ :: _ :: _ :: _ :: _ :: [])) rfl rfl ?_
  refine th_n ?_
  refine hK1 _ _ ?_
  clear hK1 K1
  refine wp_seq_k fun K2 hK2 => ?_
  refine wp_region_lit ?_  -- region 1 exact.go:135
  refine S_beg 12 rfl ?_
  refine S_val (Y_move rfl) ?_
  refine S_val (Y_move rfl) ?_
  refine S_val (Y_len Try.underlying23 rfl) ?_
  refine S_val (Y_sub rfl rfl rfl (by omega) (by omega)) ?_
  refine S_val (Y_assign rfl) ?_
  refine S_nil (L' := (_ :: _ :: _ :: _ :: _ :: _ :: _ :: _ :: _ :: _ :: _ :: _ :: [])) rfl rfl ?_
  refine th_n ?_
  refine hK2 _ _ ?_
  clear hK2 K2
  refine wp_seq_k fun K3 hK3 => ?_
  refine wp_seq_k fun K4 hK4 => ?_
  refine wp_region_lit ?_  -- region 2 exact.go:136
  refine S_beg 12 rfl ?_
  refine S_val (Y_move rfl) ?_
  refine S_val (Y_lss rfl rfl) ?_
  refine S_nil (L' := (_ :: _ :: _ :: _ :: _ :: _ :: _ :: _ :: _ :: _ :: _ :: _ :: [])) rfl rfl ?_
  refine th_n ?_
  refine hK4 _ _ ?_
  clear hK4 K4
  refine S_if rfl (fun hb1 => ?_) (fun hb1 => ?_)  -- c1
  · -- c1T
    first | with_reducible (replace hb1 := nb_nt hb1) | with_reducible (replace hb1 := nb_nf hb1) | with_reducible (replace hb1 := nb_tt hb1) | with_reducible (replace hb1 := nb_tf hb1) | with_reducible (replace hb1 := nb_bt hb1) | with_reducible (replace hb1 := nb_bf hb1) | skip
    refine wp_seq_k fun K5 hK5 => ?_
    refine wp_region_lit ?_  -- region 3 exact.go:137
    refine S_beg 12 rfl ?_
    refine S_val (Y_assign rfl) ?_
    refine S_nil (L' := (_ :: _ :: _ :: _ :: _ :: _ :: _ :: _ :: _ :: _ :: _ :: _ :: [])) rfl rfl ?_
    refine th_n ?_
    refine hK5 _ _ ?_
    clear hK5 K5
    refine wp_ret ?_
    refine th_r ?_
    clear hK3 K3
    refine ret_r1 rfl rfl ?_  -- r1
    exact ⟨_, rfl, by omega, G⟩
  · -- c1F
    first | with_reducible (replace hb1 := nb_nt hb1) | with_reducible (replace hb1 := nb_nf hb1) | with_reducible (replace hb1 := nb_tt hb1) | with_reducible (replace hb1 := nb_tf hb1) | with_reducible (replace hb1 := nb_bt hb1) | with_reducible (replace hb1 := nb_bf hb1) | skip
    refine wp_skip ?_
    refine th_n ?_
    refine hK3 _ _ ?_
    clear hK3 K3
    refine wp_seq_k fun K6 hK6 => ?_
    refine wp_region_lit ?_  -- region 4 exact.go:139
    refine S_beg 12 rfl ?_
    refine S_val (Y_move rfl) ?_
    refine S_val (Y_assign rfl) ?_
    refine S_nil (L' := (_ :: _ :: _ :: _ :: _ :: _ :: _ :: _ :: _ :: _ :: _ :: _ :: [])) rfl rfl ?_
    refine th_n ?_
    refine hK6 _ _ ?_
    clear hK6 K6
    refine wp_ret ?_
    refine ret_r1 rfl rfl ?_  -- r2
    exact ⟨_, rfl, by omega, G⟩

set_option maxHeartbeats 400000 in
set_option maxRecDepth 20000 in
theorem laws_szCell_c (u : Bool) (x : Int) (A : Option Addr) (n c : Nat) (left : Int) (w : World) (hn : n ≤ 9223372036854775807) (hl : -1 ≤ left) (hl2 : left ≤ 1048576) :
    Calls Try.prog 112 #[.agg #[.bool u, .int .i64 x, .slice A n c], .int .i64 left] w (Ret fun v w' => ∃ r : Int, v = .int .i64 r ∧ (-1 ≤ r ∧ r ≤ 1048576 ∧ (0 ≤ r → (n : Int) + r ≤ left)) ∧ Grow w w') := by
  refine enter Try.func112 rfl Try.ntmps112 (L := (_ :: _ :: _ :: _ :: _ :: _ :: _ :: _ :: _ :: _ :: _ :: _ :: [])) rfl ?_
  have G := Mod.refl No w
  refine wp_seq_k fun K1 hK1 => ?_
  refine wp_region_lit ?_  -- region 0 exact.go:142
  refine S_beg 12 rfl ?_
  refine S_box (cs := [_, _, _]) rfl rfl ?_
  intro b1 w1 fb1 g1 B1
  have lb1 := B1.lt
  replace G := G.grow g1
  have zg1 := g1.size
  refine S_val (Y_assign rfl) ?_
  refine S_nil (L' := (_ :: _ :: _ :: _ :: _ :: _ :: _ :: _ :: _ :: _ :: _ :: _ :: [])) rfl rfl ?_
  refine th_n ?_
  refine hK1 _ _ ?_
  clear hK1 K1
  refine wp_seq_k fun K2 hK2 => ?_
  refine wp_region_lit ?_  -- region 1 exact.go:143
  refine S_beg 12 rfl ?_
  refine S_val (Y_field Try.underlying115 rfl fz115_2 (by decide) rfl) ?_
  refine S_val (Y_load Try.underlying23 rfl rfl (by first | assumption | exact B1.at (by rfl))) ?_  -- l1
  refine S_val (Y_move rfl) ?_
  refine S_call rfl en68 (laws_szIntS_c _ _ _ _ _ (by omega) (by omega) (by omega)) ?_  -- k1 laws.szIntS
  rintro v2 w2 ⟨r2, rfl, hr2, g2⟩
  replace G := G.grow g2
  replace B1 := B1.grow g2
  have zg2 := g2.size
  refine S_val (Y_assign rfl) ?_
  refine S_nil (L' := (_ :: _ :: _ :: _ :: _ :: _ :: _ :: _ :: _ :: _ :: _ :: _ :: [])) rfl rfl ?_
  refine th_n ?_
  refine hK2 _ _ ?_
  clear hK2 K2
  refine wp_seq_k fun K3 hK3 => ?_
  refine wp_seq_k fun K4 hK4 => ?_
  refine wp_region_lit ?_  -- region 2 exact.go:144
  refine S_beg 12 rfl ?_
  refine S_val (Y_move rfl) ?_
  refine S_val (Y_lss rfl rfl) ?_
  refine S_nil (L' := (_ :: _ :: _ :: _ :: _ :: _ :: _ :: _ :: _ :: _ :: _ :: _ :: [])) rfl rfl ?_
  refine th_n ?_
  refine hK4 _ _ ?_
  clear hK4 K4
  refine S_if rfl (fun hb1 => ?_) (fun hb1 => ?_)  -- c1
  · -- c1T
    first | with_reducible (replace hb1 := nb_nt hb1) | with_reducible (replace hb1 := nb_nf hb1) | with_reducible (replace hb1 := nb_tt hb1) | with_reducible (replace hb1 := nb_tf hb1) | with_reducible (replace hb1 := nb_bt hb1) | with_reducible (replace hb1 := nb_bf hb1) | skip
    refine wp_seq_k fun K5 hK5 => ?_
    refine wp_region_lit ?_  -- region 3 exact.go:145
    refine S_beg 12 rfl ?_
    refine S_val (Y_assign rfl) ?_
    refine S_nil (L' := (_ :: _ :: _ :: _ :: _ :: _ :: _ :: _ :: _ :: _ :: _ :: _ :: [])) rfl rfl ?_
    refine th_n ?_
    refine hK5 _ _ ?_
    clear hK5 K5
    refine wp_ret ?_
    refine th_r ?_
    clear hK3 K3
    refine ret_r1 rfl rfl ?_  -- r1
    exact ⟨_, rfl, by omega, G⟩
  · -- c1F
    first | with_reducible (replace hb1 := nb_nt hb1) | with_reducible (replace hb1 := nb_nf hb1) | with_reducible (replace hb1 := nb_tt hb1) | with_reducible (replace hb1 := nb_tf hb1) | with_reducible (replace hb1 := nb_bt hb1) | with_reducible (replace hb1 := nb_bf hb1) | skip
    refine wp_skip ?_
    refine th_n ?_
    refine hK3 _ _ ?_
    clear hK3 K3
    refine wp_seq_k fun K6 hK6 => ?_
    refine wp_region_lit ?_  -- region 4 exact.go:147
    refine S_beg 12 rfl ?_
    refine S_val (Y_move rfl) ?_
    refine S_val (Y_assign rfl) ?_
    refine S_nil (L' := (_ :: _ :: _ :: _ :: _ :: _ :: _ :: _ :: _ :: _ :: _ :: _ :: [])) rfl rfl ?_
    refine th_n ?_
    refine hK6 _ _ ?_
    clear hK6 K6
    refine wp_ret ?_
    refine ret_r1 rfl rfl ?_  -- r2
    exact ⟨_, rfl, by omega, G⟩

set_option maxHeartbeats 400000 in
set_option maxRecDepth 20000 in
theorem laws_szCellS_c (Pr : Nat → Prop) (A : Option Addr) (cs : List LC) (c : Nat) (left : Int) (w : World) (hA : RC Pr w A cs) (hn : cs.length ≤ 9223372036854775807) (hN : ∀ x ∈ cs, x.refs.length ≤ 9223372036854775807) (hl : -1 ≤ left) (hl2 : left ≤ 1048576) :
    Calls Try.prog 67 #[.slice A cs.length c, .int .i64 left] w (Ret fun v w' => ∃ r : Int, v = .int .i64 r ∧ (-1 ≤ r ∧ r ≤ 1048576 ∧ (0 ≤ r → (cs.length : Int) + rsum cs cs.length + r ≤ left)) ∧ Grow w w') := by
  refine enter Try.func67 rfl Try.ntmps67 (L := (_ :: _ :: _ :: _ :: _ :: _ :: _ :: _ :: _ :: _ :: _ :: _ :: _ :: _ :: _ :: _ :: _ :: _ :: _ :: _ :: _ :: _ :: _ :: _ :: _ :: _ :: _ :: [])) rfl ?_
  have G := Mod.refl No w
  have hA0 := hA
  refine wp_seq_k fun K1 hK1 => ?_
  refine wp_region_lit ?_  -- region 0 exact.go:150
  refine S_beg 27 rfl ?_
  refine S_val (Y_assign rfl) ?_
  refine S_nil (L' := (_ :: _ :: _ :: _ :: _ :: _ :: _ :: _ :: _ :: _ :: _ :: _ :: _ :: _ :: _ :: _ :: _ :: _ :: _ :: _ :: _ :: _ :: _ :: _ :: _ :: _ :: _ :: [])) rfl rfl ?_
  refine th_n ?_
  refine hK1 _ _ ?_
  clear hK1 K1
  refine wp_seq_k fun K2 hK2 => ?_
  refine wp_region_lit ?_  -- region 1 exact.go:151
  refine S_beg 27 rfl ?_
  refine S_val (Y_move rfl) ?_
  refine S_val (Y_move rfl) ?_
  refine S_val (Y_len Try.underlying22 rfl) ?_
  refine S_val (Y_sub rfl rfl rfl (by omega) (by omega)) ?_
  refine S_val (Y_assign rfl) ?_
  refine S_nil (L' := (_ :: _ :: _ :: _ :: _ :: _ :: _ :: _ :: _ :: _ :: _ :: _ :: _ :: _ :: _ :: _ :: _ :: _ :: _ :: _ :: _ :: _ :: _ :: _ :: _ :: _ :: _ :: [])) rfl rfl ?_
  refine th_n ?_
  refine hK2 _ _ ?_
  clear hK2 K2
  refine wp_seq_k fun K3 hK3 => ?_
  refine wp_seq_k fun K4 hK4 => ?_
  refine wp_region_lit ?_  -- region 2 exact.go:152
  refine S_beg 27 rfl ?_
  refine S_val (Y_move rfl) ?_
  refine S_val (Y_lss rfl rfl) ?_
  refine S_nil (L' := (_ :: _ :: _ :: _ :: _ :: _ :: _ :: _ :: _ :: _ :: _ :: _ :: _ :: _ :: _ :: _ :: _ :: _ :: _ :: _ :: _ :: _ :: _ :: _ :: _ :: _ :: _ :: [])) rfl rfl ?_
  refine th_n ?_
  refine hK4 _ _ ?_
  clear hK4 K4
  refine S_if rfl (fun hb1 => ?_) (fun hb1 => ?_)  -- c1
  · -- c1T
    first | with_reducible (replace hb1 := nb_nt hb1) | with_reducible (replace hb1 := nb_nf hb1) | with_reducible (replace hb1 := nb_tt hb1) | with_reducible (replace hb1 := nb_tf hb1) | with_reducible (replace hb1 := nb_bt hb1) | with_reducible (replace hb1 := nb_bf hb1) | skip
    refine wp_seq_k fun K5 hK5 => ?_
    refine wp_region_lit ?_  -- region 3 exact.go:153
    refine S_beg 27 rfl ?_
    refine S_val (Y_assign rfl) ?_
    refine S_nil (L' := (_ :: _ :: _ :: _ :: _ :: _ :: _ :: _ :: _ :: _ :: _ :: _ :: _ :: _ :: _ :: _ :: _ :: _ :: _ :: _ :: _ :: _ :: _ :: _ :: _ :: _ :: _ :: [])) rfl rfl ?_
    refine th_n ?_
    refine hK5 _ _ ?_
    clear hK5 K5
    refine wp_ret ?_
    refine th_r ?_
    clear hK3 K3
    refine ret_r1 rfl rfl ?_  -- r1
    exact ⟨_, rfl, by omega, G⟩
  · -- c1F
    first | with_reducible (replace hb1 := nb_nt hb1) | with_reducible (replace hb1 := nb_nf hb1) | with_reducible (replace hb1 := nb_tt hb1) | with_reducible (replace hb1 := nb_tf hb1) | with_reducible (replace hb1 := nb_bt hb1) | with_reducible (replace hb1 := nb_bf hb1) | skip
    refine wp_skip ?_
    refine th_n ?_
    refine hK3 _ _ ?_
    clear hK3 K3
    refine wp_seq_k fun K6 hK6 => ?_
    refine wp_seq_k fun K7 hK7 => ?_
    refine wp_region_lit ?_  -- region 4 exact.go:155
    refine S_beg 27 rfl ?_
    refine S_val (Y_assign rfl) ?_
    refine S_nil (L' := (_ :: _ :: _ :: _ :: _ :: _ :: _ :: _ :: _ :: _ :: _ :: _ :: _ :: _ :: _ :: _ :: _ :: _ :: _ :: _ :: _ :: _ :: _ :: _ :: _ :: _ :: _ :: [])) rfl rfl ?_
    refine th_n ?_
    refine hK7 _ _ ?_
    clear hK7 K7
    refine wp_block ?_
    go_loopw [1, 5] (fun u1 u5 wr => (∃ (k : Nat) (l : Int), u5 = .int .i64 k ∧ u1 = .int .i64 l ∧ k ≤ cs.length ∧ 0 ≤ l ∧ (cs.length : Int) + rsum cs k + l ≤ left) ∧ Mod No w wr) (fun u1 u5 wr => cs.length - (intOf u5).toNat)  -- L1
    case atStart =>
      refine ⟨?_, Mod.refl _ _⟩
      exact ⟨0, _, rfl, rfl, by omega, by omega, by simp [rsum]; omega⟩
    case round =>
      obtain ⟨w1, rfl⟩ : ∃ x : World, x = wr := ⟨_, rfl⟩
      obtain ⟨hrel, g1⟩ := hrel
      replace hA := hA.grow g1
      replace G := G.grow g1
      have zg1 := g1.size
      obtain ⟨k, l, rfl, rfl, hk, hl0, hs⟩ := hrel
      have GL1 := g1
      refine wp_seq_k fun K8 hK8 => ?_
      refine wp_seq_k fun K9 hK9 => ?_
      refine wp_region_lit ?_  -- region 5 exact.go:155
      refine S_beg 27 rfl ?_
      refine S_val (Y_move rfl) ?_
      refine S_val (Y_move rfl) ?_
      refine S_val (Y_len Try.underlying22 rfl) ?_
      refine S_val (Y_lss rfl rfl) ?_
      refine S_nil (L' := (_ :: _ :: _ :: _ :: _ :: _ :: _ :: _ :: _ :: _ :: _ :: _ :: _ :: _ :: _ :: _ :: _ :: _ :: _ :: _ :: _ :: _ :: _ :: _ :: _ :: _ :: _ :: [])) rfl rfl ?_
      refine th_n ?_
      refine hK9 _ _ ?_
      clear hK9 K9
      refine S_if rfl (fun hb2 => ?_) (fun hb2 => ?_)  -- c2
      · -- c2T
        first | with_reducible (replace hb2 := nb_nt hb2) | with_reducible (replace hb2 := nb_nf hb2) | with_reducible (replace hb2 := nb_tt hb2) | with_reducible (replace hb2 := nb_tf hb2) | with_reducible (replace hb2 := nb_bt hb2) | with_reducible (replace hb2 := nb_bf hb2) | skip
        have hk2 : k < cs.length := by omega
        obtain ⟨g1, o1, E1, d1, rfl, hp1, hc1, _⟩ := hA.cell hk2
        have hN1 := hN cs[k] (List.getElem_mem hk2)
        refine wp_skip ?_
        refine th_n ?_
        refine hK8 _ _ ?_
        clear hK8 K8
        refine wp_seq_k fun K10 hK10 => ?_
        refine wp_block ?_
        refine wp_seq_k fun K11 hK11 => ?_
        refine wp_region_lit ?_  -- region 7 exact.go:156
        refine S_beg 27 rfl ?_
        refine S_val (Y_move rfl) ?_
        refine S_val (Y_move rfl) ?_
        refine S_val (Y_index Try.underlying22 sz115 rfl rfl (by first | assumption | omega)) ?_
        refine S_val (Y_loadS Try.underlying115 rfl sz115 rfl (by first | assumption | skip)) ?_  -- l1
        refine S_val (Y_move rfl) ?_
        refine S_call rfl en112 (laws_szCell_c _ _ _ _ _ _ _ (by omega) (by omega) (by omega)) ?_  -- k1 laws.szCell
        rintro v2 w2 ⟨r2, rfl, hr2, g2⟩
        replace hA := hA.grow g2
        replace G := G.grow g2
        replace GL1 := GL1.grow g2
        have zg2 := g2.size
        refine S_val (Y_assign rfl) ?_
        refine S_nil (L' := (_ :: _ :: _ :: _ :: _ :: _ :: _ :: _ :: _ :: _ :: _ :: _ :: _ :: _ :: _ :: _ :: _ :: _ :: _ :: _ :: _ :: _ :: _ :: _ :: _ :: _ :: _ :: [])) rfl rfl ?_
        refine th_n ?_
        refine hK11 _ _ ?_
        clear hK11 K11
        refine wp_seq_k fun K12 hK12 => ?_
        refine wp_region_lit ?_  -- region 8 exact.go:157
        refine S_beg 27 rfl ?_
        refine S_val (Y_move rfl) ?_
        refine S_val (Y_lss rfl rfl) ?_
        refine S_nil (L' := (_ :: _ :: _ :: _ :: _ :: _ :: _ :: _ :: _ :: _ :: _ :: _ :: _ :: _ :: _ :: _ :: _ :: _ :: _ :: _ :: _ :: _ :: _ :: _ :: _ :: _ :: _ :: [])) rfl rfl ?_
        refine th_n ?_
        refine hK12 _ _ ?_
        clear hK12 K12
        refine S_if rfl (fun hb3 => ?_) (fun hb3 => ?_)  -- c3
        · -- c3T
          first | with_reducible (replace hb3 := nb_nt hb3) | with_reducible (replace hb3 := nb_nf hb3) | with_reducible (replace hb3 := nb_tt hb3) | with_reducible (replace hb3 := nb_tf hb3) | with_reducible (replace hb3 := nb_bt hb3) | with_reducible (replace hb3 := nb_bf hb3) | skip
          refine wp_seq_k fun K13 hK13 => ?_
          refine wp_region_lit ?_  -- region 9 exact.go:158
          refine S_beg 27 rfl ?_
          refine S_val (Y_assign rfl) ?_
          refine S_nil (L' := (_ :: _ :: _ :: _ :: _ :: _ :: _ :: _ :: _ :: _ :: _ :: _ :: _ :: _ :: _ :: _ :: _ :: _ :: _ :: _ :: _ :: _ :: _ :: _ :: _ :: _ :: _ :: [])) rfl rfl ?_
          refine th_n ?_
          refine hK13 _ _ ?_
          clear hK13 K13
          refine wp_ret ?_
          refine ib_r ?_
          refine th_r ?_
          clear GL1
          refine th_r ?_
          refine ib_r ?_
          refine th_r ?_
          clear hK10 K10 hK6 K6
          refine ret_r1 rfl rfl ?_  -- r2
          exact ⟨_, rfl, by omega, G⟩
        · -- c3F
          first | with_reducible (replace hb3 := nb_nt hb3) | with_reducible (replace hb3 := nb_nf hb3) | with_reducible (replace hb3 := nb_tt hb3) | with_reducible (replace hb3 := nb_tf hb3) | with_reducible (replace hb3 := nb_bt hb3) | with_reducible (replace hb3 := nb_bf hb3) | skip
          refine wp_skip ?_
          refine ib_n ?_
          refine th_n ?_
          refine hK10 _ _ ?_
          clear hK10 K10
          refine wp_region_lit ?_  -- region 6 exact.go:155
          refine S_beg 27 rfl ?_
          refine S_val (Y_move rfl) ?_
          refine S_val (Y_inc rfl rfl (by omega)) ?_
          refine S_val (Y_assign rfl) ?_
          refine S_nil (L' := (_ :: _ :: _ :: _ :: _ :: _ :: _ :: _ :: _ :: _ :: _ :: _ :: _ :: _ :: _ :: _ :: _ :: _ :: _ :: _ :: _ :: _ :: _ :: _ :: _ :: _ :: _ :: [])) rfl rfl ?_
          refine th_n ?_
          go_roundw  -- e1 of L1
          case rel =>
            refine ⟨?_, GL1⟩
            exact ⟨k + 1, _, rfl, rfl, by omega, by omega, by rw [rsum_succ (by omega)]; omega⟩
          case measure =>
            exact dec_nat (by omega)
      · -- c2F
        first | with_reducible (replace hb2 := nb_nt hb2) | with_reducible (replace hb2 := nb_nf hb2) | with_reducible (replace hb2 := nb_tt hb2) | with_reducible (replace hb2 := nb_tf hb2) | with_reducible (replace hb2 := nb_bt hb2) | with_reducible (replace hb2 := nb_bf hb2) | skip
        refine wp_exit ?_
        refine th_x ?_
        clear GL1
        refine th_x ?_
        refine ib_e ?_
        refine th_n ?_
        refine hK6 _ _ ?_
        clear hK8 K8 hK6 K6
        refine wp_seq_k fun K14 hK14 => ?_
        refine wp_region_lit ?_  -- region 10 exact.go:161
        refine S_beg 27 rfl ?_
        refine S_val (Y_move rfl) ?_
        refine S_val (Y_assign rfl) ?_
        refine S_nil (L' := (_ :: _ :: _ :: _ :: _ :: _ :: _ :: _ :: _ :: _ :: _ :: _ :: _ :: _ :: _ :: _ :: _ :: _ :: _ :: _ :: _ :: _ :: _ :: _ :: _ :: _ :: _ :: [])) rfl rfl ?_
        refine th_n ?_
        refine hK14 _ _ ?_
        clear hK14 K14
        refine wp_ret ?_
        refine ret_r1 rfl rfl ?_  -- r3
        have : k = cs.length := by omega
        subst this
        exact ⟨_, rfl, by omega, G⟩

set_option maxHeartbeats 400000 in
set_option maxRecDepth 20000 in
theorem laws_szHeap_c (Pr : Nat → Prop) (A B : Option Addr) (h : LH) (c d : Nat) (left : Int) (w : World) (hA : RC Pr w A h.cells) (hn : h.cells.length ≤ 9223372036854775807) (hN : ∀ x ∈ h.cells, x.refs.length ≤ 9223372036854775807) (hm : h.roots.length ≤ 9223372036854775807) (hl : -1 ≤ left) (hl2 : left ≤ 1048576) :
    Calls Try.prog 19 #[.agg #[.slice A h.cells.length c, .slice B h.roots.length d], .int .i64 left] w (Ret fun v w' => ∃ r : Int, v = .int .i64 r ∧ (-1 ≤ r ∧ r ≤ 1048576 ∧ (0 ≤ r → (hsize h : Int) + r ≤ left)) ∧ Grow w w') := by
  refine enter Try.func19 rfl Try.ntmps19 (L := (_ :: _ :: _ :: _ :: _ :: _ :: _ :: _ :: _ :: _ :: _ :: _ :: _ :: _ :: _ :: _ :: _ :: _ :: [])) rfl ?_
  have G := Mod.refl No w
  have hA0 := hA
  refine wp_seq_k fun K1 hK1 => ?_
  refine wp_region_lit ?_  -- region 0 exact.go:164
  refine S_beg 18 rfl ?_
  refine S_box (cs := [_, _]) rfl rfl ?_
  intro b1 w1 fb1 g1 B1
  have lb1 := B1.lt
  replace hA := hA.grow g1
  replace G := G.grow g1
  have zg1 := g1.size
  refine S_val (Y_assign rfl) ?_
  refine S_nil (L' := (_ :: _ :: _ :: _ :: _ :: _ :: _ :: _ :: _ :: _ :: _ :: _ :: _ :: _ :: _ :: _ :: _ :: _ :: [])) rfl rfl ?_
  refine th_n ?_
  refine hK1 _ _ ?_
  clear hK1 K1
  refine wp_seq_k fun K2 hK2 => ?_
  refine wp_region_lit ?_  -- region 1 exact.go:165
  refine S_beg 18 rfl ?_
  refine S_val (Y_field Try.underlying25 rfl fz25_0 (by decide) rfl) ?_
  refine S_val (Y_load Try.underlying22 rfl rfl (by first | assumption | exact B1.at (by rfl))) ?_  -- l1
  refine S_val (Y_move rfl) ?_
  refine S_call rfl en67 (laws_szCellS_c _ _ _ _ _ _ (by assumption) (by omega) (by assumption) (by omega) (by omega)) ?_  -- k1 laws.szCellS
  rintro v2 w2 ⟨r2, rfl, hr2, g2⟩
  replace hA := hA.grow g2
  replace G := G.grow g2
  replace B1 := B1.grow g2
  have zg2 := g2.size
  refine S_val (Y_assign rfl) ?_
  refine S_nil (L' := (_ :: _ :: _ :: _ :: _ :: _ :: _ :: _ :: _ :: _ :: _ :: _ :: _ :: _ :: _ :: _ :: _ :: _ :: [])) rfl rfl ?_
  refine th_n ?_
  refine hK2 _ _ ?_
  clear hK2 K2
  refine wp_seq_k fun K3 hK3 => ?_
  refine wp_seq_k fun K4 hK4 => ?_
  refine wp_region_lit ?_  -- region 2 exact.go:166
  refine S_beg 18 rfl ?_
  refine S_val (Y_move rfl) ?_
  refine S_val (Y_lss rfl rfl) ?_
  refine S_nil (L' := (_ :: _ :: _ :: _ :: _ :: _ :: _ :: _ :: _ :: _ :: _ :: _ :: _ :: _ :: _ :: _ :: _ :: _ :: [])) rfl rfl ?_
  refine th_n ?_
  refine hK4 _ _ ?_
  clear hK4 K4
  refine S_if rfl (fun hb1 => ?_) (fun hb1 => ?_)  -- c1
  · -- c1T
    first | with_reducible (replace hb1 := nb_nt hb1) | with_reducible (replace hb1 := nb_nf hb1) | with_reducible (replace hb1 := nb_tt hb1) | with_reducible (replace hb1 := nb_tf hb1) | with_reducible (replace hb1 := nb_bt hb1) | with_reducible (replace hb1 := nb_bf hb1) | skip
    refine wp_seq_k fun K5 hK5 => ?_
    refine wp_region_lit ?_  -- region 3 exact.go:167
    refine S_beg 18 rfl ?_
    refine S_val (Y_assign rfl) ?_
    refine S_nil (L' := (_ :: _ :: _ :: _ :: _ :: _ :: _ :: _ :: _ :: _ :: _ :: _ :: _ :: _ :: _ :: _ :: _ :: _ :: [])) rfl rfl ?_
    refine th_n ?_
    refine hK5 _ _ ?_
    clear hK5 K5
    refine wp_ret ?_
    refine th_r ?_
    clear hK3 K3
    refine ret_r1 rfl rfl ?_  -- r1
    exact ⟨_, rfl, by unfold hsize; omega, G⟩
  · -- c1F
    first | with_reducible (replace hb1 := nb_nt hb1) | with_reducible (replace hb1 := nb_nf hb1) | with_reducible (replace hb1 := nb_tt hb1) | with_reducible (replace hb1 := nb_tf hb1) | with_reducible (replace hb1 := nb_bt hb1) | with_reducible (replace hb1 := nb_bf hb1) | skip
    refine wp_skip ?_
    refine th_n ?_
    refine hK3 _ _ ?_
    clear hK3 K3
    refine wp_seq_k fun K6 hK6 => ?_
    refine wp_region_lit ?_  -- region 4 exact.go:169
    refine S_beg 18 rfl ?_
    refine S_val (Y_field Try.underlying25 rfl fz25_1 (by decide) rfl) ?_
    refine S_val (Y_load Try.underlying23 rfl rfl (by first | assumption | exact B1.at (by rfl))) ?_  -- l2
    refine S_val (Y_move rfl) ?_
    refine S_call rfl en68 (laws_szIntS_c _ _ _ _ _ (by omega) (by omega) (by omega)) ?_  -- k2 laws.szIntS
    rintro v3 w3 ⟨r3, rfl, hr3, g3⟩
    replace hA := hA.grow g3
    replace G := G.grow g3
    replace B1 := B1.grow g3
    have zg3 := g3.size
    refine S_val (Y_assign rfl) ?_
    refine S_nil (L' := (_ :: _ :: _ :: _ :: _ :: _ :: _ :: _ :: _ :: _ :: _ :: _ :: _ :: _ :: _ :: _ :: _ :: _ :: [])) rfl rfl ?_
    refine th_n ?_
    refine hK6 _ _ ?_
    clear hK6 K6
    refine wp_seq_k fun K7 hK7 => ?_
    refine wp_seq_k fun K8 hK8 => ?_
    refine wp_region_lit ?_  -- region 5 exact.go:170
    refine S_beg 18 rfl ?_
    refine S_val (Y_move rfl) ?_
    refine S_val (Y_lss rfl rfl) ?_
    refine S_nil (L' := (_ :: _ :: _ :: _ :: _ :: _ :: _ :: _ :: _ :: _ :: _ :: _ :: _ :: _ :: _ :: _ :: _ :: _ :: [])) rfl rfl ?_
    refine th_n ?_
    refine hK8 _ _ ?_
    clear hK8 K8
    refine S_if rfl (fun hb2 => ?_) (fun hb2 => ?_)  -- c2
    · -- c2T
      first | with_reducible (replace hb2 := nb_nt hb2) | with_reducible (replace hb2 := nb_nf hb2) | with_reducible (replace hb2 := nb_tt hb2) | with_reducible (replace hb2 := nb_tf hb2) | with_reducible (replace hb2 := nb_bt hb2) | with_reducible (replace hb2 := nb_bf hb2) | skip
      refine wp_seq_k fun K9 hK9 => ?_
      refine wp_region_lit ?_  -- region 6 exact.go:171
      refine S_beg 18 rfl ?_
      refine S_val (Y_assign rfl) ?_
      refine S_nil (L' := (_ :: _ :: _ :: _ :: _ :: _ :: _ :: _ :: _ :: _ :: _ :: _ :: _ :: _ :: _ :: _ :: _ :: _ :: [])) rfl rfl ?_
      refine th_n ?_
      refine hK9 _ _ ?_
      clear hK9 K9
      refine wp_ret ?_
      refine th_r ?_
      clear hK7 K7
      refine ret_r1 rfl rfl ?_  -- r2
      exact ⟨_, rfl, by unfold hsize; omega, G⟩
    · -- c2F
      first | with_reducible (replace hb2 := nb_nt hb2) | with_reducible (replace hb2 := nb_nf hb2) | with_reducible (replace hb2 := nb_tt hb2) | with_reducible (replace hb2 := nb_tf hb2) | with_reducible (replace hb2 := nb_bt hb2) | with_reducible (replace hb2 := nb_bf hb2) | skip
      refine wp_skip ?_
      refine th_n ?_
      refine hK7 _ _ ?_
      clear hK7 K7
      refine wp_seq_k fun K10 hK10 => ?_
      refine wp_region_lit ?_  -- region 7 exact.go:173
      refine S_beg 18 rfl ?_
      refine S_val (Y_move rfl) ?_
      refine S_val (Y_assign rfl) ?_
      refine S_nil (L' := (_ :: _ :: _ :: _ :: _ :: _ :: _ :: _ :: _ :: _ :: _ :: _ :: _ :: _ :: _ :: _ :: _ :: _ :: [])) rfl rfl ?_
      refine th_n ?_
      refine hK10 _ _ ?_
      clear hK10 K10
      refine wp_ret ?_
      refine ret_r1 rfl rfl ?_  -- r3
      exact ⟨_, rfl, by unfold hsize; omega, G⟩

set_option maxHeartbeats 400000 in
set_option maxRecDepth 20000 in
theorem laws_eqIntS_c (P1 P2 : Nat → Prop) (A B : Option Addr) (xs ys : List Int) (c d : Nat) (w : World) (hA : R1 P1 w A (ints xs)) (hB : R1 P2 w B (ints ys)) (hx : xs.length ≤ 9223372036854775807) :
    Calls Try.prog 23 #[.slice A xs.length c, .slice B ys.length d] w (Ret fun v w' => v = .bool (decide (xs = ys)) ∧ Grow w w') := by
  refine enter Try.func23 rfl Try.ntmps23 (L := (_ :: _ :: _ :: _ :: _ :: _ :: _ :: _ :: _ :: _ :: _ :: _ :: _ :: _ :: _ :: _ :: _ :: _ :: _ :: _ :: _ :: _ :: _ :: _ :: _ :: _ :: [])) rfl ?_
  have G := Mod.refl No w
  have hA0 := hA
  have hB0 := hB
  refine wp_seq_k fun K1 hK1 => ?_
  refine wp_region_lit ?_  -- region 0 exact.go:188
  refine S_beg 26 rfl ?_
  refine S_val (Y_assign rfl) ?_
  refine S_nil (L' := (_ :: _ :: _ :: _ :: _ :: _ :: _ :: _ :: _ :: _ :: _ :: _ :: _ :: _ :: _ :: _ :: _ :: _ :: _ :: _ :: _ :: _ :: _ :: _ :: _ :: _ :: [])) rfl rfl ?_
  refine th_n ?_
  refine hK1 _ _ ?_
  clear hK1 K1
  refine wp_seq_k fun K2 hK2 => ?_
  refine wp_seq_k fun K3 hK3 => ?_
  refine wp_region_lit ?_  -- region 1 exact.go:189
  refine S_beg 26 rfl ?_
  refine S_val (Y_move rfl) ?_
  refine S_val (Y_len Try.underlying23 rfl) ?_
  refine S_val (Y_move rfl) ?_
  refine S_val (Y_len Try.underlying23 rfl) ?_
  refine S_val (Y_neq rfl rfl) ?_
  refine S_nil (L' := (_ :: _ :: _ :: _ :: _ :: _ :: _ :: _ :: _ :: _ :: _ :: _ :: _ :: _ :: _ :: _ :: _ :: _ :: _ :: _ :: _ :: _ :: _ :: _ :: _ :: _ :: [])) rfl rfl ?_
  refine th_n ?_
  refine hK3 _ _ ?_
  clear hK3 K3
  refine S_if rfl (fun hb1 => ?_) (fun hb1 => ?_)  -- c1
  · -- c1T
    first | with_reducible (replace hb1 := nb_nt hb1) | with_reducible (replace hb1 := nb_nf hb1) | with_reducible (replace hb1 := nb_tt hb1) | with_reducible (replace hb1 := nb_tf hb1) | with_reducible (replace hb1 := nb_bt hb1) | with_reducible (replace hb1 := nb_bf hb1) | skip
    refine wp_seq_k fun K4 hK4 => ?_
    refine wp_region_lit ?_  -- region 2 exact.go:190
    refine S_beg 26 rfl ?_
    refine S_val (Y_assign rfl) ?_
    refine S_nil (L' := (_ :: _ :: _ :: _ :: _ :: _ :: _ :: _ :: _ :: _ :: _ :: _ :: _ :: _ :: _ :: _ :: _ :: _ :: _ :: _ :: _ :: _ :: _ :: _ :: _ :: _ :: [])) rfl rfl ?_
    refine th_n ?_
    refine hK4 _ _ ?_
    clear hK4 K4
    refine wp_ret ?_
    refine th_r ?_
    clear hK2 K2
    refine ret_r1 rfl rfl ?_  -- r1
    exact ⟨bF (fun e => hb1 (by rw [e])), G⟩
  · -- c1F
    first | with_reducible (replace hb1 := nb_nt hb1) | with_reducible (replace hb1 := nb_nf hb1) | with_reducible (replace hb1 := nb_tt hb1) | with_reducible (replace hb1 := nb_tf hb1) | with_reducible (replace hb1 := nb_bt hb1) | with_reducible (replace hb1 := nb_bf hb1) | skip
    refine wp_skip ?_
    refine th_n ?_
    refine hK2 _ _ ?_
    clear hK2 K2
    refine wp_seq_k fun K5 hK5 => ?_
    refine wp_seq_k fun K6 hK6 => ?_
    refine wp_region_lit ?_  -- region 3 exact.go:192
    refine S_beg 26 rfl ?_
    refine S_val (Y_assign rfl) ?_
    refine S_nil (L' := (_ :: _ :: _ :: _ :: _ :: _ :: _ :: _ :: _ :: _ :: _ :: _ :: _ :: _ :: _ :: _ :: _ :: _ :: _ :: _ :: _ :: _ :: _ :: _ :: _ :: _ :: [])) rfl rfl ?_
    refine th_n ?_
    refine hK6 _ _ ?_
    clear hK6 K6
    refine wp_block ?_
    go_loopw [5] (fun u5 wr => (∃ k : Nat, u5 = .int .i64 k ∧ k ≤ xs.length ∧ xs.take k = ys.take k) ∧ Mod No w wr) (fun u5 wr => xs.length - (intOf u5).toNat)  -- L1
    case atStart =>
      refine ⟨?_, Mod.refl _ _⟩
      exact ⟨0, rfl, by omega, by simp⟩
    case round =>
      obtain ⟨w1, rfl⟩ : ∃ x : World, x = wr := ⟨_, rfl⟩
      obtain ⟨hrel, g1⟩ := hrel
      replace hA := hA.grow g1
      replace hB := hB.grow g1
      replace G := G.grow g1
      have zg1 := g1.size
      obtain ⟨k, rfl, hk, hs⟩ := hrel
      have GL1 := g1
      refine wp_seq_k fun K7 hK7 => ?_
      refine wp_seq_k fun K8 hK8 => ?_
      refine wp_region_lit ?_  -- region 4 exact.go:192
      refine S_beg 26 rfl ?_
      refine S_val (Y_move rfl) ?_
      refine S_val (Y_move rfl) ?_
      refine S_val (Y_len Try.underlying23 rfl) ?_
      refine S_val (Y_lss rfl rfl) ?_
      refine S_nil (L' := (_ :: _ :: _ :: _ :: _ :: _ :: _ :: _ :: _ :: _ :: _ :: _ :: _ :: _ :: _ :: _ :: _ :: _ :: _ :: _ :: _ :: _ :: _ :: _ :: _ :: _ :: [])) rfl rfl ?_
      refine th_n ?_
      refine hK8 _ _ ?_
      clear hK8 K8
      refine S_if rfl (fun hb2 => ?_) (fun hb2 => ?_)  -- c2
      · -- c2T
        first | with_reducible (replace hb2 := nb_nt hb2) | with_reducible (replace hb2 := nb_nf hb2) | with_reducible (replace hb2 := nb_tt hb2) | with_reducible (replace hb2 := nb_tf hb2) | with_reducible (replace hb2 := nb_bt hb2) | with_reducible (replace hb2 := nb_bf hb2) | skip
        refine wp_skip ?_
        refine th_n ?_
        refine hK7 _ _ ?_
        clear hK7 K7
        refine wp_seq_k fun K9 hK9 => ?_
        refine wp_block ?_
        refine wp_seq_k fun K10 hK10 => ?_
        refine D_start 9 26 (fun w => Mod (No) w) follows rfl rfl ?_  -- d1 region 6 exact.go:193
        intro w2 g2
        replace hA := hA.grow g2
        replace hB := hB.grow g2
        replace G := G.grow g2
        replace GL1 := GL1.grow g2
        have zg2 := g2.size
        have GS2 := Mod.refl (No) w2
        obtain ⟨g1, o1, rfl, hp1, hc1⟩ := hA.int (k := k) (by omega)
        obtain ⟨g2, o2, rfl, hp2, hc2⟩ := hB.int (k := k) (by omega)
        refine D_q (i := 0) rfl (by kernel_rfl) (fun _ _ _ h => h) GS2 (fun _ _ => Y_move rfl) ?_
        refine D_q (i := 1) rfl (by kernel_rfl) (fun _ _ _ h => h) GS2 (fun _ _ => Y_move rfl) ?_
        refine D_q (i := 2) rfl (by kernel_rfl) (fun _ _ _ h => h) GS2 (fun _ _ => Y_index Try.underlying23 sz3 rfl rfl (by first | assumption | omega)) ?_
        refine D_q (i := 3) rfl (by kernel_rfl) (fun _ _ _ h => h) GS2 (fun _ hs => Y_load Try.underlying3 rfl rfl (by first | exact hs.cell0 (by assumption))) ?_
        refine D_q (i := 4) rfl (by kernel_rfl) (fun _ _ _ h => h) GS2 (fun _ _ => Y_move rfl) ?_
        refine D_q (i := 5) rfl (by kernel_rfl) (fun _ _ _ h => h) GS2 (fun _ _ => Y_move rfl) ?_
        refine D_q (i := 6) rfl (by kernel_rfl) (fun _ _ _ h => h) GS2 (fun _ _ => Y_index Try.underlying23 sz3 rfl rfl (by first | assumption | omega)) ?_
        refine D_q (i := 7) rfl (by kernel_rfl) (fun _ _ _ h => h) GS2 (fun _ hs => Y_load Try.underlying3 rfl rfl (by first | exact hs.cell0 (by assumption))) ?_
        refine D_q (i := 8) rfl (by kernel_rfl) (fun _ _ _ h => h) GS2 (fun _ _ => Y_neq rfl rfl) ?_
        refine D_end (L' := (_ :: _ :: _ :: _ :: _ :: _ :: _ :: _ :: _ :: _ :: _ :: _ :: _ :: _ :: _ :: _ :: _ :: _ :: _ :: _ :: _ :: _ :: _ :: _ :: _ :: _ :: [])) (by kernel_rfl) rfl rfl ?_
        refine th_n ?_
        refine hK10 _ _ ?_
        clear hK10 K10
        refine S_if rfl (fun hb3 => ?_) (fun hb3 => ?_)  -- c3
        · -- c3T
          first | with_reducible (replace hb3 := nb_nt hb3) | with_reducible (replace hb3 := nb_nf hb3) | with_reducible (replace hb3 := nb_tt hb3) | with_reducible (replace hb3 := nb_tf hb3) | with_reducible (replace hb3 := nb_bt hb3) | with_reducible (replace hb3 := nb_bf hb3) | skip
          refine wp_seq_k fun K11 hK11 => ?_
          refine wp_region_lit ?_  -- region 7 exact.go:194
          refine S_beg 26 rfl ?_
          refine S_val (Y_assign rfl) ?_
          refine S_nil (L' := (_ :: _ :: _ :: _ :: _ :: _ :: _ :: _ :: _ :: _ :: _ :: _ :: _ :: _ :: _ :: _ :: _ :: _ :: _ :: _ :: _ :: _ :: _ :: _ :: _ :: _ :: [])) rfl rfl ?_
          refine th_n ?_
          refine hK11 _ _ ?_
          clear hK11 K11
          refine wp_ret ?_
          refine ib_r ?_
          refine th_r ?_
          clear GL1
          refine th_r ?_
          refine ib_r ?_
          refine th_r ?_
          clear hK9 K9 hK5 K5
          refine ret_r1 rfl rfl ?_  -- r2
          exact ⟨bF (fun e => hb3 (by subst e; rfl)), G⟩
        · -- c3F
          first | with_reducible (replace hb3 := nb_nt hb3) | with_reducible (replace hb3 := nb_nf hb3) | with_reducible (replace hb3 := nb_tt hb3) | with_reducible (replace hb3 := nb_tf hb3) | with_reducible (replace hb3 := nb_bt hb3) | with_reducible (replace hb3 := nb_bf hb3) | skip
          refine wp_skip ?_
          refine ib_n ?_
          refine th_n ?_
          refine hK9 _ _ ?_
          clear hK9 K9
          refine wp_region_lit ?_  -- region 5 exact.go:192
          refine S_beg 26 rfl ?_
          refine S_val (Y_move rfl) ?_
          refine S_val (Y_inc rfl rfl (by omega)) ?_
          refine S_val (Y_assign rfl) ?_
          refine S_nil (L' := (_ :: _ :: _ :: _ :: _ :: _ :: _ :: _ :: _ :: _ :: _ :: _ :: _ :: _ :: _ :: _ :: _ :: _ :: _ :: _ :: _ :: _ :: _ :: _ :: _ :: _ :: [])) rfl rfl ?_
          refine th_n ?_
          go_roundw  -- e1 of L1
          case rel =>
            refine ⟨?_, GL1⟩
            exact ⟨k + 1, rfl, by omega, take_eq hs (by omega) (by omega) hb3⟩
          case measure =>
            exact dec_nat (by omega)
      · -- c2F
        first | with_reducible (replace hb2 := nb_nt hb2) | with_reducible (replace hb2 := nb_nf hb2) | with_reducible (replace hb2 := nb_tt hb2) | with_reducible (replace hb2 := nb_tf hb2) | with_reducible (replace hb2 := nb_bt hb2) | with_reducible (replace hb2 := nb_bf hb2) | skip
        refine wp_exit ?_
        refine th_x ?_
        clear GL1
        refine th_x ?_
        refine ib_e ?_
        refine th_n ?_
        refine hK5 _ _ ?_
        clear hK7 K7 hK5 K5
        refine wp_seq_k fun K12 hK12 => ?_
        refine wp_region_lit ?_  -- region 8 exact.go:197
        refine S_beg 26 rfl ?_
        refine S_val (Y_assign rfl) ?_
        refine S_nil (L' := (_ :: _ :: _ :: _ :: _ :: _ :: _ :: _ :: _ :: _ :: _ :: _ :: _ :: _ :: _ :: _ :: _ :: _ :: _ :: _ :: _ :: _ :: _ :: _ :: _ :: _ :: [])) rfl rfl ?_
        refine th_n ?_
        refine hK12 _ _ ?_
        clear hK12 K12
        refine wp_ret ?_
        refine ret_r1 rfl rfl ?_  -- r3
        exact ⟨bT (take_all hs (by omega) (by omega)), G⟩

set_option maxHeartbeats 400000 in
set_option maxRecDepth 20000 in
theorem laws_eqBoolS_c (P1 P2 : Nat → Prop) (A B : Option Addr) (xs ys : List Bool) (c d : Nat) (w : World) (hA : R1 P1 w A (bools xs)) (hB : R1 P2 w B (bools ys)) (hx : xs.length ≤ 9223372036854775807) :
    Calls Try.prog 36 #[.slice A xs.length c, .slice B ys.length d] w (Ret fun v w' => v = .bool (decide (xs = ys)) ∧ Grow w w') := by
  refine enter Try.func36 rfl Try.ntmps36 (L := (_ :: _ :: _ :: _ :: _ :: _ :: _ :: _ :: _ :: _ :: _ :: _ :: _ :: _ :: _ :: _ :: _ :: _ :: _ :: _ :: _ :: _ :: _ :: _ :: _ :: _ :: [])) rfl ?_
  have G := Mod.refl No w
  have hA0 := hA
  have hB0 := hB
  refine wp_seq_k fun K1 hK1 => ?_
  refine wp_region_lit ?_  -- region 0 exact.go:425
  refine S_beg 26 rfl ?_
  refine S_val (Y_assign rfl) ?_
  refine S_nil (L' := (_ :: _ :: _ :: _ :: _ :: _ :: _ :: _ :: _ :: _ :: _ :: _ :: _ :: _ :: _ :: _ :: _ :: _ :: _ :: _ :: _ :: _ :: _ :: _ :: _ :: _ :: [])) rfl rfl ?_
  refine th_n ?_
  refine hK1 _ _ ?_
  clear hK1 K1
  refine wp_seq_k fun K2 hK2 => ?_
  refine wp_seq_k fun K3 hK3 => ?_
  refine wp_region_lit ?_  -- region 1 exact.go:426
  refine S_beg 26 rfl ?_
  refine S_val (Y_move rfl) ?_
  refine S_val (Y_len Try.underlying26 rfl) ?_
  refine S_val (Y_move rfl) ?_
  refine S_val (Y_len Try.underlying26 rfl) ?_
  refine S_val (Y_neq rfl rfl) ?_
  refine S_nil (L' := (_ :: _ :: _ :: _ :: _ :: _ :: _ :: _ :: _ :: _ :: _ :: _ :: _ :: _ :: _ :: _ :: _ :: _ :: _ :: _ :: _ :: _ :: _ :: _ :: _ :: _ :: [])) rfl rfl ?_
  refine th_n ?_
  refine hK3 _ _ ?_
  clear hK3 K3
  refine S_if rfl (fun hb1 => ?_) (fun hb1 => ?_)  -- c1
  · -- c1T
    first | with_reducible (replace hb1 := nb_nt hb1) | with_reducible (replace hb1 := nb_nf hb1) | with_reducible (replace hb1 := nb_tt hb1) | with_reducible (replace hb1 := nb_tf hb1) | with_reducible (replace hb1 := nb_bt hb1) | with_reducible (replace hb1 := nb_bf hb1) | skip
    refine wp_seq_k fun K4 hK4 => ?_
    refine wp_region_lit ?_  -- region 2 exact.go:427
    refine S_beg 26 rfl ?_
    refine S_val (Y_assign rfl) ?_
    refine S_nil (L' := (_ :: _ :: _ :: _ :: _ :: _ :: _ :: _ :: _ :: _ :: _ :: _ :: _ :: _ :: _ :: _ :: _ :: _ :: _ :: _ :: _ :: _ :: _ :: _ :: _ :: _ :: [])) rfl rfl ?_
    refine th_n ?_
    refine hK4 _ _ ?_
    clear hK4 K4
    refine wp_ret ?_
    refine th_r ?_
    clear hK2 K2
    refine ret_r1 rfl rfl ?_  -- r1
    exact ⟨bF (fun e => hb1 (by rw [e])), G⟩
  · -- c1F
    first | with_reducible (replace hb1 := nb_nt hb1) | with_reducible (replace hb1 := nb_nf hb1) | with_reducible (replace hb1 := nb_tt hb1) | with_reducible (replace hb1 := nb_tf hb1) | with_reducible (replace hb1 := nb_bt hb1) | with_reducible (replace hb1 := nb_bf hb1) | skip
    refine wp_skip ?_
    refine th_n ?_
    refine hK2 _ _ ?_
    clear hK2 K2
    refine wp_seq_k fun K5 hK5 => ?_
    refine wp_seq_k fun K6 hK6 => ?_
    refine wp_region_lit ?_  -- region 3 exact.go:429
    refine S_beg 26 rfl ?_
    refine S_val (Y_assign rfl) ?_
    refine S_nil (L' := (_ :: _ :: _ :: _ :: _ :: _ :: _ :: _ :: _ :: _ :: _ :: _ :: _ :: _ :: _ :: _ :: _ :: _ :: _ :: _ :: _ :: _ :: _ :: _ :: _ :: _ :: [])) rfl rfl ?_
    refine th_n ?_
    refine hK6 _ _ ?_
    clear hK6 K6
    refine wp_block ?_
    go_loopw [5] (fun u5 wr => (∃ k : Nat, u5 = .int .i64 k ∧ k ≤ xs.length ∧ xs.take k = ys.take k) ∧ Mod No w wr) (fun u5 wr => xs.length - (intOf u5).toNat)  -- L1
    case atStart =>
      refine ⟨?_, Mod.refl _ _⟩
      exact ⟨0, rfl, by omega, by simp⟩
    case round =>
      obtain ⟨w1, rfl⟩ : ∃ x : World, x = wr := ⟨_, rfl⟩
      obtain ⟨hrel, g1⟩ := hrel
      replace hA := hA.grow g1
      replace hB := hB.grow g1
      replace G := G.grow g1
      have zg1 := g1.size
      obtain ⟨k, rfl, hk, hs⟩ := hrel
      have GL1 := g1
      refine wp_seq_k fun K7 hK7 => ?_
      refine wp_seq_k fun K8 hK8 => ?_
      refine wp_region_lit ?_  -- region 4 exact.go:429
      refine S_beg 26 rfl ?_
      refine S_val (Y_move rfl) ?_
      refine S_val (Y_move rfl) ?_
      refine S_val (Y_len Try.underlying26 rfl) ?_
      refine S_val (Y_lss rfl rfl) ?_
      refine S_nil (L' := (_ :: _ :: _ :: _ :: _ :: _ :: _ :: _ :: _ :: _ :: _ :: _ :: _ :: _ :: _ :: _ :: _ :: _ :: _ :: _ :: _ :: _ :: _ :: _ :: _ :: _ :: [])) rfl rfl ?_
      refine th_n ?_
      refine hK8 _ _ ?_
      clear hK8 K8
      refine S_if rfl (fun hb2 => ?_) (fun hb2 => ?_)  -- c2
      · -- c2T
        first | with_reducible (replace hb2 := nb_nt hb2) | with_reducible (replace hb2 := nb_nf hb2) | with_reducible (replace hb2 := nb_tt hb2) | with_reducible (replace hb2 := nb_tf hb2) | with_reducible (replace hb2 := nb_bt hb2) | with_reducible (replace hb2 := nb_bf hb2) | skip
        refine wp_skip ?_
        refine th_n ?_
        refine hK7 _ _ ?_
        clear hK7 K7
        refine wp_seq_k fun K9 hK9 => ?_
        refine wp_block ?_
        refine wp_seq_k fun K10 hK10 => ?_
        refine D_start 9 26 (fun w => Mod (No) w) follows rfl rfl ?_  -- d1 region 6 exact.go:430
        intro w2 g2
        replace hA := hA.grow g2
        replace hB := hB.grow g2
        replace G := G.grow g2
        replace GL1 := GL1.grow g2
        have zg2 := g2.size
        have GS2 := Mod.refl (No) w2
        obtain ⟨g1, o1, rfl, hp1, hc1⟩ := hA.bool (k := k) (by omega)
        obtain ⟨g2, o2, rfl, hp2, hc2⟩ := hB.bool (k := k) (by omega)
        refine D_q (i := 0) rfl (by kernel_rfl) (fun _ _ _ h => h) GS2 (fun _ _ => Y_move rfl) ?_
        refine D_q (i := 1) rfl (by kernel_rfl) (fun _ _ _ h => h) GS2 (fun _ _ => Y_move rfl) ?_
        refine D_q (i := 2) rfl (by kernel_rfl) (fun _ _ _ h => h) GS2 (fun _ _ => Y_index Try.underlying26 sz4 rfl rfl (by first | assumption | omega)) ?_
        refine D_q (i := 3) rfl (by kernel_rfl) (fun _ _ _ h => h) GS2 (fun _ hs => Y_load Try.underlying4 rfl rfl (by first | exact hs.cell0 (by assumption))) ?_
        refine D_q (i := 4) rfl (by kernel_rfl) (fun _ _ _ h => h) GS2 (fun _ _ => Y_move rfl) ?_
        refine D_q (i := 5) rfl (by kernel_rfl) (fun _ _ _ h => h) GS2 (fun _ _ => Y_move rfl) ?_
        refine D_q (i := 6) rfl (by kernel_rfl) (fun _ _ _ h => h) GS2 (fun _ _ => Y_index Try.underlying26 sz4 rfl rfl (by first | assumption | omega)) ?_
        refine D_q (i := 7) rfl (by kernel_rfl) (fun _ _ _ h => h) GS2 (fun _ hs => Y_load Try.underlying4 rfl rfl (by first | exact hs.cell0 (by assumption))) ?_
        refine D_q (i := 8) rfl (by kernel_rfl) (fun _ _ _ h => h) GS2 (fun _ _ => Y_neb Try.underlying4 rfl rfl) ?_
        refine D_end (L' := (_ :: _ :: _ :: _ :: _ :: _ :: _ :: _ :: _ :: _ :: _ :: _ :: _ :: _ :: _ :: _ :: _ :: _ :: _ :: _ :: _ :: _ :: _ :: _ :: _ :: _ :: [])) (by kernel_rfl) rfl rfl ?_
        refine th_n ?_
        refine hK10 _ _ ?_
        clear hK10 K10
        refine S_if rfl (fun hb3 => ?_) (fun hb3 => ?_)  -- c3
        · -- c3T
          first | with_reducible (replace hb3 := nb_nt hb3) | with_reducible (replace hb3 := nb_nf hb3) | with_reducible (replace hb3 := nb_tt hb3) | with_reducible (replace hb3 := nb_tf hb3) | with_reducible (replace hb3 := nb_bt hb3) | with_reducible (replace hb3 := nb_bf hb3) | skip
          refine wp_seq_k fun K11 hK11 => ?_
          refine wp_region_lit ?_  -- region 7 exact.go:431
          refine S_beg 26 rfl ?_
          refine S_val (Y_assign rfl) ?_
          refine S_nil (L' := (_ :: _ :: _ :: _ :: _ :: _ :: _ :: _ :: _ :: _ :: _ :: _ :: _ :: _ :: _ :: _ :: _ :: _ :: _ :: _ :: _ :: _ :: _ :: _ :: _ :: _ :: [])) rfl rfl ?_
          refine th_n ?_
          refine hK11 _ _ ?_
          clear hK11 K11
          refine wp_ret ?_
          refine ib_r ?_
          refine th_r ?_
          clear GL1
          refine th_r ?_
          refine ib_r ?_
          refine th_r ?_
          clear hK9 K9 hK5 K5
          refine ret_r1 rfl rfl ?_  -- r2
          exact ⟨bF (fun e => hb3 (by subst e; rfl)), G⟩
        · -- c3F
          first | with_reducible (replace hb3 := nb_nt hb3) | with_reducible (replace hb3 := nb_nf hb3) | with_reducible (replace hb3 := nb_tt hb3) | with_reducible (replace hb3 := nb_tf hb3) | with_reducible (replace hb3 := nb_bt hb3) | with_reducible (replace hb3 := nb_bf hb3) | skip
          refine wp_skip ?_
          refine ib_n ?_
          refine th_n ?_
          refine hK9 _ _ ?_
          clear hK9 K9
          refine wp_region_lit ?_  -- region 5 exact.go:429
          refine S_beg 26 rfl ?_
          refine S_val (Y_move rfl) ?_
          refine S_val (Y_inc rfl rfl (by omega)) ?_
          refine S_val (Y_assign rfl) ?_
          refine S_nil (L' := (_ :: _ :: _ :: _ :: _ :: _ :: _ :: _ :: _ :: _ :: _ :: _ :: _ :: _ :: _ :: _ :: _ :: _ :: _ :: _ :: _ :: _ :: _ :: _ :: _ :: _ :: [])) rfl rfl ?_
          refine th_n ?_
          go_roundw  -- e1 of L1
          case rel =>
            refine ⟨?_, GL1⟩
            exact ⟨k + 1, rfl, by omega, take_eq hs (by omega) (by omega) hb3⟩
          case measure =>
            exact dec_nat (by omega)
      · -- c2F
        first | with_reducible (replace hb2 := nb_nt hb2) | with_reducible (replace hb2 := nb_nf hb2) | with_reducible (replace hb2 := nb_tt hb2) | with_reducible (replace hb2 := nb_tf hb2) | with_reducible (replace hb2 := nb_bt hb2) | with_reducible (replace hb2 := nb_bf hb2) | skip
        refine wp_exit ?_
        refine th_x ?_
        clear GL1
        refine th_x ?_
        refine ib_e ?_
        refine th_n ?_
        refine hK5 _ _ ?_
        clear hK7 K7 hK5 K5
        refine wp_seq_k fun K12 hK12 => ?_
        refine wp_region_lit ?_  -- region 8 exact.go:434
        refine S_beg 26 rfl ?_
        refine S_val (Y_assign rfl) ?_
        refine S_nil (L' := (_ :: _ :: _ :: _ :: _ :: _ :: _ :: _ :: _ :: _ :: _ :: _ :: _ :: _ :: _ :: _ :: _ :: _ :: _ :: _ :: _ :: _ :: _ :: _ :: _ :: _ :: [])) rfl rfl ?_
        refine th_n ?_
        refine hK12 _ _ ?_
        clear hK12 K12
        refine wp_ret ?_
        refine ret_r1 rfl rfl ?_  -- r3
        exact ⟨bT (take_all hs (by omega) (by omega)), G⟩

instance : DecidableEq LC := fun a b => by
  cases a; cases b
  simp only [LC.mk.injEq]
  infer_instance
instance : DecidableEq LH := fun a b => by
  cases a; cases b
  simp only [LH.mk.injEq]
  infer_instance
theorem lc_ext {a b : LC} (h1 : a.used = b.used) (h2 : a.data = b.data) (h3 : a.refs = b.refs) : a = b := by
  cases a; cases b
  simp_all
theorem lh_ext {a b : LH} (h1 : a.cells = b.cells) (h2 : a.roots = b.roots) : a = b := by
  cases a; cases b
  simp_all

set_option maxHeartbeats 400000 in
set_option maxRecDepth 20000 in
theorem laws_eqCell_c (P1 P2 : Nat → Prop) (x y : LC) (A B : Option Addr) (c d : Nat) (w : World) (hA : R1 P1 w A (ints x.refs)) (hB : R1 P2 w B (ints y.refs)) (hx : x.refs.length ≤ 9223372036854775807) :
    Calls Try.prog 114 #[.agg #[.bool x.used, .int .i64 x.data, .slice A x.refs.length c], .agg #[.bool y.used, .int .i64 y.data, .slice B y.refs.length d]] w (Ret fun v w' => v = .bool (decide (x = y)) ∧ Grow w w') := by
  refine enter Try.func114 rfl Try.ntmps114 (L := (_ :: _ :: _ :: _ :: _ :: _ :: _ :: _ :: _ :: _ :: _ :: _ :: _ :: _ :: _ :: _ :: _ :: _ :: _ :: _ :: _ :: [])) rfl ?_
  have G := Mod.refl No w
  have hA0 := hA
  have hB0 := hB
  refine wp_seq_k fun K1 hK1 => ?_
  refine wp_region_lit ?_  -- region 0 exact.go:200
  refine S_beg 21 rfl ?_
  refine S_box (cs := [_, _, _]) rfl rfl ?_
  intro b1 w1 fb1 g1 B1
  have lb1 := B1.lt
  replace hA := hA.grow g1
  replace hB := hB.grow g1
  replace G := G.grow g1
  have zg1 := g1.size
  refine S_box (cs := [_, _, _]) rfl rfl ?_
  intro b2 w2 fb2 g2 B2
  have lb2 := B2.lt
  replace hA := hA.grow g2
  replace hB := hB.grow g2
  replace G := G.grow g2
  replace B1 := B1.grow g2
  have zg2 := g2.size
  refine S_val (Y_assign rfl) ?_
  refine S_nil (L' := (_ :: _ :: _ :: _ :: _ :: _ :: _ :: _ :: _ :: _ :: _ :: _ :: _ :: _ :: _ :: _ :: _ :: _ :: _ :: _ :: _ :: [])) rfl rfl ?_
  refine th_n ?_
  refine hK1 _ _ ?_
  clear hK1 K1
  refine wp_seq_k fun K2 hK2 => ?_
  refine wp_seq_k fun K3 hK3 => ?_
  refine wp_region_lit ?_  -- region 1 exact.go:201
  refine S_beg 21 rfl ?_
  refine S_val (Y_field Try.underlying80 rfl fz80_0 (by decide) rfl) ?_
  refine S_val (Y_load Try.underlying4 rfl rfl (by first | assumption | exact B1.at (by rfl) | exact B2.at (by rfl))) ?_  -- l1
  refine S_val (Y_field Try.underlying80 rfl fz80_0 (by decide) rfl) ?_
  refine S_val (Y_load Try.underlying4 rfl rfl (by first | assumption | exact B1.at (by rfl) | exact B2.at (by rfl))) ?_  -- l2
  refine S_val (Y_neb Try.underlying4 rfl rfl) ?_
  refine S_nil (L' := (_ :: _ :: _ :: _ :: _ :: _ :: _ :: _ :: _ :: _ :: _ :: _ :: _ :: _ :: _ :: _ :: _ :: _ :: _ :: _ :: _ :: [])) rfl rfl ?_
  refine th_n ?_
  refine hK3 _ _ ?_
  clear hK3 K3
  refine S_if rfl (fun hb1 => ?_) (fun hb1 => ?_)  -- c1
  · -- c1T
    first | with_reducible (replace hb1 := nb_nt hb1) | with_reducible (replace hb1 := nb_nf hb1) | with_reducible (replace hb1 := nb_tt hb1) | with_reducible (replace hb1 := nb_tf hb1) | with_reducible (replace hb1 := nb_bt hb1) | with_reducible (replace hb1 := nb_bf hb1) | skip
    refine wp_seq_k fun K4 hK4 => ?_
    refine wp_region_lit ?_  -- region 2 exact.go:202
    refine S_beg 21 rfl ?_
    refine S_val (Y_assign rfl) ?_
    refine S_nil (L' := (_ :: _ :: _ :: _ :: _ :: _ :: _ :: _ :: _ :: _ :: _ :: _ :: _ :: _ :: _ :: _ :: _ :: _ :: _ :: _ :: _ :: [])) rfl rfl ?_
    refine th_n ?_
    refine hK4 _ _ ?_
    clear hK4 K4
    refine wp_ret ?_
    refine th_r ?_
    clear hK2 K2
    refine ret_r1 rfl rfl ?_  -- r1
    exact ⟨bF (fun e => hb1 (by rw [e])), G⟩
  · -- c1F
    first | with_reducible (replace hb1 := nb_nt hb1) | with_reducible (replace hb1 := nb_nf hb1) | with_reducible (replace hb1 := nb_tt hb1) | with_reducible (replace hb1 := nb_tf hb1) | with_reducible (replace hb1 := nb_bt hb1) | with_reducible (replace hb1 := nb_bf hb1) | skip
    refine wp_skip ?_
    refine th_n ?_
    refine hK2 _ _ ?_
    clear hK2 K2
    refine wp_seq_k fun K5 hK5 => ?_
    refine wp_seq_k fun K6 hK6 => ?_
    refine wp_region_lit ?_  -- region 3 exact.go:204
    refine S_beg 21 rfl ?_
    refine S_val (Y_field Try.underlying80 rfl fz80_1 (by decide) rfl) ?_
    refine S_val (Y_load Try.underlying3 rfl rfl (by first | assumption | exact B1.at (by rfl) | exact B2.at (by rfl))) ?_  -- l3
    refine S_val (Y_field Try.underlying80 rfl fz80_1 (by decide) rfl) ?_
    refine S_val (Y_load Try.underlying3 rfl rfl (by first | assumption | exact B1.at (by rfl) | exact B2.at (by rfl))) ?_  -- l4
    refine S_val (Y_neq rfl rfl) ?_
    refine S_nil (L' := (_ :: _ :: _ :: _ :: _ :: _ :: _ :: _ :: _ :: _ :: _ :: _ :: _ :: _ :: _ :: _ :: _ :: _ :: _ :: _ :: _ :: [])) rfl rfl ?_
    refine th_n ?_
    refine hK6 _ _ ?_
    clear hK6 K6
    refine S_if rfl (fun hb2 => ?_) (fun hb2 => ?_)  -- c2
    · -- c2T
      first | with_reducible (replace hb2 := nb_nt hb2) | with_reducible (replace hb2 := nb_nf hb2) | with_reducible (replace hb2 := nb_tt hb2) | with_reducible (replace hb2 := nb_tf hb2) | with_reducible (replace hb2 := nb_bt hb2) | with_reducible (replace hb2 := nb_bf hb2) | skip
      refine wp_seq_k fun K7 hK7 => ?_
      refine wp_region_lit ?_  -- region 4 exact.go:205
      refine S_beg 21 rfl ?_
      refine S_val (Y_assign rfl) ?_
      refine S_nil (L' := (_ :: _ :: _ :: _ :: _ :: _ :: _ :: _ :: _ :: _ :: _ :: _ :: _ :: _ :: _ :: _ :: _ :: _ :: _ :: _ :: _ :: [])) rfl rfl ?_
      refine th_n ?_
      refine hK7 _ _ ?_
      clear hK7 K7
      refine wp_ret ?_
      refine th_r ?_
      clear hK5 K5
      refine ret_r1 rfl rfl ?_  -- r2
      exact ⟨bF (fun e => hb2 (by rw [e])), G⟩
    · -- c2F
      first | with_reducible (replace hb2 := nb_nt hb2) | with_reducible (replace hb2 := nb_nf hb2) | with_reducible (replace hb2 := nb_tt hb2) | with_reducible (replace hb2 := nb_tf hb2) | with_reducible (replace hb2 := nb_bt hb2) | with_reducible (replace hb2 := nb_bf hb2) | skip
      refine wp_skip ?_
      refine th_n ?_
      refine hK5 _ _ ?_
      clear hK5 K5
      refine wp_seq_k fun K8 hK8 => ?_
      refine wp_seq_k fun K9 hK9 => ?_
      refine wp_region_lit ?_  -- region 5 exact.go:207
      refine S_beg 21 rfl ?_
      refine S_val (Y_field Try.underlying80 rfl fz80_2 (by decide) rfl) ?_
      refine S_val (Y_load Try.underlying23 rfl rfl (by first | assumption | exact B1.at (by rfl) | exact B2.at (by rfl))) ?_  -- l5
      refine S_val (Y_field Try.underlying80 rfl fz80_2 (by decide) rfl) ?_
      refine S_val (Y_load Try.underlying23 rfl rfl (by first | assumption | exact B1.at (by rfl) | exact B2.at (by rfl))) ?_  -- l6
      refine S_call rfl en23 (laws_eqIntS_c _ _ _ _ _ _ _ _ _ (by assumption) (by assumption) (by omega)) ?_  -- k1 laws.eqIntS
      rintro v3 w3 ⟨rfl, g3⟩
      replace hA := hA.grow g3
      replace hB := hB.grow g3
      replace G := G.grow g3
      replace B1 := B1.grow g3
      replace B2 := B2.grow g3
      have zg3 := g3.size
      refine S_val (Y_not rfl) ?_
      refine S_nil (L' := (_ :: _ :: _ :: _ :: _ :: _ :: _ :: _ :: _ :: _ :: _ :: _ :: _ :: _ :: _ :: _ :: _ :: _ :: _ :: _ :: _ :: [])) rfl rfl ?_
      refine th_n ?_
      refine hK9 _ _ ?_
      clear hK9 K9
      refine S_if rfl (fun hb3 => ?_) (fun hb3 => ?_)  -- c3
      · -- c3T
        first | with_reducible (replace hb3 := nb_nt hb3) | with_reducible (replace hb3 := nb_nf hb3) | with_reducible (replace hb3 := nb_tt hb3) | with_reducible (replace hb3 := nb_tf hb3) | with_reducible (replace hb3 := nb_bt hb3) | with_reducible (replace hb3 := nb_bf hb3) | skip
        refine wp_seq_k fun K10 hK10 => ?_
        refine wp_region_lit ?_  -- region 6 exact.go:208
        refine S_beg 21 rfl ?_
        refine S_val (Y_assign rfl) ?_
        refine S_nil (L' := (_ :: _ :: _ :: _ :: _ :: _ :: _ :: _ :: _ :: _ :: _ :: _ :: _ :: _ :: _ :: _ :: _ :: _ :: _ :: _ :: _ :: [])) rfl rfl ?_
        refine th_n ?_
        refine hK10 _ _ ?_
        clear hK10 K10
        refine wp_ret ?_
        refine th_r ?_
        clear hK8 K8
        refine ret_r1 rfl rfl ?_  -- r3
        exact ⟨bF (fun e => hb3 (by rw [e])), G⟩
      · -- c3F
        first | with_reducible (replace hb3 := nb_nt hb3) | with_reducible (replace hb3 := nb_nf hb3) | with_reducible (replace hb3 := nb_tt hb3) | with_reducible (replace hb3 := nb_tf hb3) | with_reducible (replace hb3 := nb_bt hb3) | with_reducible (replace hb3 := nb_bf hb3) | skip
        refine wp_skip ?_
        refine th_n ?_
        refine hK8 _ _ ?_
        clear hK8 K8
        refine wp_seq_k fun K11 hK11 => ?_
        refine wp_region_lit ?_  -- region 7 exact.go:210
        refine S_beg 21 rfl ?_
        refine S_val (Y_assign rfl) ?_
        refine S_nil (L' := (_ :: _ :: _ :: _ :: _ :: _ :: _ :: _ :: _ :: _ :: _ :: _ :: _ :: _ :: _ :: _ :: _ :: _ :: _ :: _ :: _ :: [])) rfl rfl ?_
        refine th_n ?_
        refine hK11 _ _ ?_
        clear hK11 K11
        refine wp_ret ?_
        refine ret_r1 rfl rfl ?_  -- r4
        exact ⟨bT (lc_ext hb1 hb2 hb3), G⟩

set_option maxHeartbeats 400000 in
set_option maxRecDepth 20000 in
theorem laws_eqCellS_c (P1 P2 : Nat → Prop) (A B : Option Addr) (xs ys : List LC) (c d : Nat) (w : World) (hA : RC P1 w A xs) (hB : RC P2 w B ys) (hx : xs.length ≤ 9223372036854775807) (hr : ∀ k (h : k < xs.length), xs[k].refs.length ≤ 9223372036854775807) :
    Calls Try.prog 74 #[.slice A xs.length c, .slice B ys.length d] w (Ret fun v w' => v = .bool (decide (xs = ys)) ∧ Grow w w') := by
  refine enter Try.func74 rfl Try.ntmps74 (L := (_ :: _ :: _ :: _ :: _ :: _ :: _ :: _ :: _ :: _ :: _ :: _ :: _ :: _ :: _ :: _ :: _ :: _ :: _ :: _ :: _ :: _ :: _ :: _ :: _ :: _ :: _ :: [])) rfl ?_
  have G := Mod.refl No w
  have hA0 := hA
  have hB0 := hB
  refine wp_seq_k fun K1 hK1 => ?_
  refine wp_region_lit ?_  -- region 0 exact.go:213
  refine S_beg 27 rfl ?_
  refine S_val (Y_assign rfl) ?_
  refine S_nil (L' := (_ :: _ :: _ :: _ :: _ :: _ :: _ :: _ :: _ :: _ :: _ :: _ :: _ :: _ :: _ :: _ :: _ :: _ :: _ :: _ :: _ :: _ :: _ :: _ :: _ :: _ :: _ :: [])) rfl rfl ?_
  refine th_n ?_
  refine hK1 _ _ ?_
  clear hK1 K1
  refine wp_seq_k fun K2 hK2 => ?_
  refine wp_seq_k fun K3 hK3 => ?_
  refine wp_region_lit ?_  -- region 1 exact.go:214
  refine S_beg 27 rfl ?_
  refine S_val (Y_move rfl) ?_
  refine S_val (Y_len Try.underlying31 rfl) ?_
  refine S_val (Y_move rfl) ?_
  refine S_val (Y_len Try.underlying31 rfl) ?_
  refine S_val (Y_neq rfl rfl) ?_
  refine S_nil (L' := (_ :: _ :: _ :: _ :: _ :: _ :: _ :: _ :: _ :: _ :: _ :: _ :: _ :: _ :: _ :: _ :: _ :: _ :: _ :: _ :: _ :: _ :: _ :: _ :: _ :: _ :: _ :: [])) rfl rfl ?_
  refine th_n ?_
  refine hK3 _ _ ?_
  clear hK3 K3
  refine S_if rfl (fun hb1 => ?_) (fun hb1 => ?_)  -- c1
  · -- c1T
    first | with_reducible (replace hb1 := nb_nt hb1) | with_reducible (replace hb1 := nb_nf hb1) | with_reducible (replace hb1 := nb_tt hb1) | with_reducible (replace hb1 := nb_tf hb1) | with_reducible (replace hb1 := nb_bt hb1) | with_reducible (replace hb1 := nb_bf hb1) | skip
    refine wp_seq_k fun K4 hK4 => ?_
    refine wp_region_lit ?_  -- region 2 exact.go:215
    refine S_beg 27 rfl ?_
    refine S_val (Y_assign rfl) ?_
    refine S_nil (L' := (_ :: _ :: _ :: _ :: _ :: _ :: _ :: _ :: _ :: _ :: _ :: _ :: _ :: _ :: _ :: _ :: _ :: _ :: _ :: _ :: _ :: _ :: _ :: _ :: _ :: _ :: _ :: [])) rfl rfl ?_
    refine th_n ?_
    refine hK4 _ _ ?_
    clear hK4 K4
    refine wp_ret ?_
    refine th_r ?_
    clear hK2 K2
    refine ret_r1 rfl rfl ?_  -- r1
    exact ⟨bF (fun e => hb1 (by rw [e])), G⟩
  · -- c1F
    first | with_reducible (replace hb1 := nb_nt hb1) | with_reducible (replace hb1 := nb_nf hb1) | with_reducible (replace hb1 := nb_tt hb1) | with_reducible (replace hb1 := nb_tf hb1) | with_reducible (replace hb1 := nb_bt hb1) | with_reducible (replace hb1 := nb_bf hb1) | skip
    refine wp_skip ?_
    refine th_n ?_
    refine hK2 _ _ ?_
    clear hK2 K2
    refine wp_seq_k fun K5 hK5 => ?_
    refine wp_seq_k fun K6 hK6 => ?_
    refine wp_region_lit ?_  -- region 3 exact.go:217
    refine S_beg 27 rfl ?_
    refine S_val (Y_assign rfl) ?_
    refine S_nil (L' := (_ :: _ :: _ :: _ :: _ :: _ :: _ :: _ :: _ :: _ :: _ :: _ :: _ :: _ :: _ :: _ :: _ :: _ :: _ :: _ :: _ :: _ :: _ :: _ :: _ :: _ :: _ :: [])) rfl rfl ?_
    refine th_n ?_
    refine hK6 _ _ ?_
    clear hK6 K6
    refine wp_block ?_
    go_loopw [5] (fun u5 wr => (∃ k : Nat, u5 = .int .i64 k ∧ k ≤ xs.length ∧ xs.take k = ys.take k) ∧ Mod No w wr) (fun u5 wr => xs.length - (intOf u5).toNat)  -- L1
    case atStart =>
      refine ⟨?_, Mod.refl _ _⟩
      exact ⟨0, rfl, by omega, by simp⟩
    case round =>
      obtain ⟨w1, rfl⟩ : ∃ x : World, x = wr := ⟨_, rfl⟩
      obtain ⟨hrel, g1⟩ := hrel
      replace hA := hA.grow g1
      replace hB := hB.grow g1
      replace G := G.grow g1
      have zg1 := g1.size
      obtain ⟨k, rfl, hk, hs⟩ := hrel
      have GL1 := g1
      refine wp_seq_k fun K7 hK7 => ?_
      refine wp_seq_k fun K8 hK8 => ?_
      refine wp_region_lit ?_  -- region 4 exact.go:217
      refine S_beg 27 rfl ?_
      refine S_val (Y_move rfl) ?_
      refine S_val (Y_move rfl) ?_
      refine S_val (Y_len Try.underlying31 rfl) ?_
      refine S_val (Y_lss rfl rfl) ?_
      refine S_nil (L' := (_ :: _ :: _ :: _ :: _ :: _ :: _ :: _ :: _ :: _ :: _ :: _ :: _ :: _ :: _ :: _ :: _ :: _ :: _ :: _ :: _ :: _ :: _ :: _ :: _ :: _ :: _ :: [])) rfl rfl ?_
      refine th_n ?_
      refine hK8 _ _ ?_
      clear hK8 K8
      refine S_if rfl (fun hb2 => ?_) (fun hb2 => ?_)  -- c2
      · -- c2T
        first | with_reducible (replace hb2 := nb_nt hb2) | with_reducible (replace hb2 := nb_nf hb2) | with_reducible (replace hb2 := nb_tt hb2) | with_reducible (replace hb2 := nb_tf hb2) | with_reducible (replace hb2 := nb_bt hb2) | with_reducible (replace hb2 := nb_bf hb2) | skip
        refine wp_skip ?_
        refine th_n ?_
        refine hK7 _ _ ?_
        clear hK7 K7
        refine wp_seq_k fun K9 hK9 => ?_
        refine wp_block ?_
        refine wp_seq_k fun K10 hK10 => ?_
        refine D_start 10 27 (fun w => Mod (No) w) follows rfl rfl ?_  -- d1 region 6 exact.go:218
        intro w2 g2
        replace hA := hA.grow g2
        replace hB := hB.grow g2
        replace G := G.grow g2
        replace GL1 := GL1.grow g2
        have zg2 := g2.size
        have GS2 := Mod.refl (No) w2
        have hk1 : k < xs.length := by omega
        have hk2 : k < ys.length := by omega
        obtain ⟨g1, o1, E1, e1, rfl, hp1, cc1, hE1⟩ := hA.cell hk1
        obtain ⟨g2, o2, E2, e2, rfl, hp2, cc2, hE2⟩ := hB.cell hk2
        have hr1 := hr k hk1
        refine D_q (i := 0) rfl (by kernel_rfl) (fun _ _ _ h => h) GS2 (fun _ _ => Y_move rfl) ?_
        refine D_q (i := 1) rfl (by kernel_rfl) (fun _ _ _ h => h) GS2 (fun _ _ => Y_move rfl) ?_
        refine D_q (i := 2) rfl (by kernel_rfl) (fun _ _ _ h => h) GS2 (fun _ _ => Y_index Try.underlying31 sz80 rfl rfl (by first | assumption | omega)) ?_
        refine D_q (i := 3) rfl (by kernel_rfl) (fun _ _ _ h => h) GS2 (fun _ hs => Y_loadS Try.underlying80 rfl sz80 rfl (by first | exact hs.cells0 (by assumption))) ?_
        refine D_q (i := 4) rfl (by kernel_rfl) (fun _ _ _ h => h) GS2 (fun _ _ => Y_move rfl) ?_
        refine D_q (i := 5) rfl (by kernel_rfl) (fun _ _ _ h => h) GS2 (fun _ _ => Y_move rfl) ?_
        refine D_q (i := 6) rfl (by kernel_rfl) (fun _ _ _ h => h) GS2 (fun _ _ => Y_index Try.underlying31 sz80 rfl rfl (by first | assumption | omega)) ?_
        refine D_q (i := 7) rfl (by kernel_rfl) (fun _ _ _ h => h) GS2 (fun _ hs => Y_loadS Try.underlying80 rfl sz80 rfl (by first | exact hs.cells0 (by assumption))) ?_
        refine D_1 (i := 8) (by kernel_rfl) ?_
        refine E_call rfl rfl en114 (laws_eqCell_c _ _ _ _ _ _ _ _ _ (by assumption) (by assumption) (by first | assumption | omega)) ?_  -- k1 laws.eqCell
        rintro v3 w3 ⟨rfl, g3⟩
        replace hA := hA.grow g3
        replace hB := hB.grow g3
        replace hE1 := hE1.grow g3
        replace hE2 := hE2.grow g3
        replace G := G.grow g3
        replace GL1 := GL1.grow g3
        replace GS2 := GS2.grow g3
        replace cc1 := cc1.grow g3
        replace cc2 := cc2.grow g3
        have zg3 := g3.size
        refine ⟨GS2, ?_⟩
        refine D_q (i := 9) rfl (by kernel_rfl) (fun _ _ _ h => h) GS2 (fun _ _ => Y_not rfl) ?_
        refine D_end (L' := (_ :: _ :: _ :: _ :: _ :: _ :: _ :: _ :: _ :: _ :: _ :: _ :: _ :: _ :: _ :: _ :: _ :: _ :: _ :: _ :: _ :: _ :: _ :: _ :: _ :: _ :: _ :: [])) (by kernel_rfl) rfl rfl ?_
        refine th_n ?_
        refine hK10 _ _ ?_
        clear hK10 K10
        refine S_if rfl (fun hb3 => ?_) (fun hb3 => ?_)  -- c3
        · -- c3T
          first | with_reducible (replace hb3 := nb_nt hb3) | with_reducible (replace hb3 := nb_nf hb3) | with_reducible (replace hb3 := nb_tt hb3) | with_reducible (replace hb3 := nb_tf hb3) | with_reducible (replace hb3 := nb_bt hb3) | with_reducible (replace hb3 := nb_bf hb3) | skip
          refine wp_seq_k fun K11 hK11 => ?_
          refine wp_region_lit ?_  -- region 7 exact.go:219
          refine S_beg 27 rfl ?_
          refine S_val (Y_assign rfl) ?_
          refine S_nil (L' := (_ :: _ :: _ :: _ :: _ :: _ :: _ :: _ :: _ :: _ :: _ :: _ :: _ :: _ :: _ :: _ :: _ :: _ :: _ :: _ :: _ :: _ :: _ :: _ :: _ :: _ :: _ :: [])) rfl rfl ?_
          refine th_n ?_
          refine hK11 _ _ ?_
          clear hK11 K11
          refine wp_ret ?_
          refine ib_r ?_
          refine th_r ?_
          clear GL1
          refine th_r ?_
          refine ib_r ?_
          refine th_r ?_
          clear hK9 K9 hK5 K5
          refine ret_r1 rfl rfl ?_  -- r2
          exact ⟨bF (fun e => hb3 (by subst e; rfl)), G⟩
        · -- c3F
          first | with_reducible (replace hb3 := nb_nt hb3) | with_reducible (replace hb3 := nb_nf hb3) | with_reducible (replace hb3 := nb_tt hb3) | with_reducible (replace hb3 := nb_tf hb3) | with_reducible (replace hb3 := nb_bt hb3) | with_reducible (replace hb3 := nb_bf hb3) | skip
          refine wp_skip ?_
          refine ib_n ?_
          refine th_n ?_
          refine hK9 _ _ ?_
          clear hK9 K9
          refine wp_region_lit ?_  -- region 5 exact.go:217
          refine S_beg 27 rfl ?_
          refine S_val (Y_move rfl) ?_
          refine S_val (Y_inc rfl rfl (by omega)) ?_
          refine S_val (Y_assign rfl) ?_
          refine S_nil (L' := (_ :: _ :: _ :: _ :: _ :: _ :: _ :: _ :: _ :: _ :: _ :: _ :: _ :: _ :: _ :: _ :: _ :: _ :: _ :: _ :: _ :: _ :: _ :: _ :: _ :: _ :: _ :: [])) rfl rfl ?_
          refine th_n ?_
          go_roundw  -- e1 of L1
          case rel =>
            refine ⟨?_, GL1⟩
            exact ⟨k + 1, rfl, by omega, take_eq hs (by omega) (by omega) hb3⟩
          case measure =>
            exact dec_nat (by omega)
      · -- c2F
        first | with_reducible (replace hb2 := nb_nt hb2) | with_reducible (replace hb2 := nb_nf hb2) | with_reducible (replace hb2 := nb_tt hb2) | with_reducible (replace hb2 := nb_tf hb2) | with_reducible (replace hb2 := nb_bt hb2) | with_reducible (replace hb2 := nb_bf hb2) | skip
        refine wp_exit ?_
        refine th_x ?_
        clear GL1
        refine th_x ?_
        refine ib_e ?_
        refine th_n ?_
        refine hK5 _ _ ?_
        clear hK7 K7 hK5 K5
        refine wp_seq_k fun K12 hK12 => ?_
        refine wp_region_lit ?_  -- region 8 exact.go:222
        refine S_beg 27 rfl ?_
        refine S_val (Y_assign rfl) ?_
        refine S_nil (L' := (_ :: _ :: _ :: _ :: _ :: _ :: _ :: _ :: _ :: _ :: _ :: _ :: _ :: _ :: _ :: _ :: _ :: _ :: _ :: _ :: _ :: _ :: _ :: _ :: _ :: _ :: _ :: [])) rfl rfl ?_
        refine th_n ?_
        refine hK12 _ _ ?_
        clear hK12 K12
        refine wp_ret ?_
        refine ret_r1 rfl rfl ?_  -- r3
        exact ⟨bT (take_all hs (by omega) (by omega)), G⟩

set_option maxHeartbeats 400000 in
set_option maxRecDepth 20000 in
theorem laws_eqHeap_c (P1 P2 : Nat → Prop) (A B A2 B2 : Option Addr) (x y : LH) (c d c2 d2 : Nat) (w : World) (hA : RC P1 w A x.cells) (hB : R1 P1 w B (ints x.roots)) (hA2 : RC P2 w A2 y.cells) (hB2 : R1 P2 w B2 (ints y.roots)) (hz : hsize x ≤ 9223372036854775807) :
    Calls Try.prog 24 #[.agg #[.slice A x.cells.length c, .slice B x.roots.length d], .agg #[.slice A2 y.cells.length c2, .slice B2 y.roots.length d2]] w (Ret fun v w' => v = .bool (decide (x = y)) ∧ Grow w w') := by
  have hz1 := hsize_cells x
  have hz2 := hsize_roots x
  have hz3 : ∀ k (hk : k < x.cells.length), x.cells[k].refs.length ≤ 9223372036854775807 := fun k hk => Nat.le_trans (hsize_refs x hk) hz
  refine enter Try.func24 rfl Try.ntmps24 (L := (_ :: _ :: _ :: _ :: _ :: _ :: _ :: _ :: _ :: _ :: _ :: _ :: _ :: _ :: _ :: _ :: _ :: [])) rfl ?_
  have G := Mod.refl No w
  have hA0 := hA
  have hB0 := hB
  have hA20 := hA2
  have hB20 := hB2
  refine wp_seq_k fun K1 hK1 => ?_
  refine wp_region_lit ?_  -- region 0 exact.go:225
  refine S_beg 17 rfl ?_
  refine S_box (cs := [_, _]) rfl rfl ?_
  intro b1 w1 fb1 g1 B1
  have lb1 := B1.lt
  replace hA := hA.grow g1
  replace hB := hB.grow g1
  replace hA2 := hA2.grow g1
  replace hB2 := hB2.grow g1
  replace G := G.grow g1
  have zg1 := g1.size
  refine S_box (cs := [_, _]) rfl rfl ?_
  intro b2 w2 fb2 g2 B2
  have lb2 := B2.lt
  replace hA := hA.grow g2
  replace hB := hB.grow g2
  replace hA2 := hA2.grow g2
  replace hB2 := hB2.grow g2
  replace G := G.grow g2
  replace B1 := B1.grow g2
  have zg2 := g2.size
  refine S_val (Y_assign rfl) ?_
  refine S_nil (L' := (_ :: _ :: _ :: _ :: _ :: _ :: _ :: _ :: _ :: _ :: _ :: _ :: _ :: _ :: _ :: _ :: _ :: [])) rfl rfl ?_
  refine th_n ?_
  refine hK1 _ _ ?_
  clear hK1 K1
  refine wp_seq_k fun K2 hK2 => ?_
  refine wp_seq_k fun K3 hK3 => ?_
  refine wp_region_lit ?_  -- region 1 exact.go:226
  refine S_beg 17 rfl ?_
  refine S_val (Y_field Try.underlying33 rfl fz33_0 (by decide) rfl) ?_
  refine S_val (Y_load Try.underlying31 rfl rfl (by first | assumption | exact B1.at (by rfl) | exact B2.at (by rfl))) ?_  -- l1
  refine S_val (Y_field Try.underlying33 rfl fz33_0 (by decide) rfl) ?_
  refine S_val (Y_load Try.underlying31 rfl rfl (by first | assumption | exact B1.at (by rfl) | exact B2.at (by rfl))) ?_  -- l2
  refine S_call rfl en74 (laws_eqCellS_c _ _ _ _ _ _ _ _ _ (by assumption) (by assumption) (by omega) (by assumption)) ?_  -- k1 laws.eqCellS
  rintro v3 w3 ⟨rfl, g3⟩
  replace hA := hA.grow g3
  replace hB := hB.grow g3
  replace hA2 := hA2.grow g3
  replace hB2 := hB2.grow g3
  replace G := G.grow g3
  replace B1 := B1.grow g3
  replace B2 := B2.grow g3
  have zg3 := g3.size
  refine S_val (Y_not rfl) ?_
  refine S_nil (L' := (_ :: _ :: _ :: _ :: _ :: _ :: _ :: _ :: _ :: _ :: _ :: _ :: _ :: _ :: _ :: _ :: _ :: [])) rfl rfl ?_
  refine th_n ?_
  refine hK3 _ _ ?_
  clear hK3 K3
  refine S_if rfl (fun hb1 => ?_) (fun hb1 => ?_)  -- c1
  · -- c1T
    first | with_reducible (replace hb1 := nb_nt hb1) | with_reducible (replace hb1 := nb_nf hb1) | with_reducible (replace hb1 := nb_tt hb1) | with_reducible (replace hb1 := nb_tf hb1) | with_reducible (replace hb1 := nb_bt hb1) | with_reducible (replace hb1 := nb_bf hb1) | skip
    refine wp_seq_k fun K4 hK4 => ?_
    refine wp_region_lit ?_  -- region 2 exact.go:227
    refine S_beg 17 rfl ?_
    refine S_val (Y_assign rfl) ?_
    refine S_nil (L' := (_ :: _ :: _ :: _ :: _ :: _ :: _ :: _ :: _ :: _ :: _ :: _ :: _ :: _ :: _ :: _ :: _ :: [])) rfl rfl ?_
    refine th_n ?_
    refine hK4 _ _ ?_
    clear hK4 K4
    refine wp_ret ?_
    refine th_r ?_
    clear hK2 K2
    refine ret_r1 rfl rfl ?_  -- r1
    exact ⟨bF (fun e => hb1 (by rw [e])), G⟩
  · -- c1F
    first | with_reducible (replace hb1 := nb_nt hb1) | with_reducible (replace hb1 := nb_nf hb1) | with_reducible (replace hb1 := nb_tt hb1) | with_reducible (replace hb1 := nb_tf hb1) | with_reducible (replace hb1 := nb_bt hb1) | with_reducible (replace hb1 := nb_bf hb1) | skip
    refine wp_skip ?_
    refine th_n ?_
    refine hK2 _ _ ?_
    clear hK2 K2
    refine wp_seq_k fun K5 hK5 => ?_
    refine wp_seq_k fun K6 hK6 => ?_
    refine wp_region_lit ?_  -- region 3 exact.go:229
    refine S_beg 17 rfl ?_
    refine S_val (Y_field Try.underlying33 rfl fz33_1 (by decide) rfl) ?_
    refine S_val (Y_load Try.underlying23 rfl rfl (by first | assumption | exact B1.at (by rfl) | exact B2.at (by rfl))) ?_  -- l3
    refine S_val (Y_field Try.underlying33 rfl fz33_1 (by decide) rfl) ?_
    refine S_val (Y_load Try.underlying23 rfl rfl (by first | assumption | exact B1.at (by rfl) | exact B2.at (by rfl))) ?_  -- l4
    refine S_call rfl en23 (laws_eqIntS_c _ _ _ _ _ _ _ _ _ (by assumption) (by assumption) (by omega)) ?_  -- k2 laws.eqIntS
    rintro v4 w4 ⟨rfl, g4⟩
    replace hA := hA.grow g4
    replace hB := hB.grow g4
    replace hA2 := hA2.grow g4
    replace hB2 := hB2.grow g4
    replace G := G.grow g4
    replace B1 := B1.grow g4
    replace B2 := B2.grow g4
    have zg4 := g4.size
    refine S_val (Y_not rfl) ?_
    refine S_nil (L' := (_ :: _ :: _ :: _ :: _ :: _ :: _ :: _ :: _ :: _ :: _ :: _ :: _ :: _ :: _ :: _ :: _ :: [])) rfl rfl ?_
    refine th_n ?_
    refine hK6 _ _ ?_
    clear hK6 K6
    refine S_if rfl (fun hb2 => ?_) (fun hb2 => ?_)  -- c2
    · -- c2T
      first | with_reducible (replace hb2 := nb_nt hb2) | with_reducible (replace hb2 := nb_nf hb2) | with_reducible (replace hb2 := nb_tt hb2) | with_reducible (replace hb2 := nb_tf hb2) | with_reducible (replace hb2 := nb_bt hb2) | with_reducible (replace hb2 := nb_bf hb2) | skip
      refine wp_seq_k fun K7 hK7 => ?_
      refine wp_region_lit ?_  -- region 4 exact.go:230
      refine S_beg 17 rfl ?_
      refine S_val (Y_assign rfl) ?_
      refine S_nil (L' := (_ :: _ :: _ :: _ :: _ :: _ :: _ :: _ :: _ :: _ :: _ :: _ :: _ :: _ :: _ :: _ :: _ :: [])) rfl rfl ?_
      refine th_n ?_
      refine hK7 _ _ ?_
      clear hK7 K7
      refine wp_ret ?_
      refine th_r ?_
      clear hK5 K5
      refine ret_r1 rfl rfl ?_  -- r2
      exact ⟨bF (fun e => hb2 (by rw [e])), G⟩
    · -- c2F
      first | with_reducible (replace hb2 := nb_nt hb2) | with_reducible (replace hb2 := nb_nf hb2) | with_reducible (replace hb2 := nb_tt hb2) | with_reducible (replace hb2 := nb_tf hb2) | with_reducible (replace hb2 := nb_bt hb2) | with_reducible (replace hb2 := nb_bf hb2) | skip
      refine wp_skip ?_
      refine th_n ?_
      refine hK5 _ _ ?_
      clear hK5 K5
      refine wp_seq_k fun K8 hK8 => ?_
      refine wp_region_lit ?_  -- region 5 exact.go:232
      refine S_beg 17 rfl ?_
      refine S_val (Y_assign rfl) ?_
      refine S_nil (L' := (_ :: _ :: _ :: _ :: _ :: _ :: _ :: _ :: _ :: _ :: _ :: _ :: _ :: _ :: _ :: _ :: _ :: [])) rfl rfl ?_
      refine th_n ?_
      refine hK8 _ _ ?_
      clear hK8 K8
      refine wp_ret ?_
      refine ret_r1 rfl rfl ?_  -- r3
      exact ⟨bT (lh_ext hb1 hb2), G⟩

end Go.Proofs.Ytdfifnplgbceaab
