/-
  Walks: the laws' own helpers that measure and compare values.
  Conditions: those that each theorem states.
-/
import Derived.Test.YtjmfdmndchoplaaTy
import Derived.Test.YtjmfdmndchoplaaOps
import Derived.Test.YtjmfdmndchoplaaPlain
namespace Go.Proofs.Ytjmfdmndchoplaa
open Go Go.RowKit
attribute [local irreducible] wpList wpAnyH Code.wp dOp

theorem bF {p : Prop} [Decidable p] (h : ¬ p) : Value.bool false = .bool (decide p) := by simp [h]
theorem bT {p : Prop} [Decidable p] (h : p) : Value.bool true = .bool (decide p) := by simp [h]
theorem take_eq {α : Type} {xs ys : List α} {k : Nat} (h : xs.take k = ys.take k) (hx : k < xs.length) (hy : k < ys.length) (e : xs[k] = ys[k]) : xs.take (k + 1) = ys.take (k + 1) := by
  rw [List.take_succ_eq_append_getElem hx, List.take_succ_eq_append_getElem hy, h, e]
theorem take_all {α : Type} {xs ys : List α} {k : Nat} (h : xs.take k = ys.take k) (hx : xs.length ≤ k) (hy : ys.length ≤ k) : xs = ys := by
  rwa [List.take_of_length_le hx, List.take_of_length_le hy] at h


set_option maxHeartbeats 400000 in
set_option maxRecDepth 20000 in
theorem laws_szIntS_c (A : Option Addr) (n c : Nat) (left : Int) (w : World) (hn : n ≤ 9223372036854775807) (hl : -1 ≤ left) (hl2 : left ≤ 1048576) :
    Calls Try.prog 55 #[.slice A n c, .int .i64 left] w (Ret fun v w' => ∃ r : Int, v = .int .i64 r ∧ (-1 ≤ r ∧ r ≤ 1048576 ∧ (0 ≤ r → (n : Int) + r ≤ left)) ∧ Grow w w') := by
 refine enter Try.func55 rfl Try.ntmps55 (L := [_,_,_,_,_,_,_,_,_,_,_,_]) rfl ?_
 have G := Mod.refl No w
 refine wp_seq_k fun K1 hK1 => ?_
 refine Sb 12 rfl ?_  -- 0
 refine S_val (Y_assign rfl) ?_
 refine S_nl rfl rfl ?_
 refine th_n (hK1 _ _ ?_)
 clear hK1 K1
 refine wp_seq_k fun K2 hK2 => ?_
 refine Sb 12 rfl ?_  -- 1
 refine S_val (Y_move rfl) ?_
 refine S_val (Y_move rfl) ?_
 refine S_val (Y_len Try.underlying22 rfl) ?_
 refine S_val (Y_sub rfl rfl rfl (by omega) (by omega)) ?_
 refine S_val (Y_assign rfl) ?_
 refine S_nl rfl rfl ?_
 refine th_n (hK2 _ _ ?_)
 clear hK2 K2
 refine wp_seq_k fun K3 hK3 => ?_
 refine wp_seq_k fun K4 hK4 => ?_
 refine Sb 12 rfl ?_  -- 2
 refine S_val (Y_move rfl) ?_
 refine S_val (Y_lss rfl rfl) ?_
 refine S_nl rfl rfl ?_
 refine th_n (hK4 _ _ ?_)
 clear hK4 K4
 refine S_if rfl (fun hb1 => ?_) (fun hb1 => ?_)  -- c1
 · -- c1T
  replace hb1 := nb_tt hb1
  refine wp_seq_k fun K5 hK5 => ?_
  refine Sb 12 rfl ?_  -- 3
  refine S_val (Y_assign rfl) ?_
  refine S_nl rfl rfl ?_
  refine th_n (hK5 _ _ ?_)
  clear hK5 K5
  refine wp_ret ?_
  refine th_r ?_
  clear hK3 K3
  refine ret_r1 rfl rfl ?_  -- r1
  exact ⟨_, rfl, by omega, G⟩
 · -- c1F
  replace hb1 := nb_tf hb1
  refine wp_skip ?_
  refine th_n (hK3 _ _ ?_)
  clear hK3 K3
  refine wp_seq_k fun K6 hK6 => ?_
  refine Sb 12 rfl ?_  -- 4
  refine S_val (Y_move rfl) ?_
  refine S_val (Y_assign rfl) ?_
  refine S_nl rfl rfl ?_
  refine th_n (hK6 _ _ ?_)
  clear hK6 K6
  refine wp_ret ?_
  refine ret_r1 rfl rfl ?_  -- r2
  exact ⟨_, rfl, by omega, G⟩

set_option maxHeartbeats 400000 in
set_option maxRecDepth 20000 in
theorem laws_szCell_c (u : Bool) (x : Int) (A : Option Addr) (n c : Nat) (left : Int) (w : World) (hn : n ≤ 9223372036854775807) (hl : -1 ≤ left) (hl2 : left ≤ 1048576) :
    Calls Try.prog 92 #[.agg #[.bool u, .int .i64 x, .slice A n c], .int .i64 left] w (Ret fun v w' => ∃ r : Int, v = .int .i64 r ∧ (-1 ≤ r ∧ r ≤ 1048576 ∧ (0 ≤ r → (n : Int) + r ≤ left)) ∧ Grow w w') := by
 refine enter Try.func92 rfl Try.ntmps92 (L := [_,_,_,_,_,_,_,_,_,_,_,_]) rfl ?_
 have G := Mod.refl No w
 refine wp_seq_k fun K1 hK1 => ?_
 refine Sb 12 rfl ?_  -- 0
 refine S_box (cs := [_, _, _]) rfl rfl ?_
 intro b1 w1 fb1 g1 B1
 have lb1 := B1.lt
 replace G := G.grow g1
 have zg1 := g1.size
 refine S_val (Y_assign rfl) ?_
 refine S_nl rfl rfl ?_
 refine th_n (hK1 _ _ ?_)
 clear hK1 K1
 refine wp_seq_k fun K2 hK2 => ?_
 refine Sb 12 rfl ?_  -- 1
 refine S_val (Y_field Try.underlying108 rfl fz108_2 (by decide) rfl) ?_
 refine S_val (Y_load Try.underlying22 rfl rfl (B1.at (by rfl))) ?_  -- l1
 refine S_val (Y_move rfl) ?_
 refine S_call rfl en55 (laws_szIntS_c _ _ _ _ _ (by omega) (by omega) (by omega)) ?_  -- k1 laws.szIntS
 rintro v2 w2 ⟨r2, rfl, hr2, g2⟩
 replace G := G.grow g2
 replace B1 := B1.grow g2
 have zg2 := g2.size
 refine S_val (Y_assign rfl) ?_
 refine S_nl rfl rfl ?_
 refine th_n (hK2 _ _ ?_)
 clear hK2 K2
 refine wp_seq_k fun K3 hK3 => ?_
 refine wp_seq_k fun K4 hK4 => ?_
 refine Sb 12 rfl ?_  -- 2
 refine S_val (Y_move rfl) ?_
 refine S_val (Y_lss rfl rfl) ?_
 refine S_nl rfl rfl ?_
 refine th_n (hK4 _ _ ?_)
 clear hK4 K4
 refine S_if rfl (fun hb1 => ?_) (fun hb1 => ?_)  -- c1
 · -- c1T
  replace hb1 := nb_tt hb1
  refine wp_seq_k fun K5 hK5 => ?_
  refine Sb 12 rfl ?_  -- 3
  refine S_val (Y_assign rfl) ?_
  refine S_nl rfl rfl ?_
  refine th_n (hK5 _ _ ?_)
  clear hK5 K5
  refine wp_ret ?_
  refine th_r ?_
  clear hK3 K3
  refine ret_r1 rfl rfl ?_  -- r1
  exact ⟨_, rfl, by omega, G⟩
 · -- c1F
  replace hb1 := nb_tf hb1
  refine wp_skip ?_
  refine th_n (hK3 _ _ ?_)
  clear hK3 K3
  refine wp_seq_k fun K6 hK6 => ?_
  refine Sb 12 rfl ?_  -- 4
  refine S_val (Y_move rfl) ?_
  refine S_val (Y_assign rfl) ?_
  refine S_nl rfl rfl ?_
  refine th_n (hK6 _ _ ?_)
  clear hK6 K6
  refine wp_ret ?_
  refine ret_r1 rfl rfl ?_  -- r2
  exact ⟨_, rfl, by omega, G⟩

set_option maxHeartbeats 400000 in
set_option maxRecDepth 20000 in
theorem laws_szCellS_c (Pr : Nat → Prop) (A : Option Addr) (cs : List LC) (c : Nat) (left : Int) (w : World) (hA : RC Pr w A cs) (hn : cs.length ≤ 9223372036854775807) (hN : ∀ x ∈ cs, x.refs.length ≤ 9223372036854775807) (hl : -1 ≤ left) (hl2 : left ≤ 1048576) :
    Calls Try.prog 54 #[.slice A cs.length c, .int .i64 left] w (Ret fun v w' => ∃ r : Int, v = .int .i64 r ∧ (-1 ≤ r ∧ r ≤ 1048576 ∧ (0 ≤ r → (cs.length : Int) + rsum cs cs.length + r ≤ left)) ∧ Grow w w') := by
 refine enter Try.func54 rfl Try.ntmps54 (L := [_,_,_,_,_,_,_,_,_,_,_,_,_,_,_,_,_,_,_,_,_,_,_,_,_,_,_]) rfl ?_
 have G := Mod.refl No w
 have hA0 := hA
 refine wp_seq_k fun K1 hK1 => ?_
 refine Sb 27 rfl ?_  -- 0
 refine S_val (Y_assign rfl) ?_
 refine S_nl rfl rfl ?_
 refine th_n (hK1 _ _ ?_)
 clear hK1 K1
 refine wp_seq_k fun K2 hK2 => ?_
 refine Sb 27 rfl ?_  -- 1
 refine S_val (Y_move rfl) ?_
 refine S_val (Y_move rfl) ?_
 refine S_val (Y_len Try.underlying34 rfl) ?_
 refine S_val (Y_sub rfl rfl rfl (by omega) (by omega)) ?_
 refine S_val (Y_assign rfl) ?_
 refine S_nl rfl rfl ?_
 refine th_n (hK2 _ _ ?_)
 clear hK2 K2
 refine wp_seq_k fun K3 hK3 => ?_
 refine wp_seq_k fun K4 hK4 => ?_
 refine Sb 27 rfl ?_  -- 2
 refine S_val (Y_move rfl) ?_
 refine S_val (Y_lss rfl rfl) ?_
 refine S_nl rfl rfl ?_
 refine th_n (hK4 _ _ ?_)
 clear hK4 K4
 refine S_if rfl (fun hb1 => ?_) (fun hb1 => ?_)  -- c1
 · -- c1T
  replace hb1 := nb_tt hb1
  refine wp_seq_k fun K5 hK5 => ?_
  refine Sb 27 rfl ?_  -- 3
  refine S_val (Y_assign rfl) ?_
  refine S_nl rfl rfl ?_
  refine th_n (hK5 _ _ ?_)
  clear hK5 K5
  refine wp_ret ?_
  refine th_r ?_
  clear hK3 K3
  refine ret_r1 rfl rfl ?_  -- r1
  exact ⟨_, rfl, by omega, G⟩
 · -- c1F
  replace hb1 := nb_tf hb1
  refine wp_skip ?_
  refine th_n (hK3 _ _ ?_)
  clear hK3 K3
  refine wp_seq_k fun K6 hK6 => ?_
  refine wp_seq_k fun K7 hK7 => ?_
  refine Sb 27 rfl ?_  -- 4
  refine S_val (Y_assign rfl) ?_
  refine S_nl rfl rfl ?_
  refine th_n (hK7 _ _ ?_)
  clear hK7 K7
  refine wp_block ?_
  go_loopw [1, 5] (fun u1 u5 wr => (∃ (k : Nat) (l : Int), u5 = .int .i64 k ∧ u1 = .int .i64 l ∧ k ≤ cs.length ∧ 0 ≤ l ∧ (cs.length : Int) + rsum cs k + l ≤ left) ∧ Mod No w wr) (fun u1 u5 wr => cs.length - (intOf u5).toNat)  -- L1
  case atStart =>
   refine ⟨?_, Mod.refl _ _⟩
   exact ⟨0, _, rfl, rfl, by omega, by omega, by simp [rsum]; omega⟩
  case round =>
   obtain ⟨w1, rfl⟩ : ∃ x : World, x = wr := ⟨_, rfl⟩
   obtain ⟨hrel, g1⟩ := hrel
   replace hA := hA.grow g1
   replace G := G.grow g1
   have zg1 := g1.size
   obtain ⟨k, l, rfl, rfl, hk, hl0, hs⟩ := hrel
   have GL1 := g1
   refine wp_seq_k fun K8 hK8 => ?_
   refine wp_seq_k fun K9 hK9 => ?_
   refine Sb 27 rfl ?_  -- 5
   refine S_val (Y_move rfl) ?_
   refine S_val (Y_move rfl) ?_
   refine S_val (Y_len Try.underlying34 rfl) ?_
   refine S_val (Y_lss rfl rfl) ?_
   refine S_nl rfl rfl ?_
   refine th_n (hK9 _ _ ?_)
   clear hK9 K9
   refine S_if rfl (fun hb2 => ?_) (fun hb2 => ?_)  -- c2
   · -- c2T
    replace hb2 := nb_tt hb2
    have hk2 : k < cs.length := by omega
    obtain ⟨g1, o1, E1, d1, rfl, hp1, hc1, _⟩ := hA.cell hk2
    have hN1 := hN cs[k] (List.getElem_mem hk2)
    refine wp_skip ?_
    refine th_n (hK8 _ _ ?_)
    clear hK8 K8
    refine wp_seq_k fun K10 hK10 => ?_
    refine wp_block ?_
    refine wp_seq_k fun K11 hK11 => ?_
    refine Sb 27 rfl ?_  -- 7
    refine S_val (Y_move rfl) ?_
    refine S_val (Y_move rfl) ?_
    refine S_val (Y_index Try.underlying34 sz108 rfl rfl (by first | assumption | omega)) ?_
    refine S_val (Y_loadS Try.underlying108 rfl sz108 rfl (by first | assumption | skip)) ?_  -- l1
    refine S_val (Y_move rfl) ?_
    refine S_call rfl en92 (laws_szCell_c _ _ _ _ _ _ _ (by omega) (by omega) (by omega)) ?_  -- k1 laws.szCell
    rintro v2 w2 ⟨r2, rfl, hr2, g2⟩
    replace hA := hA.grow g2
    replace G := G.grow g2
    replace GL1 := GL1.grow g2
    have zg2 := g2.size
    refine S_val (Y_assign rfl) ?_
    refine S_nl rfl rfl ?_
    refine th_n (hK11 _ _ ?_)
    clear hK11 K11
    refine wp_seq_k fun K12 hK12 => ?_
    refine Sb 27 rfl ?_  -- 8
    refine S_val (Y_move rfl) ?_
    refine S_val (Y_lss rfl rfl) ?_
    refine S_nl rfl rfl ?_
    refine th_n (hK12 _ _ ?_)
    clear hK12 K12
    refine S_if rfl (fun hb3 => ?_) (fun hb3 => ?_)  -- c3
    · -- c3T
     replace hb3 := nb_tt hb3
     refine wp_seq_k fun K13 hK13 => ?_
     refine Sb 27 rfl ?_  -- 9
     refine S_val (Y_assign rfl) ?_
     refine S_nl rfl rfl ?_
     refine th_n (hK13 _ _ ?_)
     clear hK13 K13
     refine wp_ret ?_
     refine ib_r ?_
     refine th_r ?_
     clear GL1
     refine th_r ?_
     refine ib_r ?_
     refine th_r ?_
     clear hK10 K10 hK6 K6
     refine ret_r1 rfl rfl ?_  -- r2
     exact ⟨_, rfl, by omega, G⟩
    · -- c3F
     replace hb3 := nb_tf hb3
     refine wp_skip ?_
     refine ib_n ?_
     refine th_n (hK10 _ _ ?_)
     clear hK10 K10
     refine Sb 27 rfl ?_  -- 6
     refine S_val (Y_move rfl) ?_
     refine S_val (Y_inc rfl rfl (by omega)) ?_
     refine S_val (Y_assign rfl) ?_
     refine S_nl rfl rfl ?_
     refine th_n ?_
     go_roundw  -- e1 of L1
     case rel =>
      refine ⟨?_, GL1⟩
      exact ⟨k + 1, _, rfl, rfl, by omega, by omega, by rw [rsum_succ (by omega)]; omega⟩
     case measure =>
      exact dec_nat (by omega)
   · -- c2F
    replace hb2 := nb_tf hb2
    refine wp_exit ?_
    refine th_x ?_
    clear GL1
    refine th_x ?_
    refine ib_e ?_
    refine th_n (hK6 _ _ ?_)
    clear hK8 K8 hK6 K6
    refine wp_seq_k fun K14 hK14 => ?_
    refine Sb 27 rfl ?_  -- 10
    refine S_val (Y_move rfl) ?_
    refine S_val (Y_assign rfl) ?_
    refine S_nl rfl rfl ?_
    refine th_n (hK14 _ _ ?_)
    clear hK14 K14
    refine wp_ret ?_
    refine ret_r1 rfl rfl ?_  -- r3
    have : k = cs.length := by omega
    subst this
    exact ⟨_, rfl, by omega, G⟩

set_option maxHeartbeats 400000 in
set_option maxRecDepth 20000 in
theorem laws_szHeap_c (Pr : Nat → Prop) (A B : Option Addr) (h : LH) (c d : Nat) (left : Int) (w : World) (hA : RC Pr w A h.cells) (hn : h.cells.length ≤ 9223372036854775807) (hN : ∀ x ∈ h.cells, x.refs.length ≤ 9223372036854775807) (hm : h.roots.length ≤ 9223372036854775807) (hl : -1 ≤ left) (hl2 : left ≤ 1048576) :
    Calls Try.prog 18 #[.agg #[.slice A h.cells.length c, .slice B h.roots.length d], .int .i64 left] w (Ret fun v w' => ∃ r : Int, v = .int .i64 r ∧ (-1 ≤ r ∧ r ≤ 1048576 ∧ (0 ≤ r → (hsize h : Int) + r ≤ left)) ∧ Grow w w') := by
 refine enter Try.func18 rfl Try.ntmps18 (L := [_,_,_,_,_,_,_,_,_,_,_,_,_,_,_,_,_,_]) rfl ?_
 have G := Mod.refl No w
 have hA0 := hA
 refine wp_seq_k fun K1 hK1 => ?_
 refine Sb 18 rfl ?_  -- 0
 refine S_box (cs := [_, _]) rfl rfl ?_
 intro b1 w1 fb1 g1 B1
 have lb1 := B1.lt
 replace hA := hA.grow g1
 replace G := G.grow g1
 have zg1 := g1.size
 refine S_val (Y_assign rfl) ?_
 refine S_nl rfl rfl ?_
 refine th_n (hK1 _ _ ?_)
 clear hK1 K1
 refine wp_seq_k fun K2 hK2 => ?_
 refine Sb 18 rfl ?_  -- 1
 refine S_val (Y_field Try.underlying36 rfl fz36_0 (by decide) rfl) ?_
 refine S_val (Y_load Try.underlying34 rfl rfl (B1.at (by rfl))) ?_  -- l1
 refine S_val (Y_move rfl) ?_
 refine S_call rfl en54 (laws_szCellS_c _ _ _ _ _ _ (by assumption) (by omega) (by assumption) (by omega) (by omega)) ?_  -- k1 laws.szCellS
 rintro v2 w2 ⟨r2, rfl, hr2, g2⟩
 replace hA := hA.grow g2
 replace G := G.grow g2
 replace B1 := B1.grow g2
 have zg2 := g2.size
 refine S_val (Y_assign rfl) ?_
 refine S_nl rfl rfl ?_
 refine th_n (hK2 _ _ ?_)
 clear hK2 K2
 refine wp_seq_k fun K3 hK3 => ?_
 refine wp_seq_k fun K4 hK4 => ?_
 refine Sb 18 rfl ?_  -- 2
 refine S_val (Y_move rfl) ?_
 refine S_val (Y_lss rfl rfl) ?_
 refine S_nl rfl rfl ?_
 refine th_n (hK4 _ _ ?_)
 clear hK4 K4
 refine S_if rfl (fun hb1 => ?_) (fun hb1 => ?_)  -- c1
 · -- c1T
  replace hb1 := nb_tt hb1
  refine wp_seq_k fun K5 hK5 => ?_
  refine Sb 18 rfl ?_  -- 3
  refine S_val (Y_assign rfl) ?_
  refine S_nl rfl rfl ?_
  refine th_n (hK5 _ _ ?_)
  clear hK5 K5
  refine wp_ret ?_
  refine th_r ?_
  clear hK3 K3
  refine ret_r1 rfl rfl ?_  -- r1
  exact ⟨_, rfl, by unfold hsize; omega, G⟩
 · -- c1F
  replace hb1 := nb_tf hb1
  refine wp_skip ?_
  refine th_n (hK3 _ _ ?_)
  clear hK3 K3
  refine wp_seq_k fun K6 hK6 => ?_
  refine Sb 18 rfl ?_  -- 4
  refine S_val (Y_field Try.underlying36 rfl fz36_1 (by decide) rfl) ?_
  refine S_val (Y_load Try.underlying22 rfl rfl (B1.at (by rfl))) ?_  -- l2
  refine S_val (Y_move rfl) ?_
  refine S_call rfl en55 (laws_szIntS_c _ _ _ _ _ (by omega) (by omega) (by omega)) ?_  -- k2 laws.szIntS
  rintro v3 w3 ⟨r3, rfl, hr3, g3⟩
  replace hA := hA.grow g3
  replace G := G.grow g3
  replace B1 := B1.grow g3
  have zg3 := g3.size
  refine S_val (Y_assign rfl) ?_
  refine S_nl rfl rfl ?_
  refine th_n (hK6 _ _ ?_)
  clear hK6 K6
  refine wp_seq_k fun K7 hK7 => ?_
  refine wp_seq_k fun K8 hK8 => ?_
  refine Sb 18 rfl ?_  -- 5
  refine S_val (Y_move rfl) ?_
  refine S_val (Y_lss rfl rfl) ?_
  refine S_nl rfl rfl ?_
  refine th_n (hK8 _ _ ?_)
  clear hK8 K8
  refine S_if rfl (fun hb2 => ?_) (fun hb2 => ?_)  -- c2
  · -- c2T
   replace hb2 := nb_tt hb2
   refine wp_seq_k fun K9 hK9 => ?_
   refine Sb 18 rfl ?_  -- 6
   refine S_val (Y_assign rfl) ?_
   refine S_nl rfl rfl ?_
   refine th_n (hK9 _ _ ?_)
   clear hK9 K9
   refine wp_ret ?_
   refine th_r ?_
   clear hK7 K7
   refine ret_r1 rfl rfl ?_  -- r2
   exact ⟨_, rfl, by unfold hsize; omega, G⟩
  · -- c2F
   replace hb2 := nb_tf hb2
   refine wp_skip ?_
   refine th_n (hK7 _ _ ?_)
   clear hK7 K7
   refine wp_seq_k fun K10 hK10 => ?_
   refine Sb 18 rfl ?_  -- 7
   refine S_val (Y_move rfl) ?_
   refine S_val (Y_assign rfl) ?_
   refine S_nl rfl rfl ?_
   refine th_n (hK10 _ _ ?_)
   clear hK10 K10
   refine wp_ret ?_
   refine ret_r1 rfl rfl ?_  -- r3
   exact ⟨_, rfl, by unfold hsize; omega, G⟩

set_option maxHeartbeats 400000 in
set_option maxRecDepth 20000 in
theorem laws_eqIntS_c (P1 P2 : Nat → Prop) (A B : Option Addr) (xs ys : List Int) (c d : Nat) (w : World) (hA : R1 P1 w A (ints xs)) (hB : R1 P2 w B (ints ys)) (hx : xs.length ≤ 9223372036854775807) :
    Calls Try.prog 14 #[.slice A xs.length c, .slice B ys.length d] w (Ret fun v w' => v = .bool (decide (xs = ys)) ∧ Grow w w') := by
 refine enter Try.func14 rfl Try.ntmps14 (L := [_,_,_,_,_,_,_,_,_,_,_,_,_,_,_,_,_,_,_,_,_,_,_,_,_,_]) rfl ?_
 have G := Mod.refl No w
 have hA0 := hA
 have hB0 := hB
 refine wp_seq_k fun K1 hK1 => ?_
 refine Sb 26 rfl ?_  -- 0
 refine S_val (Y_assign rfl) ?_
 refine S_nl rfl rfl ?_
 refine th_n (hK1 _ _ ?_)
 clear hK1 K1
 refine wp_seq_k fun K2 hK2 => ?_
 refine wp_seq_k fun K3 hK3 => ?_
 refine Sb 26 rfl ?_  -- 1
 refine S_val (Y_move rfl) ?_
 refine S_val (Y_len Try.underlying22 rfl) ?_
 refine S_val (Y_move rfl) ?_
 refine S_val (Y_len Try.underlying22 rfl) ?_
 refine S_val (Y_neq rfl rfl) ?_
 refine S_nl rfl rfl ?_
 refine th_n (hK3 _ _ ?_)
 clear hK3 K3
 refine S_if rfl (fun hb1 => ?_) (fun hb1 => ?_)  -- c1
 · -- c1T
  replace hb1 := nb_nt hb1
  refine wp_seq_k fun K4 hK4 => ?_
  refine Sb 26 rfl ?_  -- 2
  refine S_val (Y_assign rfl) ?_
  refine S_nl rfl rfl ?_
  refine th_n (hK4 _ _ ?_)
  clear hK4 K4
  refine wp_ret ?_
  refine th_r ?_
  clear hK2 K2
  refine ret_r1 rfl rfl ?_  -- r1
  exact ⟨bF (fun e => hb1 (by rw [e])), G⟩
 · -- c1F
  replace hb1 := nb_nf hb1
  refine wp_skip ?_
  refine th_n (hK2 _ _ ?_)
  clear hK2 K2
  refine wp_seq_k fun K5 hK5 => ?_
  refine wp_seq_k fun K6 hK6 => ?_
  refine Sb 26 rfl ?_  -- 3
  refine S_val (Y_assign rfl) ?_
  refine S_nl rfl rfl ?_
  refine th_n (hK6 _ _ ?_)
  clear hK6 K6
  refine wp_block ?_
  go_loopw [5] (fun u5 wr => (∃ k : Nat, u5 = .int .i64 k ∧ k ≤ xs.length ∧ xs.take k = ys.take k) ∧ Mod No w wr) (fun u5 wr => xs.length - (intOf u5).toNat)  -- L1
  case atStart =>
   refine ⟨?_, Mod.refl _ _⟩
   exact ⟨0, rfl, by omega, by simp⟩
  case round =>
   obtain ⟨w1, rfl⟩ : ∃ x : World, x = wr := ⟨_, rfl⟩
   obtain ⟨hrel, g1⟩ := hrel
   replace hA := hA.grow g1
   replace hB := hB.grow g1
   replace G := G.grow g1
   have zg1 := g1.size
   obtain ⟨k, rfl, hk, hs⟩ := hrel
   have GL1 := g1
   refine wp_seq_k fun K7 hK7 => ?_
   refine wp_seq_k fun K8 hK8 => ?_
   refine Sb 26 rfl ?_  -- 4
   refine S_val (Y_move rfl) ?_
   refine S_val (Y_move rfl) ?_
   refine S_val (Y_len Try.underlying22 rfl) ?_
   refine S_val (Y_lss rfl rfl) ?_
   refine S_nl rfl rfl ?_
   refine th_n (hK8 _ _ ?_)
   clear hK8 K8
   refine S_if rfl (fun hb2 => ?_) (fun hb2 => ?_)  -- c2
   · -- c2T
    replace hb2 := nb_tt hb2
    refine wp_skip ?_
    refine th_n (hK7 _ _ ?_)
    clear hK7 K7
    refine wp_seq_k fun K9 hK9 => ?_
    refine wp_block ?_
    refine wp_seq_k fun K10 hK10 => ?_
    refine D_start 9 26 (fun w => Mod (No) w) follows rfl rfl ?_  -- d1 r6
    intro w2 g2
    replace hA := hA.grow g2
    replace hB := hB.grow g2
    replace G := G.grow g2
    replace GL1 := GL1.grow g2
    have zg2 := g2.size
    have GS2 := Mod.refl (No) w2
    obtain ⟨g1, o1, rfl, hp1, hc1⟩ := hA.int (k := k) (by omega)
    obtain ⟨g2, o2, rfl, hp2, hc2⟩ := hB.int (k := k) (by omega)
    refine Dq (i := 0) rfl GS2 (fun _ _ => Y_move rfl) ?_
    refine Dq (i := 1) rfl GS2 (fun _ _ => Y_move rfl) ?_
    refine Dq (i := 2) rfl GS2 (fun _ _ => Y_index Try.underlying22 sz3 rfl rfl (by first | assumption | omega)) ?_
    refine Dq (i := 3) rfl GS2 (fun _ hs => Y_load Try.underlying3 rfl rfl (by first | exact hs.cell0 (by assumption))) ?_
    refine Dq (i := 4) rfl GS2 (fun _ _ => Y_move rfl) ?_
    refine Dq (i := 5) rfl GS2 (fun _ _ => Y_move rfl) ?_
    refine Dq (i := 6) rfl GS2 (fun _ _ => Y_index Try.underlying22 sz3 rfl rfl (by first | assumption | omega)) ?_
    refine Dq (i := 7) rfl GS2 (fun _ hs => Y_load Try.underlying3 rfl rfl (by first | exact hs.cell0 (by assumption))) ?_
    refine Dq (i := 8) rfl GS2 (fun _ _ => Y_neq rfl rfl) ?_
    refine D_en (by kernel_rfl) rfl rfl ?_
    refine th_n (hK10 _ _ ?_)
    clear hK10 K10
    refine S_if rfl (fun hb3 => ?_) (fun hb3 => ?_)  -- c3
    · -- c3T
     replace hb3 := nb_nt hb3
     refine wp_seq_k fun K11 hK11 => ?_
     refine Sb 26 rfl ?_  -- 7
     refine S_val (Y_assign rfl) ?_
     refine S_nl rfl rfl ?_
     refine th_n (hK11 _ _ ?_)
     clear hK11 K11
     refine wp_ret ?_
     refine ib_r ?_
     refine th_r ?_
     clear GL1
     refine th_r ?_
     refine ib_r ?_
     refine th_r ?_
     clear hK9 K9 hK5 K5
     refine ret_r1 rfl rfl ?_  -- r2
     exact ⟨bF (fun e => hb3 (by subst e; rfl)), G⟩
    · -- c3F
     replace hb3 := nb_nf hb3
     refine wp_skip ?_
     refine ib_n ?_
     refine th_n (hK9 _ _ ?_)
     clear hK9 K9
     refine Sb 26 rfl ?_  -- 5
     refine S_val (Y_move rfl) ?_
     refine S_val (Y_inc rfl rfl (by omega)) ?_
     refine S_val (Y_assign rfl) ?_
     refine S_nl rfl rfl ?_
     refine th_n ?_
     go_roundw  -- e1 of L1
     case rel =>
      refine ⟨?_, GL1⟩
      exact ⟨k + 1, rfl, by omega, take_eq hs (by omega) (by omega) hb3⟩
     case measure =>
      exact dec_nat (by omega)
   · -- c2F
    replace hb2 := nb_tf hb2
    refine wp_exit ?_
    refine th_x ?_
    clear GL1
    refine th_x ?_
    refine ib_e ?_
    refine th_n (hK5 _ _ ?_)
    clear hK7 K7 hK5 K5
    refine wp_seq_k fun K12 hK12 => ?_
    refine Sb 26 rfl ?_  -- 8
    refine S_val (Y_assign rfl) ?_
    refine S_nl rfl rfl ?_
    refine th_n (hK12 _ _ ?_)
    clear hK12 K12
    refine wp_ret ?_
    refine ret_r1 rfl rfl ?_  -- r3
    exact ⟨bT (take_all hs (by omega) (by omega)), G⟩

set_option maxHeartbeats 400000 in
set_option maxRecDepth 20000 in
theorem laws_eqBoolS_c (P1 P2 : Nat → Prop) (A B : Option Addr) (xs ys : List Bool) (c d : Nat) (w : World) (hA : R1 P1 w A (bools xs)) (hB : R1 P2 w B (bools ys)) (hx : xs.length ≤ 9223372036854775807) :
    Calls Try.prog 22 #[.slice A xs.length c, .slice B ys.length d] w (Ret fun v w' => v = .bool (decide (xs = ys)) ∧ Grow w w') := by
 refine enter Try.func22 rfl Try.ntmps22 (L := [_,_,_,_,_,_,_,_,_,_,_,_,_,_,_,_,_,_,_,_,_,_,_,_,_,_]) rfl ?_
 have G := Mod.refl No w
 have hA0 := hA
 have hB0 := hB
 refine wp_seq_k fun K1 hK1 => ?_
 refine Sb 26 rfl ?_  -- 0
 refine S_val (Y_assign rfl) ?_
 refine S_nl rfl rfl ?_
 refine th_n (hK1 _ _ ?_)
 clear hK1 K1
 refine wp_seq_k fun K2 hK2 => ?_
 refine wp_seq_k fun K3 hK3 => ?_
 refine Sb 26 rfl ?_  -- 1
 refine S_val (Y_move rfl) ?_
 refine S_val (Y_len Try.underlying38 rfl) ?_
 refine S_val (Y_move rfl) ?_
 refine S_val (Y_len Try.underlying38 rfl) ?_
 refine S_val (Y_neq rfl rfl) ?_
 refine S_nl rfl rfl ?_
 refine th_n (hK3 _ _ ?_)
 clear hK3 K3
 refine S_if rfl (fun hb1 => ?_) (fun hb1 => ?_)  -- c1
 · -- c1T
  replace hb1 := nb_nt hb1
  refine wp_seq_k fun K4 hK4 => ?_
  refine Sb 26 rfl ?_  -- 2
  refine S_val (Y_assign rfl) ?_
  refine S_nl rfl rfl ?_
  refine th_n (hK4 _ _ ?_)
  clear hK4 K4
  refine wp_ret ?_
  refine th_r ?_
  clear hK2 K2
  refine ret_r1 rfl rfl ?_  -- r1
  exact ⟨bF (fun e => hb1 (by rw [e])), G⟩
 · -- c1F
  replace hb1 := nb_nf hb1
  refine wp_skip ?_
  refine th_n (hK2 _ _ ?_)
  clear hK2 K2
  refine wp_seq_k fun K5 hK5 => ?_
  refine wp_seq_k fun K6 hK6 => ?_
  refine Sb 26 rfl ?_  -- 3
  refine S_val (Y_assign rfl) ?_
  refine S_nl rfl rfl ?_
  refine th_n (hK6 _ _ ?_)
  clear hK6 K6
  refine wp_block ?_
  go_loopw [5] (fun u5 wr => (∃ k : Nat, u5 = .int .i64 k ∧ k ≤ xs.length ∧ xs.take k = ys.take k) ∧ Mod No w wr) (fun u5 wr => xs.length - (intOf u5).toNat)  -- L1
  case atStart =>
   refine ⟨?_, Mod.refl _ _⟩
   exact ⟨0, rfl, by omega, by simp⟩
  case round =>
   obtain ⟨w1, rfl⟩ : ∃ x : World, x = wr := ⟨_, rfl⟩
   obtain ⟨hrel, g1⟩ := hrel
   replace hA := hA.grow g1
   replace hB := hB.grow g1
   replace G := G.grow g1
   have zg1 := g1.size
   obtain ⟨k, rfl, hk, hs⟩ := hrel
   have GL1 := g1
   refine wp_seq_k fun K7 hK7 => ?_
   refine wp_seq_k fun K8 hK8 => ?_
   refine Sb 26 rfl ?_  -- 4
   refine S_val (Y_move rfl) ?_
   refine S_val (Y_move rfl) ?_
   refine S_val (Y_len Try.underlying38 rfl) ?_
   refine S_val (Y_lss rfl rfl) ?_
   refine S_nl rfl rfl ?_
   refine th_n (hK8 _ _ ?_)
   clear hK8 K8
   refine S_if rfl (fun hb2 => ?_) (fun hb2 => ?_)  -- c2
   · -- c2T
    replace hb2 := nb_tt hb2
    refine wp_skip ?_
    refine th_n (hK7 _ _ ?_)
    clear hK7 K7
    refine wp_seq_k fun K9 hK9 => ?_
    refine wp_block ?_
    refine wp_seq_k fun K10 hK10 => ?_
    refine D_start 9 26 (fun w => Mod (No) w) follows rfl rfl ?_  -- d1 r6
    intro w2 g2
    replace hA := hA.grow g2
    replace hB := hB.grow g2
    replace G := G.grow g2
    replace GL1 := GL1.grow g2
    have zg2 := g2.size
    have GS2 := Mod.refl (No) w2
    obtain ⟨g1, o1, rfl, hp1, hc1⟩ := hA.bool (k := k) (by omega)
    obtain ⟨g2, o2, rfl, hp2, hc2⟩ := hB.bool (k := k) (by omega)
    refine Dq (i := 0) rfl GS2 (fun _ _ => Y_move rfl) ?_
    refine Dq (i := 1) rfl GS2 (fun _ _ => Y_move rfl) ?_
    refine Dq (i := 2) rfl GS2 (fun _ _ => Y_index Try.underlying38 sz4 rfl rfl (by first | assumption | omega)) ?_
    refine Dq (i := 3) rfl GS2 (fun _ hs => Y_load Try.underlying4 rfl rfl (by first | exact hs.cell0 (by assumption))) ?_
    refine Dq (i := 4) rfl GS2 (fun _ _ => Y_move rfl) ?_
    refine Dq (i := 5) rfl GS2 (fun _ _ => Y_move rfl) ?_
    refine Dq (i := 6) rfl GS2 (fun _ _ => Y_index Try.underlying38 sz4 rfl rfl (by first | assumption | omega)) ?_
    refine Dq (i := 7) rfl GS2 (fun _ hs => Y_load Try.underlying4 rfl rfl (by first | exact hs.cell0 (by assumption))) ?_
    refine Dq (i := 8) rfl GS2 (fun _ _ => Y_neb Try.underlying4 rfl rfl) ?_
    refine D_en (by kernel_rfl) rfl rfl ?_
    refine th_n (hK10 _ _ ?_)
    clear hK10 K10
    refine S_if rfl (fun hb3 => ?_) (fun hb3 => ?_)  -- c3
    · -- c3T
     replace hb3 := nb_nt hb3
     refine wp_seq_k fun K11 hK11 => ?_
     refine Sb 26 rfl ?_  -- 7
     refine S_val (Y_assign rfl) ?_
     refine S_nl rfl rfl ?_
     refine th_n (hK11 _ _ ?_)
     clear hK11 K11
     refine wp_ret ?_
     refine ib_r ?_
     refine th_r ?_
     clear GL1
     refine th_r ?_
     refine ib_r ?_
     refine th_r ?_
     clear hK9 K9 hK5 K5
     refine ret_r1 rfl rfl ?_  -- r2
     exact ⟨bF (fun e => hb3 (by subst e; rfl)), G⟩
    · -- c3F
     replace hb3 := nb_nf hb3
     refine wp_skip ?_
     refine ib_n ?_
     refine th_n (hK9 _ _ ?_)
     clear hK9 K9
     refine Sb 26 rfl ?_  -- 5
     refine S_val (Y_move rfl) ?_
     refine S_val (Y_inc rfl rfl (by omega)) ?_
     refine S_val (Y_assign rfl) ?_
     refine S_nl rfl rfl ?_
     refine th_n ?_
     go_roundw  -- e1 of L1
     case rel =>
      refine ⟨?_, GL1⟩
      exact ⟨k + 1, rfl, by omega, take_eq hs (by omega) (by omega) hb3⟩
     case measure =>
      exact dec_nat (by omega)
   · -- c2F
    replace hb2 := nb_tf hb2
    refine wp_exit ?_
    refine th_x ?_
    clear GL1
    refine th_x ?_
    refine ib_e ?_
    refine th_n (hK5 _ _ ?_)
    clear hK7 K7 hK5 K5
    refine wp_seq_k fun K12 hK12 => ?_
    refine Sb 26 rfl ?_  -- 8
    refine S_val (Y_assign rfl) ?_
    refine S_nl rfl rfl ?_
    refine th_n (hK12 _ _ ?_)
    clear hK12 K12
    refine wp_ret ?_
    refine ret_r1 rfl rfl ?_  -- r3
    exact ⟨bT (take_all hs (by omega) (by omega)), G⟩

instance : DecidableEq LC := fun a b => by
  cases a; cases b
  simp only [LC.mk.injEq]
  infer_instance
instance : DecidableEq LH := fun a b => by
  cases a; cases b
  simp only [LH.mk.injEq]
  infer_instance
theorem lc_ext {a b : LC} (h1 : a.used = b.used) (h2 : a.data = b.data) (h3 : a.refs = b.refs) : a = b := by
  cases a; cases b
  simp_all
theorem lh_ext {a b : LH} (h1 : a.cells = b.cells) (h2 : a.roots = b.roots) : a = b := by
  cases a; cases b
  simp_all

set_option maxHeartbeats 400000 in
set_option maxRecDepth 20000 in
theorem laws_eqCell_c (P1 P2 : Nat → Prop) (x y : LC) (A B : Option Addr) (c d : Nat) (w : World) (hA : R1 P1 w A (ints x.refs)) (hB : R1 P2 w B (ints y.refs)) (hx : x.refs.length ≤ 9223372036854775807) :
    Calls Try.prog 91 #[.agg #[.bool x.used, .int .i64 x.data, .slice A x.refs.length c], .agg #[.bool y.used, .int .i64 y.data, .slice B y.refs.length d]] w (Ret fun v w' => v = .bool (decide (x = y)) ∧ Grow w w') := by
 refine enter Try.func91 rfl Try.ntmps91 (L := [_,_,_,_,_,_,_,_,_,_,_,_,_,_,_,_,_,_,_,_,_]) rfl ?_
 have G := Mod.refl No w
 have hA0 := hA
 have hB0 := hB
 refine wp_seq_k fun K1 hK1 => ?_
 refine Sb 21 rfl ?_  -- 0
 refine S_box (cs := [_, _, _]) rfl rfl ?_
 intro b1 w1 fb1 g1 B1
 have lb1 := B1.lt
 replace hA := hA.grow g1
 replace hB := hB.grow g1
 replace G := G.grow g1
 have zg1 := g1.size
 refine S_box (cs := [_, _, _]) rfl rfl ?_
 intro b2 w2 fb2 g2 B2
 have lb2 := B2.lt
 replace hA := hA.grow g2
 replace hB := hB.grow g2
 replace G := G.grow g2
 replace B1 := B1.grow g2
 have zg2 := g2.size
 refine S_val (Y_assign rfl) ?_
 refine S_nl rfl rfl ?_
 refine th_n (hK1 _ _ ?_)
 clear hK1 K1
 refine wp_seq_k fun K2 hK2 => ?_
 refine wp_seq_k fun K3 hK3 => ?_
 refine Sb 21 rfl ?_  -- 1
 refine S_val (Y_field Try.underlying70 rfl fz70_0 (by decide) rfl) ?_
 refine S_val (Y_load Try.underlying4 rfl rfl (B1.at (by rfl))) ?_  -- l1
 refine S_val (Y_field Try.underlying70 rfl fz70_0 (by decide) rfl) ?_
 refine S_val (Y_load Try.underlying4 rfl rfl (B2.at (by rfl))) ?_  -- l2
 refine S_val (Y_neb Try.underlying4 rfl rfl) ?_
 refine S_nl rfl rfl ?_
 refine th_n (hK3 _ _ ?_)
 clear hK3 K3
 refine S_if rfl (fun hb1 => ?_) (fun hb1 => ?_)  -- c1
 · -- c1T
  replace hb1 := nb_nt hb1
  refine wp_seq_k fun K4 hK4 => ?_
  refine Sb 21 rfl ?_  -- 2
  refine S_val (Y_assign rfl) ?_
  refine S_nl rfl rfl ?_
  refine th_n (hK4 _ _ ?_)
  clear hK4 K4
  refine wp_ret ?_
  refine th_r ?_
  clear hK2 K2
  refine ret_r1 rfl rfl ?_  -- r1
  exact ⟨bF (fun e => hb1 (by rw [e])), G⟩
 · -- c1F
  replace hb1 := nb_nf hb1
  refine wp_skip ?_
  refine th_n (hK2 _ _ ?_)
  clear hK2 K2
  refine wp_seq_k fun K5 hK5 => ?_
  refine wp_seq_k fun K6 hK6 => ?_
  refine Sb 21 rfl ?_  -- 3
  refine S_val (Y_field Try.underlying70 rfl fz70_1 (by decide) rfl) ?_
  refine S_val (Y_load Try.underlying3 rfl rfl (B1.at (by rfl))) ?_  -- l3
  refine S_val (Y_field Try.underlying70 rfl fz70_1 (by decide) rfl) ?_
  refine S_val (Y_load Try.underlying3 rfl rfl (B2.at (by rfl))) ?_  -- l4
  refine S_val (Y_neq rfl rfl) ?_
  refine S_nl rfl rfl ?_
  refine th_n (hK6 _ _ ?_)
  clear hK6 K6
  refine S_if rfl (fun hb2 => ?_) (fun hb2 => ?_)  -- c2
  · -- c2T
   replace hb2 := nb_nt hb2
   refine wp_seq_k fun K7 hK7 => ?_
   refine Sb 21 rfl ?_  -- 4
   refine S_val (Y_assign rfl) ?_
   refine S_nl rfl rfl ?_
   refine th_n (hK7 _ _ ?_)
   clear hK7 K7
   refine wp_ret ?_
   refine th_r ?_
   clear hK5 K5
   refine ret_r1 rfl rfl ?_  -- r2
   exact ⟨bF (fun e => hb2 (by rw [e])), G⟩
  · -- c2F
   replace hb2 := nb_nf hb2
   refine wp_skip ?_
   refine th_n (hK5 _ _ ?_)
   clear hK5 K5
   refine wp_seq_k fun K8 hK8 => ?_
   refine wp_seq_k fun K9 hK9 => ?_
   refine Sb 21 rfl ?_  -- 5
   refine S_val (Y_field Try.underlying70 rfl fz70_2 (by decide) rfl) ?_
   refine S_val (Y_load Try.underlying22 rfl rfl (B1.at (by rfl))) ?_  -- l5
   refine S_val (Y_field Try.underlying70 rfl fz70_2 (by decide) rfl) ?_
   refine S_val (Y_load Try.underlying22 rfl rfl (B2.at (by rfl))) ?_  -- l6
   refine S_call rfl en14 (laws_eqIntS_c _ _ _ _ _ _ _ _ _ (by assumption) (by assumption) (by omega)) ?_  -- k1 laws.eqIntS
   rintro v3 w3 ⟨rfl, g3⟩
   replace hA := hA.grow g3
   replace hB := hB.grow g3
   replace G := G.grow g3
   replace B1 := B1.grow g3
   replace B2 := B2.grow g3
   have zg3 := g3.size
   refine S_val (Y_not rfl) ?_
   refine S_nl rfl rfl ?_
   refine th_n (hK9 _ _ ?_)
   clear hK9 K9
   refine S_if rfl (fun hb3 => ?_) (fun hb3 => ?_)  -- c3
   · -- c3T
    first | with_reducible (replace hb3 := nb_nt hb3) | with_reducible (replace hb3 := nb_tt hb3) | with_reducible (replace hb3 := nb_bt hb3) | skip
    refine wp_seq_k fun K10 hK10 => ?_
    refine Sb 21 rfl ?_  -- 6
    refine S_val (Y_assign rfl) ?_
    refine S_nl rfl rfl ?_
    refine th_n (hK10 _ _ ?_)
    clear hK10 K10
    refine wp_ret ?_
    refine th_r ?_
    clear hK8 K8
    refine ret_r1 rfl rfl ?_  -- r3
    exact ⟨bF (fun e => hb3 (by rw [e])), G⟩
   · -- c3F
    first | with_reducible (replace hb3 := nb_nf hb3) | with_reducible (replace hb3 := nb_tf hb3) | with_reducible (replace hb3 := nb_bf hb3) | skip
    refine wp_skip ?_
    refine th_n (hK8 _ _ ?_)
    clear hK8 K8
    refine wp_seq_k fun K11 hK11 => ?_
    refine Sb 21 rfl ?_  -- 7
    refine S_val (Y_assign rfl) ?_
    refine S_nl rfl rfl ?_
    refine th_n (hK11 _ _ ?_)
    clear hK11 K11
    refine wp_ret ?_
    refine ret_r1 rfl rfl ?_  -- r4
    exact ⟨bT (lc_ext hb1 hb2 hb3), G⟩

set_option maxHeartbeats 400000 in
set_option maxRecDepth 20000 in
theorem laws_eqCellS_c (P1 P2 : Nat → Prop) (A B : Option Addr) (xs ys : List LC) (c d : Nat) (w : World) (hA : RC P1 w A xs) (hB : RC P2 w B ys) (hx : xs.length ≤ 9223372036854775807) (hr : ∀ k (h : k < xs.length), xs[k].refs.length ≤ 9223372036854775807) :
    Calls Try.prog 50 #[.slice A xs.length c, .slice B ys.length d] w (Ret fun v w' => v = .bool (decide (xs = ys)) ∧ Grow w w') := by
 refine enter Try.func50 rfl Try.ntmps50 (L := [_,_,_,_,_,_,_,_,_,_,_,_,_,_,_,_,_,_,_,_,_,_,_,_,_,_,_]) rfl ?_
 have G := Mod.refl No w
 have hA0 := hA
 have hB0 := hB
 refine wp_seq_k fun K1 hK1 => ?_
 refine Sb 27 rfl ?_  -- 0
 refine S_val (Y_assign rfl) ?_
 refine S_nl rfl rfl ?_
 refine th_n (hK1 _ _ ?_)
 clear hK1 K1
 refine wp_seq_k fun K2 hK2 => ?_
 refine wp_seq_k fun K3 hK3 => ?_
 refine Sb 27 rfl ?_  -- 1
 refine S_val (Y_move rfl) ?_
 refine S_val (Y_len Try.underlying23 rfl) ?_
 refine S_val (Y_move rfl) ?_
 refine S_val (Y_len Try.underlying23 rfl) ?_
 refine S_val (Y_neq rfl rfl) ?_
 refine S_nl rfl rfl ?_
 refine th_n (hK3 _ _ ?_)
 clear hK3 K3
 refine S_if rfl (fun hb1 => ?_) (fun hb1 => ?_)  -- c1
 · -- c1T
  replace hb1 := nb_nt hb1
  refine wp_seq_k fun K4 hK4 => ?_
  refine Sb 27 rfl ?_  -- 2
  refine S_val (Y_assign rfl) ?_
  refine S_nl rfl rfl ?_
  refine th_n (hK4 _ _ ?_)
  clear hK4 K4
  refine wp_ret ?_
  refine th_r ?_
  clear hK2 K2
  refine ret_r1 rfl rfl ?_  -- r1
  exact ⟨bF (fun e => hb1 (by rw [e])), G⟩
 · -- c1F
  replace hb1 := nb_nf hb1
  refine wp_skip ?_
  refine th_n (hK2 _ _ ?_)
  clear hK2 K2
  refine wp_seq_k fun K5 hK5 => ?_
  refine wp_seq_k fun K6 hK6 => ?_
  refine Sb 27 rfl ?_  -- 3
  refine S_val (Y_assign rfl) ?_
  refine S_nl rfl rfl ?_
  refine th_n (hK6 _ _ ?_)
  clear hK6 K6
  refine wp_block ?_
  go_loopw [5] (fun u5 wr => (∃ k : Nat, u5 = .int .i64 k ∧ k ≤ xs.length ∧ xs.take k = ys.take k) ∧ Mod No w wr) (fun u5 wr => xs.length - (intOf u5).toNat)  -- L1
  case atStart =>
   refine ⟨?_, Mod.refl _ _⟩
   exact ⟨0, rfl, by omega, by simp⟩
  case round =>
   obtain ⟨w1, rfl⟩ : ∃ x : World, x = wr := ⟨_, rfl⟩
   obtain ⟨hrel, g1⟩ := hrel
   replace hA := hA.grow g1
   replace hB := hB.grow g1
   replace G := G.grow g1
   have zg1 := g1.size
   obtain ⟨k, rfl, hk, hs⟩ := hrel
   have GL1 := g1
   refine wp_seq_k fun K7 hK7 => ?_
   refine wp_seq_k fun K8 hK8 => ?_
   refine Sb 27 rfl ?_  -- 4
   refine S_val (Y_move rfl) ?_
   refine S_val (Y_move rfl) ?_
   refine S_val (Y_len Try.underlying23 rfl) ?_
   refine S_val (Y_lss rfl rfl) ?_
   refine S_nl rfl rfl ?_
   refine th_n (hK8 _ _ ?_)
   clear hK8 K8
   refine S_if rfl (fun hb2 => ?_) (fun hb2 => ?_)  -- c2
   · -- c2T
    replace hb2 := nb_tt hb2
    refine wp_skip ?_
    refine th_n (hK7 _ _ ?_)
    clear hK7 K7
    refine wp_seq_k fun K9 hK9 => ?_
    refine wp_block ?_
    refine wp_seq_k fun K10 hK10 => ?_
    refine D_start 10 27 (fun w => Mod (No) w) follows rfl rfl ?_  -- d1 r6
    intro w2 g2
    replace hA := hA.grow g2
    replace hB := hB.grow g2
    replace G := G.grow g2
    replace GL1 := GL1.grow g2
    have zg2 := g2.size
    have GS2 := Mod.refl (No) w2
    have hk1 : k < xs.length := by omega
    have hk2 : k < ys.length := by omega
    obtain ⟨g1, o1, E1, e1, rfl, hp1, cc1, hE1⟩ := hA.cell hk1
    obtain ⟨g2, o2, E2, e2, rfl, hp2, cc2, hE2⟩ := hB.cell hk2
    have hr1 := hr k hk1
    refine Dq (i := 0) rfl GS2 (fun _ _ => Y_move rfl) ?_
    refine Dq (i := 1) rfl GS2 (fun _ _ => Y_move rfl) ?_
    refine Dq (i := 2) rfl GS2 (fun _ _ => Y_index Try.underlying23 sz70 rfl rfl (by first | assumption | omega)) ?_
    refine Dq (i := 3) rfl GS2 (fun _ hs => Y_loadS Try.underlying70 rfl sz70 rfl (by first | exact hs.cells0 (by assumption))) ?_
    refine Dq (i := 4) rfl GS2 (fun _ _ => Y_move rfl) ?_
    refine Dq (i := 5) rfl GS2 (fun _ _ => Y_move rfl) ?_
    refine Dq (i := 6) rfl GS2 (fun _ _ => Y_index Try.underlying23 sz70 rfl rfl (by first | assumption | omega)) ?_
    refine Dq (i := 7) rfl GS2 (fun _ hs => Y_loadS Try.underlying70 rfl sz70 rfl (by first | exact hs.cells0 (by assumption))) ?_
    refine D_1 (i := 8) (by kernel_rfl) ?_
    refine E_call rfl rfl en91 (laws_eqCell_c _ _ _ _ _ _ _ _ _ (by assumption) (by assumption) (by first | assumption | omega)) ?_  -- k1 laws.eqCell
    rintro v3 w3 ⟨rfl, g3⟩
    replace hA := hA.grow g3
    replace hB := hB.grow g3
    replace hE1 := hE1.grow g3
    replace hE2 := hE2.grow g3
    replace G := G.grow g3
    replace GL1 := GL1.grow g3
    replace GS2 := GS2.grow g3
    replace cc1 := cc1.grow g3
    replace cc2 := cc2.grow g3
    have zg3 := g3.size
    refine ⟨GS2, ?_⟩
    refine Dq (i := 9) rfl GS2 (fun _ _ => Y_not rfl) ?_
    refine D_en (by kernel_rfl) rfl rfl ?_
    refine th_n (hK10 _ _ ?_)
    clear hK10 K10
    refine S_if rfl (fun hb3 => ?_) (fun hb3 => ?_)  -- c3
    · -- c3T
     first | with_reducible (replace hb3 := nb_nt hb3) | with_reducible (replace hb3 := nb_tt hb3) | with_reducible (replace hb3 := nb_bt hb3) | skip
     refine wp_seq_k fun K11 hK11 => ?_
     refine Sb 27 rfl ?_  -- 7
     refine S_val (Y_assign rfl) ?_
     refine S_nl rfl rfl ?_
     refine th_n (hK11 _ _ ?_)
     clear hK11 K11
     refine wp_ret ?_
     refine ib_r ?_
     refine th_r ?_
     clear GL1
     refine th_r ?_
     refine ib_r ?_
     refine th_r ?_
     clear hK9 K9 hK5 K5
     refine ret_r1 rfl rfl ?_  -- r2
     exact ⟨bF (fun e => hb3 (by subst e; rfl)), G⟩
    · -- c3F
     first | with_reducible (replace hb3 := nb_nf hb3) | with_reducible (replace hb3 := nb_tf hb3) | with_reducible (replace hb3 := nb_bf hb3) | skip
     refine wp_skip ?_
     refine ib_n ?_
     refine th_n (hK9 _ _ ?_)
     clear hK9 K9
     refine Sb 27 rfl ?_  -- 5
     refine S_val (Y_move rfl) ?_
     refine S_val (Y_inc rfl rfl (by omega)) ?_
     refine S_val (Y_assign rfl) ?_
     refine S_nl rfl rfl ?_
     refine th_n ?_
     go_roundw  -- e1 of L1
     case rel =>
      refine ⟨?_, GL1⟩
      exact ⟨k + 1, rfl, by omega, take_eq hs (by omega) (by omega) hb3⟩
     case measure =>
      exact dec_nat (by omega)
   · -- c2F
    replace hb2 := nb_tf hb2
    refine wp_exit ?_
    refine th_x ?_
    clear GL1
    refine th_x ?_
    refine ib_e ?_
    refine th_n (hK5 _ _ ?_)
    clear hK7 K7 hK5 K5
    refine wp_seq_k fun K12 hK12 => ?_
    refine Sb 27 rfl ?_  -- 8
    refine S_val (Y_assign rfl) ?_
    refine S_nl rfl rfl ?_
    refine th_n (hK12 _ _ ?_)
    clear hK12 K12
    refine wp_ret ?_
    refine ret_r1 rfl rfl ?_  -- r3
    exact ⟨bT (take_all hs (by omega) (by omega)), G⟩

set_option maxHeartbeats 400000 in
set_option maxRecDepth 20000 in
theorem laws_eqHeap_c (P1 P2 : Nat → Prop) (A B A2 B2 : Option Addr) (x y : LH) (c d c2 d2 : Nat) (w : World) (hA : RC P1 w A x.cells) (hB : R1 P1 w B (ints x.roots)) (hA2 : RC P2 w A2 y.cells) (hB2 : R1 P2 w B2 (ints y.roots)) (hz : hsize x ≤ 9223372036854775807) :
    Calls Try.prog 13 #[.agg #[.slice A x.cells.length c, .slice B x.roots.length d], .agg #[.slice A2 y.cells.length c2, .slice B2 y.roots.length d2]] w (Ret fun v w' => v = .bool (decide (x = y)) ∧ Grow w w') := by
 have hz1 := hsize_cells x
 have hz2 := hsize_roots x
 have hz3 : ∀ k (hk : k < x.cells.length), x.cells[k].refs.length ≤ 9223372036854775807 := fun k hk => Nat.le_trans (hsize_refs x hk) hz
 refine enter Try.func13 rfl Try.ntmps13 (L := [_,_,_,_,_,_,_,_,_,_,_,_,_,_,_,_,_]) rfl ?_
 have G := Mod.refl No w
 have hA0 := hA
 have hB0 := hB
 have hA20 := hA2
 have hB20 := hB2
 refine wp_seq_k fun K1 hK1 => ?_
 refine Sb 17 rfl ?_  -- 0
 refine S_box (cs := [_, _]) rfl rfl ?_
 intro b1 w1 fb1 g1 B1
 have lb1 := B1.lt
 replace hA := hA.grow g1
 replace hB := hB.grow g1
 replace hA2 := hA2.grow g1
 replace hB2 := hB2.grow g1
 replace G := G.grow g1
 have zg1 := g1.size
 refine S_box (cs := [_, _]) rfl rfl ?_
 intro b2 w2 fb2 g2 B2
 have lb2 := B2.lt
 replace hA := hA.grow g2
 replace hB := hB.grow g2
 replace hA2 := hA2.grow g2
 replace hB2 := hB2.grow g2
 replace G := G.grow g2
 replace B1 := B1.grow g2
 have zg2 := g2.size
 refine S_val (Y_assign rfl) ?_
 refine S_nl rfl rfl ?_
 refine th_n (hK1 _ _ ?_)
 clear hK1 K1
 refine wp_seq_k fun K2 hK2 => ?_
 refine wp_seq_k fun K3 hK3 => ?_
 refine Sb 17 rfl ?_  -- 1
 refine S_val (Y_field Try.underlying25 rfl fz25_0 (by decide) rfl) ?_
 refine S_val (Y_load Try.underlying23 rfl rfl (B1.at (by rfl))) ?_  -- l1
 refine S_val (Y_field Try.underlying25 rfl fz25_0 (by decide) rfl) ?_
 refine S_val (Y_load Try.underlying23 rfl rfl (B2.at (by rfl))) ?_  -- l2
 refine S_call rfl en50 (laws_eqCellS_c _ _ _ _ _ _ _ _ _ (by assumption) (by assumption) (by omega) (by assumption)) ?_  -- k1 laws.eqCellS
 rintro v3 w3 ⟨rfl, g3⟩
 replace hA := hA.grow g3
 replace hB := hB.grow g3
 replace hA2 := hA2.grow g3
 replace hB2 := hB2.grow g3
 replace G := G.grow g3
 replace B1 := B1.grow g3
 replace B2 := B2.grow g3
 have zg3 := g3.size
 refine S_val (Y_not rfl) ?_
 refine S_nl rfl rfl ?_
 refine th_n (hK3 _ _ ?_)
 clear hK3 K3
 refine S_if rfl (fun hb1 => ?_) (fun hb1 => ?_)  -- c1
 · -- c1T
  first | with_reducible (replace hb1 := nb_nt hb1) | with_reducible (replace hb1 := nb_tt hb1) | with_reducible (replace hb1 := nb_bt hb1) | skip
  refine wp_seq_k fun K4 hK4 => ?_
  refine Sb 17 rfl ?_  -- 2
  refine S_val (Y_assign rfl) ?_
  refine S_nl rfl rfl ?_
  refine th_n (hK4 _ _ ?_)
  clear hK4 K4
  refine wp_ret ?_
  refine th_r ?_
  clear hK2 K2
  refine ret_r1 rfl rfl ?_  -- r1
  exact ⟨bF (fun e => hb1 (by rw [e])), G⟩
 · -- c1F
  first | with_reducible (replace hb1 := nb_nf hb1) | with_reducible (replace hb1 := nb_tf hb1) | with_reducible (replace hb1 := nb_bf hb1) | skip
  refine wp_skip ?_
  refine th_n (hK2 _ _ ?_)
  clear hK2 K2
  refine wp_seq_k fun K5 hK5 => ?_
  refine wp_seq_k fun K6 hK6 => ?_
  refine Sb 17 rfl ?_  -- 3
  refine S_val (Y_field Try.underlying25 rfl fz25_1 (by decide) rfl) ?_
  refine S_val (Y_load Try.underlying22 rfl rfl (B1.at (by rfl))) ?_  -- l3
  refine S_val (Y_field Try.underlying25 rfl fz25_1 (by decide) rfl) ?_
  refine S_val (Y_load Try.underlying22 rfl rfl (B2.at (by rfl))) ?_  -- l4
  refine S_call rfl en14 (laws_eqIntS_c _ _ _ _ _ _ _ _ _ (by assumption) (by assumption) (by omega)) ?_  -- k2 laws.eqIntS
  rintro v4 w4 ⟨rfl, g4⟩
  replace hA := hA.grow g4
  replace hB := hB.grow g4
  replace hA2 := hA2.grow g4
  replace hB2 := hB2.grow g4
  replace G := G.grow g4
  replace B1 := B1.grow g4
  replace B2 := B2.grow g4
  have zg4 := g4.size
  refine S_val (Y_not rfl) ?_
  refine S_nl rfl rfl ?_
  refine th_n (hK6 _ _ ?_)
  clear hK6 K6
  refine S_if rfl (fun hb2 => ?_) (fun hb2 => ?_)  -- c2
  · -- c2T
   first | with_reducible (replace hb2 := nb_nt hb2) | with_reducible (replace hb2 := nb_tt hb2) | with_reducible (replace hb2 := nb_bt hb2) | skip
   refine wp_seq_k fun K7 hK7 => ?_
   refine Sb 17 rfl ?_  -- 4
   refine S_val (Y_assign rfl) ?_
   refine S_nl rfl rfl ?_
   refine th_n (hK7 _ _ ?_)
   clear hK7 K7
   refine wp_ret ?_
   refine th_r ?_
   clear hK5 K5
   refine ret_r1 rfl rfl ?_  -- r2
   exact ⟨bF (fun e => hb2 (by rw [e])), G⟩
  · -- c2F
   first | with_reducible (replace hb2 := nb_nf hb2) | with_reducible (replace hb2 := nb_tf hb2) | with_reducible (replace hb2 := nb_bf hb2) | skip
   refine wp_skip ?_
   refine th_n (hK5 _ _ ?_)
   clear hK5 K5
   refine wp_seq_k fun K8 hK8 => ?_
   refine Sb 17 rfl ?_  -- 5
   refine S_val (Y_assign rfl) ?_
   refine S_nl rfl rfl ?_
   refine th_n (hK8 _ _ ?_)
   clear hK8 K8
   refine wp_ret ?_
   refine ret_r1 rfl rfl ?_  -- r3
   exact ⟨bT (lh_ext hb1 hb2), G⟩

end Go.Proofs.Ytjmfdmndchoplaa
