/-
  Walks through functions of the program and the reference, and the plain laws behind them: what one claim needs of them.
  Conditions: those that each theorem states.
-/
import Derived.Test.YtikgflhepclfgacQa1
set_option linter.unusedVariables false
set_option linter.unusedSimpArgs false
namespace Go.Proofs.Ytikgflhepclfgac
/-! WalkC -/
section
open Go Go.RowKit
attribute [local irreducible] wpList wpAnyH Code.wp dOp
set_option maxHeartbeats 400000 in
set_option maxRecDepth 20000 in
theorem laws_toIntS_c (Pr : Nat → Prop) (A : Option Addr) (xs : List Int) (c : Nat) (w : World) (hA : R1 Pr w A (ints xs)) (hx : xs.length ≤ 1048576) :
    Calls Try.prog 57 #[.slice A xs.length c] w (Ret fun v w' => ∃ b, v = .slice (some ⟨b, 0, none⟩) xs.length xs.length ∧ w.heap.size ≤ b ∧ Blk w' b 3 (ints xs).toArray ∧ Grow w w') := by
 refine enter Try.func57 rfl Try.ntmps57 (L := [_,_,_,_,_,_,_,_,_,_,_,_,_,_,_,_,_,_,_,_,_,_]) rfl ?_
 have G := Mod.refl No w
 have hA0 := hA
 refine wp_seq_k fun K1 hK1 => ?_
 refine Sb 22 rfl ?_  -- 0
 refine S_val (Y_assign rfl) ?_
 refine S_nl rfl rfl ?_
 refine th_n (hK1 _ _ ?_)
 clear hK1 K1
 refine wp_seq_k fun K2 hK2 => ?_
 refine Sb 22 rfl ?_  -- 1
 refine S_val (Y_move rfl) ?_
 refine S_val (Y_len Try.underlying23 rfl) ?_
 refine S_make (z := [.int .i64 0]) Try.underlying23 zr3 sz3 by3 rfl rfl (by omega) (by omega) (by omega) ?_
 intro b1 w1 fb1 g1 B1
 have lb1 := B1.lt
 replace hA := hA.grow g1
 replace G := G.grow g1
 have zg1 := g1.size
 refine S_val (Y_assign rfl) ?_
 refine S_nl rfl rfl ?_
 refine th_n (hK2 _ _ ?_)
 clear hK2 K2
 refine wp_seq_k fun K3 hK3 => ?_
 refine wp_seq_k fun K4 hK4 => ?_
 refine Sb 22 rfl ?_  -- 2
 refine S_val (Y_assign rfl) ?_
 refine S_nl rfl rfl ?_
 refine th_n (hK4 _ _ ?_)
 clear hK4 K4
 refine wp_block ?_
 go_loopw [4] (fun u4 wr => (∃ k : Nat, u4 = .int .i64 k ∧ k ≤ xs.length ∧ Blk wr b1 3 (ints (xs.take k) ++ zeros [.int .i64 0] (xs.length - k)).toArray) ∧ Mod (fun i => i = b1) w1 wr) (fun u4 wr => xs.length - (intOf u4).toNat)  -- L1
 case atStart =>
  refine ⟨?_, Mod.refl _ _⟩
  exact ⟨0, rfl, by omega, by simpa [ints] using B1⟩
 case round =>
  obtain ⟨w2, rfl⟩ : ∃ x : World, x = wr := ⟨_, rfl⟩
  obtain ⟨hrel, g2⟩ := hrel
  clear B1
  replace G := G.abv g2
  replace hA := hA0.grow G
  have zg2 := g2.size
  obtain ⟨k, rfl, hk, B1⟩ := hrel
  have GL2 := g2
  refine wp_seq_k fun K5 hK5 => ?_
  refine wp_seq_k fun K6 hK6 => ?_
  refine Sb 22 rfl ?_  -- 3
  refine S_val (Y_move rfl) ?_
  refine S_val (Y_move rfl) ?_
  refine S_val (Y_len Try.underlying23 rfl) ?_
  refine S_val (Y_lss rfl rfl) ?_
  refine S_nl rfl rfl ?_
  refine th_n (hK6 _ _ ?_)
  clear hK6 K6
  refine S_if rfl (fun hb1 => ?_) (fun hb1 => ?_)  -- c1
  · -- c1T
   replace hb1 := nb_tt hb1
   have hk1 : k < xs.length := by omega
   obtain ⟨g1, o1, rfl, hp1, hc1⟩ := hA.int hk1
   rw [zeros_pos (by omega)] at B1
   refine wp_skip ?_
   refine th_n (hK5 _ _ ?_)
   clear hK5 K5
   refine wp_seq_k fun K7 hK7 => ?_
   refine wp_block ?_
   refine Sb 22 rfl ?_  -- 5
   refine S_val (Y_move rfl) ?_
   refine S_val (Y_move rfl) ?_
   refine S_val (Y_move rfl) ?_
   refine S_val (Y_move rfl) ?_
   refine S_val (Y_index Try.underlying23 sz3 rfl rfl (by first | assumption | omega)) ?_
   refine S_val (Y_load Try.underlying3 rfl rfl (by first | assumption | exact B1.at (by rfl))) ?_  -- l1
   refine S_val (Y_index Try.underlying23 sz3 rfl rfl (by first | assumption | omega)) ?_
   refine S_stM (pre := ints (xs.take k)) (old := [.int .i64 0]) (post := zeros [.int .i64 0] (xs.length - k - 1)) (vs := [_]) sz3 rfl rfl rfl rfl (by rw [List.append_assoc]; exact B1) (by simp [ints]; omega) rfl ?_
   intro w3 m3 X3
   replace B1 := Blk.eq X3 (ints_snoc hk1)
   clear X3
   replace G := G.abv m3
   replace GL2 := GL2.trn m3
   replace hA := hA0.grow G
   have zm3 := m3.size
   refine S_nl rfl rfl ?_
   refine ib_n ?_
   refine th_n (hK7 _ _ ?_)
   clear hK7 K7
   refine Sb 22 rfl ?_  -- 4
   refine S_val (Y_move rfl) ?_
   refine S_val (Y_inc rfl rfl (by omega)) ?_
   refine S_val (Y_assign rfl) ?_
   refine S_nl rfl rfl ?_
   refine th_n ?_
   go_roundw  -- e1 of L1
   case rel =>
    refine ⟨?_, GL2⟩
    exact ⟨k + 1, rfl, by omega, B1⟩
   case measure =>
    exact dec_nat (by omega)
  · -- c1F
   replace hb1 := nb_tf hb1
   refine wp_exit ?_
   refine th_x ?_
   try clear GL2
   refine th_x ?_
   refine ib_e ?_
   refine th_n (hK3 _ _ ?_)
   clear hK5 K5 hK3 K3
   refine wp_seq_k fun K8 hK8 => ?_
   refine Sb 22 rfl ?_  -- 6
   refine S_val (Y_move rfl) ?_
   refine S_val (Y_assign rfl) ?_
   refine S_nl rfl rfl ?_
   refine th_n (hK8 _ _ ?_)
   clear hK8 K8
   refine wp_ret ?_
   refine ret_r1 rfl rfl ?_  -- r1
   have : k = xs.length := by omega
   subst this
   exact ⟨b1, rfl, fb1, Blk.eq B1 (by simp [zeros]), G⟩
set_option maxHeartbeats 400000 in
set_option maxRecDepth 20000 in
theorem laws_toCell_c (Pr : Nat → Prop) (x : LC) (A : Option Addr) (c : Nat) (w : World) (hA : R1 Pr w A (ints x.refs)) (hx : x.refs.length ≤ 1048576) :
    Calls Try.prog 102 #[.agg #[.bool x.used, .int .i64 x.data, .slice A x.refs.length c]] w (Ret fun v w' => ∃ b, v = .agg #[.bool x.used, .int .i64 x.data, .slice (some ⟨b, 0, none⟩) x.refs.length x.refs.length] ∧ w.heap.size ≤ b ∧ Blk w' b 3 (ints x.refs).toArray ∧ Grow w w') := by
 refine enter Try.func102 rfl Try.ntmps102 (L := [_,_,_,_,_,_,_,_,_,_,_,_,_,_,_]) rfl ?_
 have G := Mod.refl No w
 have hA0 := hA
 refine wp_seq_k fun K1 hK1 => ?_
 refine Sb 15 rfl ?_  -- 0
 refine S_box (cs := [_, _, _]) rfl rfl ?_
 intro b1 w1 fb1 g1 B1
 have lb1 := B1.lt
 replace hA := hA.grow g1
 replace G := G.grow g1
 have zg1 := g1.size
 refine S_alloc (cs := [_, _, _]) zr63 rfl ?_
 intro b2 w2 fb2 g2 B2
 have lb2 := B2.lt
 replace hA := hA.grow g2
 replace G := G.grow g2
 replace B1 := B1.grow g2
 have zg2 := g2.size
 refine S_nl rfl rfl ?_
 refine th_n (hK1 _ _ ?_)
 clear hK1 K1
 refine wp_seq_k fun K2 hK2 => ?_
 refine Sb 15 rfl ?_  -- 1
 refine S_alloc (cs := [_, _, _]) zr63 rfl ?_
 intro b3 w3 fb3 g3 B3
 have lb3 := B3.lt
 replace hA := hA.grow g3
 replace G := G.grow g3
 replace B1 := B1.grow g3
 replace B2 := B2.grow g3
 have zg3 := g3.size
 refine S_nl rfl rfl ?_
 refine th_n (hK2 _ _ ?_)
 clear hK2 K2
 refine wp_seq_k fun K3 hK3 => ?_
 refine Sb 15 rfl ?_  -- 2
 refine S_val (Y_field Try.underlying113 rfl fz113_0 (by decide) rfl) ?_
 refine S_val (Y_load Try.underlying4 rfl rfl (B1.at (by rfl))) ?_  -- l1
 refine S_val (Y_field Try.underlying63 rfl fz63_0 (by decide) rfl) ?_
 refine S_stM (pre := []) (old := [_]) (post := [_, _]) (vs := [_]) sz4 rfl rfl rfl (by first | rfl | assumption) B3 rfl rfl ?_
 intro w4 m4 X4
 replace B3 := Blk.eq (ys := [_, _, _]) X4 rfl
 clear X4
 replace G := G.abv m4
 replace hA := hA0.grow G
 replace B1 := B1.md m4
 replace B2 := B2.md m4
 have zm4 := m4.size
 refine S_nl rfl rfl ?_
 refine th_n (hK3 _ _ ?_)
 clear hK3 K3
 refine wp_seq_k fun K4 hK4 => ?_
 refine Sb 15 rfl ?_  -- 3
 refine S_val (Y_field Try.underlying113 rfl fz113_1 (by decide) rfl) ?_
 refine S_val (Y_load Try.underlying3 rfl rfl (B1.at (by rfl))) ?_  -- l2
 refine S_val (Y_field Try.underlying63 rfl fz63_1 (by decide) rfl) ?_
 refine S_stM (pre := [_]) (old := [_]) (post := [_]) (vs := [_]) sz3 rfl rfl rfl (by first | rfl | assumption) B3 rfl rfl ?_
 intro w5 m5 X5
 replace B3 := Blk.eq (ys := [_, _, _]) X5 rfl
 clear X5
 replace G := G.abv m5
 replace hA := hA0.grow G
 replace B1 := B1.md m5
 replace B2 := B2.md m5
 have zm5 := m5.size
 refine S_nl rfl rfl ?_
 refine th_n (hK4 _ _ ?_)
 clear hK4 K4
 refine wp_seq_k fun K5 hK5 => ?_
 refine Sb 15 rfl ?_  -- 4
 refine S_val (Y_field Try.underlying113 rfl fz113_2 (by decide) rfl) ?_
 refine S_val (Y_load Try.underlying23 rfl rfl (B1.at (by rfl))) ?_  -- l3
 refine S_call rfl en57 (laws_toIntS_c _ _ _ _ _ (by assumption) (by omega)) ?_  -- k1 laws.toIntS
 rintro v6 w6 ⟨b6, rfl, fb6, B6, g6⟩
 replace hA := hA.grow g6
 replace G := G.grow g6
 replace B1 := B1.grow g6
 replace B2 := B2.grow g6
 replace B3 := B3.grow g6
 have zg6 := g6.size
 have lb6 := B6.lt
 refine S_val (Y_field Try.underlying63 rfl fz63_2 (by decide) rfl) ?_
 refine S_stM (pre := [_, _]) (old := [_]) (post := []) (vs := [_]) sz23 rfl rfl rfl (by first | rfl | assumption) B3 rfl rfl ?_
 intro w7 m7 X7
 replace B3 := Blk.eq (ys := [_, _, _]) X7 rfl
 clear X7
 replace G := G.abv m7
 replace hA := hA0.grow G
 replace B1 := B1.md m7
 replace B2 := B2.md m7
 replace B6 := B6.md m7
 have zm7 := m7.size
 refine S_nl rfl rfl ?_
 refine th_n (hK5 _ _ ?_)
 clear hK5 K5
 refine wp_seq_k fun K6 hK6 => ?_
 refine Sb 15 rfl ?_  -- 5
 refine S_val (Y_loadS Try.underlying63 rfl sz63 rfl (B3.row (by rfl))) ?_  -- l4
 refine S_stM (pre := []) (old := [_, _, _]) (post := []) (vs := [_, _, _]) sz63 rfl rfl rfl (by first | rfl | assumption) B2 rfl rfl ?_
 intro w8 m8 X8
 replace B2 := Blk.eq (ys := [_, _, _]) X8 rfl
 clear X8
 replace G := G.abv m8
 replace hA := hA0.grow G
 replace B1 := B1.md m8
 replace B3 := B3.md m8
 replace B6 := B6.md m8
 have zm8 := m8.size
 refine S_nl rfl rfl ?_
 refine th_n (hK6 _ _ ?_)
 clear hK6 K6
 refine wp_ret ?_
 refine ret_rc (cs := [_, _, _]) Try.underlying63 rfl sz63 rfl rfl (B2.row (by rfl)) ?_  -- r1
 exact ⟨_, rfl, by omega, by assumption, G⟩
set_option maxHeartbeats 400000 in
set_option maxRecDepth 20000 in
theorem laws_toCellS_c (Pr : Nat → Prop) (A : Option Addr) (xs : List LC) (c : Nat) (w : World) (hA : RC Pr w A xs) (hx : xs.length ≤ 1048576) (hr : ∀ k (h : k < xs.length), xs[k].refs.length ≤ 1048576) :
    Calls Try.prog 56 #[.slice A xs.length c] w (Ret fun v w' => ∃ b rs, v = .slice (some ⟨b, 0, none⟩) xs.length xs.length ∧ OC (fun k => w.heap.size ≤ k) w' 63 3 (some ⟨b, 0, none⟩) xs rs ∧ Grow w w') := by
 refine enter Try.func56 rfl Try.ntmps56 (L := [_,_,_,_,_,_,_,_,_,_,_,_,_,_,_,_,_,_,_,_,_,_,_]) rfl ?_
 have G := Mod.refl No w
 have hA0 := hA
 refine wp_seq_k fun K1 hK1 => ?_
 refine Sb 23 rfl ?_  -- 0
 refine S_val (Y_assign rfl) ?_
 refine S_nl rfl rfl ?_
 refine th_n (hK1 _ _ ?_)
 clear hK1 K1
 refine wp_seq_k fun K2 hK2 => ?_
 refine Sb 23 rfl ?_  -- 1
 refine S_val (Y_move rfl) ?_
 refine S_val (Y_len Try.underlying22 rfl) ?_
 refine S_make (z := [.bool false, .int .i64 0, .slice none 0 0]) Try.underlying30 zr63 sz63 by63 rfl rfl (by omega) (by omega) (by omega) ?_
 intro b1 w1 fb1 g1 B1
 have lb1 := B1.lt
 replace hA := hA.grow g1
 replace G := G.grow g1
 have zg1 := g1.size
 refine S_val (Y_assign rfl) ?_
 refine S_nl rfl rfl ?_
 refine th_n (hK2 _ _ ?_)
 clear hK2 K2
 refine wp_seq_k fun K3 hK3 => ?_
 refine wp_seq_k fun K4 hK4 => ?_
 refine Sb 23 rfl ?_  -- 2
 refine S_val (Y_assign rfl) ?_
 refine S_nl rfl rfl ?_
 refine th_n (hK4 _ _ ?_)
 clear hK4 K4
 refine wp_block ?_
 go_loopw [4] (fun u4 wr => (∃ (k : Nat) (rs : List (Option Addr × Nat)), u4 = .int .i64 k ∧ k ≤ xs.length ∧ Blk wr b1 63 (flatC (xs.take k) rs ++ zeros [.bool false, .int .i64 0, .slice none 0 0] (xs.length - k)).toArray ∧ ORs (fun i => b1 < i) wr 3 (xs.take k) rs) ∧ Mod (fun i => i = b1) w1 wr) (fun u4 wr => xs.length - (intOf u4).toNat)  -- L1
 case atStart =>
  refine ⟨?_, Mod.refl _ _⟩
  exact ⟨0, [], rfl, by omega, by simpa [flatC] using B1, ORs.nil _ _ _⟩
 case round =>
  obtain ⟨w2, rfl⟩ : ∃ x : World, x = wr := ⟨_, rfl⟩
  obtain ⟨hrel, g2⟩ := hrel
  clear B1
  replace G := G.abv g2
  replace hA := hA0.grow G
  have zg2 := g2.size
  obtain ⟨k, rs, rfl, hk, B1, O1⟩ := hrel
  replace O1 := O1.lt
  have lb1b := B1.lt
  have GL2 := g2
  refine wp_seq_k fun K5 hK5 => ?_
  refine wp_seq_k fun K6 hK6 => ?_
  refine Sb 23 rfl ?_  -- 3
  refine S_val (Y_move rfl) ?_
  refine S_val (Y_move rfl) ?_
  refine S_val (Y_len Try.underlying22 rfl) ?_
  refine S_val (Y_lss rfl rfl) ?_
  refine S_nl rfl rfl ?_
  refine th_n (hK6 _ _ ?_)
  clear hK6 K6
  refine S_if rfl (fun hb1 => ?_) (fun hb1 => ?_)  -- c1
  · -- c1T
   replace hb1 := nb_tt hb1
   have hk1 : k < xs.length := by omega
   obtain ⟨g1, o1, E1, e1, rfl, hp1, cc10, hE10⟩ := hA0.cell hk1
   have cc1 := cc10.grow G
   have hE1 := hE10.grow G
   have hr1 := hr k hk1
   rw [zeros_pos (by omega)] at B1
   refine wp_skip ?_
   refine th_n (hK5 _ _ ?_)
   clear hK5 K5
   refine wp_seq_k fun K7 hK7 => ?_
   refine wp_block ?_
   refine Sb 23 rfl ?_  -- 5
   refine S_val (Y_move rfl) ?_
   refine S_val (Y_move rfl) ?_
   refine S_val (Y_move rfl) ?_
   refine S_val (Y_move rfl) ?_
   refine S_val (Y_index Try.underlying22 sz113 rfl rfl (by first | assumption | omega)) ?_
   refine S_val (Y_loadS Try.underlying113 rfl sz113 rfl (by first | assumption | exact B1.row (by rfl))) ?_  -- l1
   refine S_call rfl en102 (laws_toCell_c _ _ _ _ _ (by assumption) (by omega)) ?_  -- k1 laws.toCell
   rintro v3 w3 ⟨b3, rfl, fb3, B3, g3⟩
   replace hA := hA.grow g3
   replace cc1 := cc1.grow g3
   replace hE1 := hE1.grow g3
   replace O1 := O1.grow g3
   replace G := G.grow g3
   replace GL2 := GL2.grow g3
   replace B1 := B1.grow g3
   have zg3 := g3.size
   have lb3 := B3.lt
   refine S_val (Y_index Try.underlying30 sz63 rfl rfl (by first | assumption | omega)) ?_
   refine S_stM (pre := flatC (xs.take k) rs) (old := [.bool false, .int .i64 0, .slice none 0 0]) (post := zeros [.bool false, .int .i64 0, .slice none 0 0] (xs.length - k - 1)) (vs := [_, _, _]) sz63 rfl rfl rfl rfl (by rw [List.append_assoc]; exact B1) (by rw [O1.flat, List.length_take]; omega) rfl ?_
   intro w4 m4 X4
   replace B1 := Blk.eq X4 (flatC_snoc O1.len hk1)
   clear X4
   replace G := G.abv m4
   replace GL2 := GL2.trn m4
   replace hA := hA0.grow G
   replace cc1 := cc10.grow G
   replace hE1 := hE10.grow G
   replace O1 := O1.md m4
   replace B3 := B3.md m4
   have zm4 := m4.size
   refine S_nl rfl rfl ?_
   refine ib_n ?_
   refine th_n (hK7 _ _ ?_)
   clear hK7 K7
   refine Sb 23 rfl ?_  -- 4
   refine S_val (Y_move rfl) ?_
   refine S_val (Y_inc rfl rfl (by omega)) ?_
   refine S_val (Y_assign rfl) ?_
   refine S_nl rfl rfl ?_
   refine th_n ?_
   go_roundw  -- e1 of L1
   case rel =>
    refine ⟨?_, GL2⟩
    refine ⟨k + 1, _, rfl, by omega, B1, ?_⟩
    rw [List.take_succ_eq_append_getElem hk1]
    exact O1.snoc (OI.of_blk' B3 (by omega)) (fun i hi => hi.1) (fun i b hi e => by simp only [Option.some.injEq, Addr.mk.injEq, and_true] at e; omega)
   case measure =>
    exact dec_nat (by omega)
  · -- c1F
   replace hb1 := nb_tf hb1
   refine wp_exit ?_
   refine th_x ?_
   try clear GL2
   refine th_x ?_
   refine ib_e ?_
   refine th_n (hK3 _ _ ?_)
   clear hK5 K5 hK3 K3
   refine wp_seq_k fun K8 hK8 => ?_
   refine Sb 23 rfl ?_  -- 6
   refine S_val (Y_move rfl) ?_
   refine S_val (Y_assign rfl) ?_
   refine S_nl rfl rfl ?_
   refine th_n (hK8 _ _ ?_)
   clear hK8 K8
   refine wp_ret ?_
   refine ret_r1 rfl rfl ?_  -- r1
   have : k = xs.length := by omega
   subst this
   rw [List.take_length] at O1 B1
   exact ⟨b1, rs, rfl, ⟨O1.weak (fun i hi => by omega), fun _ => ⟨b1, _, rfl, fb1, B1⟩⟩, G⟩
set_option maxHeartbeats 400000 in
set_option maxRecDepth 20000 in
theorem laws_toHeap_c (Pr : Nat → Prop) (A B : Option Addr) (h : LH) (c d : Nat) (w : World) (hA : RC Pr w A h.cells) (hB : R1 Pr w B (ints h.roots)) (hz : hsize h ≤ 1048576) :
    Calls Try.prog 13 #[.agg #[.slice A h.cells.length c, .slice B h.roots.length d]] w (Ret fun v w' => ∃ a b rs, v = .agg #[.slice (some ⟨a, 0, none⟩) h.cells.length h.cells.length, .slice (some ⟨b, 0, none⟩) h.roots.length h.roots.length] ∧ OH (fun k => w.heap.size ≤ k) w' 63 3 (some ⟨a, 0, none⟩) (some ⟨b, 0, none⟩) h rs ∧ Grow w w') := by
 have hz1 := hsize_cells h
 have hz2 := hsize_roots h
 have hz3 : ∀ k (hk : k < h.cells.length), h.cells[k].refs.length ≤ 1048576 := fun k hk => Nat.le_trans (hsize_refs h hk) hz
 refine enter Try.func13 rfl Try.ntmps13 (L := [_,_,_,_,_,_,_,_,_,_,_,_,_]) rfl ?_
 have G := Mod.refl No w
 have hA0 := hA
 have hB0 := hB
 refine wp_seq_k fun K1 hK1 => ?_
 refine Sb 13 rfl ?_  -- 0
 refine S_box (cs := [_, _]) rfl rfl ?_
 intro b1 w1 fb1 g1 B1
 have lb1 := B1.lt
 replace hA := hA.grow g1
 replace hB := hB.grow g1
 replace G := G.grow g1
 have zg1 := g1.size
 refine S_alloc (cs := [_, _]) zr32 rfl ?_
 intro b2 w2 fb2 g2 B2
 have lb2 := B2.lt
 replace hA := hA.grow g2
 replace hB := hB.grow g2
 replace G := G.grow g2
 replace B1 := B1.grow g2
 have zg2 := g2.size
 refine S_nl rfl rfl ?_
 refine th_n (hK1 _ _ ?_)
 clear hK1 K1
 refine wp_seq_k fun K2 hK2 => ?_
 refine Sb 13 rfl ?_  -- 1
 refine S_alloc (cs := [_, _]) zr32 rfl ?_
 intro b3 w3 fb3 g3 B3
 have lb3 := B3.lt
 replace hA := hA.grow g3
 replace hB := hB.grow g3
 replace G := G.grow g3
 replace B1 := B1.grow g3
 replace B2 := B2.grow g3
 have zg3 := g3.size
 refine S_nl rfl rfl ?_
 refine th_n (hK2 _ _ ?_)
 clear hK2 K2
 refine wp_seq_k fun K3 hK3 => ?_
 refine Sb 13 rfl ?_  -- 2
 refine S_val (Y_field Try.underlying25 rfl fz25_0 (by decide) rfl) ?_
 refine S_val (Y_load Try.underlying22 rfl rfl (B1.at (by rfl))) ?_  -- l1
 refine S_call rfl en56 (laws_toCellS_c _ _ _ _ _ (by assumption) (by omega) (by assumption)) ?_  -- k1 laws.toCellS
 rintro v4 w4 ⟨b4, rs4, rfl, O4, g4⟩
 replace hA := hA.grow g4
 replace hB := hB.grow g4
 replace G := G.grow g4
 replace B1 := B1.grow g4
 replace B2 := B2.grow g4
 replace B3 := B3.grow g4
 have zg4 := g4.size
 replace O4 := O4.lt
 refine S_val (Y_field Try.underlying32 rfl fz32_0 (by decide) rfl) ?_
 refine S_stM (pre := []) (old := [_]) (post := [_]) (vs := [_]) sz30 rfl rfl rfl (by first | rfl | assumption) B3 rfl rfl ?_
 intro w5 m5 X5
 replace B3 := Blk.eq (ys := [_, _]) X5 rfl
 clear X5
 replace G := G.abv m5
 replace hA := hA0.grow G
 replace hB := hB0.grow G
 replace O4 := O4.md m5
 replace B1 := B1.md m5
 replace B2 := B2.md m5
 have zm5 := m5.size
 refine S_nl rfl rfl ?_
 refine th_n (hK3 _ _ ?_)
 clear hK3 K3
 refine wp_seq_k fun K4 hK4 => ?_
 refine Sb 13 rfl ?_  -- 3
 refine S_val (Y_field Try.underlying25 rfl fz25_1 (by decide) rfl) ?_
 refine S_val (Y_load Try.underlying23 rfl rfl (B1.at (by rfl))) ?_  -- l2
 refine S_call rfl en57 (laws_toIntS_c _ _ _ _ _ (by assumption) (by omega)) ?_  -- k2 laws.toIntS
 rintro v6 w6 ⟨b6, rfl, fb6, B6, g6⟩
 replace hA := hA.grow g6
 replace hB := hB.grow g6
 replace O4 := O4.grow g6
 replace G := G.grow g6
 replace B1 := B1.grow g6
 replace B2 := B2.grow g6
 replace B3 := B3.grow g6
 have zg6 := g6.size
 have lb6 := B6.lt
 refine S_val (Y_field Try.underlying32 rfl fz32_1 (by decide) rfl) ?_
 refine S_stM (pre := [_]) (old := [_]) (post := []) (vs := [_]) sz23 rfl rfl rfl (by first | rfl | assumption) B3 rfl rfl ?_
 intro w7 m7 X7
 replace B3 := Blk.eq (ys := [_, _]) X7 rfl
 clear X7
 replace G := G.abv m7
 replace hA := hA0.grow G
 replace hB := hB0.grow G
 replace O4 := O4.md m7
 replace B1 := B1.md m7
 replace B2 := B2.md m7
 replace B6 := B6.md m7
 have zm7 := m7.size
 refine S_nl rfl rfl ?_
 refine th_n (hK4 _ _ ?_)
 clear hK4 K4
 refine wp_seq_k fun K5 hK5 => ?_
 refine Sb 13 rfl ?_  -- 4
 refine S_val (Y_loadS Try.underlying32 rfl sz32 rfl (B3.row (by rfl))) ?_  -- l3
 refine S_stM (pre := []) (old := [_, _]) (post := []) (vs := [_, _]) sz32 rfl rfl rfl (by first | rfl | assumption) B2 rfl rfl ?_
 intro w8 m8 X8
 replace B2 := Blk.eq (ys := [_, _]) X8 rfl
 clear X8
 replace G := G.abv m8
 replace hA := hA0.grow G
 replace hB := hB0.grow G
 replace O4 := O4.md m8
 replace B1 := B1.md m8
 replace B3 := B3.md m8
 replace B6 := B6.md m8
 have zm8 := m8.size
 refine S_nl rfl rfl ?_
 refine th_n (hK5 _ _ ?_)
 clear hK5 K5
 refine wp_ret ?_
 refine ret_rc (cs := [_, _]) Try.underlying32 rfl sz32 rfl rfl (B2.row (by rfl)) ?_  -- r1
 exact ⟨_, _, _, rfl, OH.of_parts O4 (OI.of_blk' (Pr := fun k => k = b6) B6 rfl) (fun k b h1 h2 h3 => by omega) (fun k hk => by omega) (fun k hk => by omega), G⟩
end
/-! WalkE -/
section
open Go Go.RowKit
attribute [local irreducible] wpList wpAnyH Code.wp dOp
/-- r is in the set m. -/
def hasB (m : Nat) (r : Int) : Bool := decide (0 ≤ r) && m.testBit r.toNat
theorem hasB_nat (m n : Nat) : hasB m (n : Int) = m.testBit n := by simp [hasB]
theorem hasB_neg {m : Nat} {r : Int} (h : ¬ 0 ≤ r) : hasB m r = false := by simp [hasB, h]
theorem has_and (m n : Nat) : Value.bool (decide (((m >>> n &&& 1 : Nat) : Int) = 1)) = .bool (hasB m (n : Int)) := by
  rw [hasB_nat, shr_bit]
  cases m.testBit n <;> rfl
theorem shr_lt {m : Nat} (n : Nat) (h : m < 2 ^ 64) : m >>> n < 2 ^ 64 := Nat.lt_of_le_of_lt (Nat.shiftRight_le m n) h
def listB (m n : Nat) : List Bool := (List.range n).map m.testBit
theorem listB_len (m n : Nat) : (listB m n).length = n := by simp [listB]
theorem listB_snoc {m n k : Nat} (h : k < n) {z : List Value} : bools ((listB m n).take k) ++ [.bool (hasB m (k : Int))] ++ zeros z (n - k - 1) = bools ((listB m n).take (k + 1)) ++ zeros z (n - (k + 1)) := by
  have hk : k < (listB m n).length := by rw [listB_len]; exact h
  rw [List.take_succ_eq_append_getElem hk, hasB_nat, Nat.sub_sub]
  simp [bools, listB]
/-- The set of the places that say yes. -/
def SetOf (m : Nat) (bs : List Bool) : Prop := m < 2 ^ 64 ∧ ∀ i, m.testBit i = (bs[i]? == some true)
theorem SetOf.zero : SetOf 0 [] := ⟨by decide, fun i => by simp⟩
theorem take_get {α : Type} {bs : List α} {k : Nat} (h : k < bs.length) (i : Nat) : (bs.take (k + 1))[i]? = if i = k then some bs[k] else (bs.take k)[i]? := by
  rw [List.getElem?_take, List.getElem?_take]
  by_cases hi : i = k
  · subst hi
    simp [h]
  · by_cases h1 : i < k
    · simp [h1, hi, (by omega : i < k + 1)]
    · simp [h1, hi]
      intro hh
      omega
theorem SetOf.yes {m k : Nat} {bs : List Bool} (h : SetOf m (bs.take k)) (hk : k < bs.length) (h6 : k < 64) (hb : bs[k] = true) : SetOf (addN m k) (bs.take (k + 1)) :=
  ⟨addN_lt h.1 h6, fun i => by
    rw [addN_bit, h.2, take_get hk]
    by_cases hi : i = k
    · subst hi; simp [hb]
    · simp [hi, Ne.symm hi]⟩
theorem SetOf.no {m k : Nat} {bs : List Bool} (h : SetOf m (bs.take k)) (hk : k < bs.length) (hb : bs[k] = false) : SetOf m (bs.take (k + 1)) :=
  ⟨h.1, fun i => by
    rw [h.2, take_get hk]
    by_cases hi : i = k
    · subst hi; simp [hb, List.getElem?_take]
    · simp [hi]⟩
theorem SetOf.whole {m k : Nat} {bs : List Bool} (h : SetOf m (bs.take k)) (hk : bs.length ≤ k) : SetOf m bs := by rwa [List.take_of_length_le hk] at h
theorem R1.of_blk0 {w : World} {b : Nat} {e : TypeId} {us : List Value} (h : Blk w b e us.toArray) : R1 (fun _ => True) w (some ⟨b, 0, none⟩) us := R1.of_blk (post := []) (by simpa using h) trivial
def usedL (cs : List LC) : List Bool := cs.map (·.used)
set_option maxHeartbeats 400000 in
set_option maxRecDepth 20000 in
theorem impl_cellSet_has_c (m : Nat) (r : Int) (w : World) (hm : m < 2 ^ 64) :
    Calls Try.prog 58 #[.int .u64 (m : Int), .int .i64 r] w (Ret fun v w' => v = .bool (hasB m r) ∧ w' = w) := by
 refine enter Try.func58 rfl Try.ntmps58 (L := [_,_,_,_,_,_,_,_,_,_,_,_,_,_]) rfl ?_
 have G := Mod.refl No w
 refine wp_seq_k fun K1 hK1 => ?_
 refine Sb 14 rfl ?_  -- 0
 refine S_val (Y_assign rfl) ?_
 refine S_nl rfl rfl ?_
 refine th_n (hK1 _ _ ?_)
 clear hK1 K1
 refine wp_seq_k fun K2 hK2 => ?_
 refine Sb 14 rfl ?_  -- 1
 refine S_val (Y_move rfl) ?_
 refine S_val (Y_geq rfl rfl) ?_
 refine S_val (Y_move rfl) ?_
 refine S_g 7 rfl (fun hb1 => ?_) (fun hb1 => ?_)  -- g1
 · -- g1T
  replace hb1 := nb_tt hb1
  obtain ⟨n, rfl⟩ := Int.eq_ofNat_of_zero_le hb1
  refine S_on rfl rfl ?_
  refine S_val (Y_move rfl) ?_
  refine S_on rfl rfl ?_
  refine S_val (Y_move rfl) ?_
  refine S_on rfl rfl ?_
  refine S_val (Y_shr rfl rfl hm) ?_
  refine S_on rfl rfl ?_
  refine S_val (Y_and (b := 1) rfl rfl (shr_lt _ hm) (by decide)) ?_
  refine S_on rfl rfl ?_
  refine S_val (Y_eql rfl rfl) ?_
  refine S_val (Y_pickT rfl rfl) ?_
  refine S_val (Y_assign rfl) ?_
  refine S_nl rfl rfl ?_
  refine th_n (hK2 _ _ ?_)
  clear hK2 K2
  refine wp_ret ?_
  refine ret_r1 rfl rfl ?_  -- r1
  exact ⟨has_and m n, rfl⟩
 · -- g1F
  replace hb1 := nb_tf hb1
  refine S_off rfl rfl ?_
  refine S_off rfl rfl ?_
  refine S_off rfl rfl ?_
  refine S_off rfl rfl ?_
  refine S_off rfl rfl ?_
  refine S_val (Y_pickF rfl rfl) ?_
  refine S_val (Y_assign rfl) ?_
  refine S_nl rfl rfl ?_
  refine th_n (hK2 _ _ ?_)
  clear hK2 K2
  refine wp_ret ?_
  refine ret_r1 rfl rfl ?_  -- r2
  exact ⟨by rw [hasB_neg hb1], rfl⟩
set_option maxHeartbeats 400000 in
set_option maxRecDepth 20000 in
theorem impl_cellSet_add_c (m n : Nat) (b1 : Nat) (w : World) (B1 : Blk w b1 78 [.int .u64 (m : Int)].toArray) (hm : m < 2 ^ 64) (hn : n < 64) :
    Calls Try.prog 59 #[.pointer (some ⟨b1, 0, none⟩), .int .i64 (n : Int)] w (Ret fun _v w' => Blk w' b1 78 [.int .u64 ((addN m n : Nat) : Int)].toArray ∧ Mod (fun i => i = b1) w w') := by
 have hn2 : 1 * 2 ^ n < 2 ^ 64 := by rw [Nat.one_mul]; exact Nat.pow_lt_pow_right (by decide) hn
 refine enter Try.func59 rfl Try.ntmps59 (L := [_,_,_,_,_,_,_,_,_,_,_]) rfl ?_
 have G := Mod.refl (fun i => i = b1) w
 refine D_start 8 11 (fun w => Mod (fun i => i = b1) w) follows rfl rfl ?_  -- d1 r0
 intro w1 g1
 replace G := G.grow g1
 replace B1 := B1.grow g1
 have zg1 := g1.size
 have GS1 := Mod.refl (fun i => i = b1) w1
 refine Dq (i := 0) rfl GS1 (fun _ _ => Y_move rfl) ?_
 refine Dq (i := 1) rfl GS1 (fun _ _ => Y_nil rfl) ?_
 refine Dq (i := 3) rfl GS1 (fun _ _ => Y_move rfl) ?_
 refine Dq (i := 4) rfl GS1 (fun _ _ => Y_shl (a := 1) rfl rfl hn2 hn) ?_
 refine D_1 (i := 2) (by kernel_rfl) ?_
 refine E_val (i := 2) rfl (Y_load Try.underlying78 rfl rfl (B1.at (by rfl))) GS1 ?_
 refine Dq (i := 5) rfl GS1 (fun _ _ => Y_or rfl rfl hm hn2) ?_
 refine Dq (i := 6) rfl GS1 (fun _ _ => Y_nil rfl) ?_
 refine D_1 (i := 7) (by kernel_rfl) ?_
 refine E_stM (pre := []) (old := [_]) (post := []) (vs := [_]) (i := 7) rfl sz78 rfl rfl rfl (by first | rfl | assumption) B1 rfl rfl ?_
 intro w3 m3 X3
 replace B1 := Blk.eq (ys := [_]) X3 rfl
 clear X3
 replace G := G.trans m3
 replace GS1 := GS1.trn m3
 have zm3 := m3.size
 refine ⟨GS1, ?_⟩
 refine D_en (by kernel_rfl) rfl rfl ?_
 refine ret_n0 rfl ?_  -- r1
 exact ⟨Blk.eq B1 (by simp [addN]), G⟩
set_option maxHeartbeats 400000 in
set_option maxRecDepth 20000 in
theorem impl_cellSet_list_c (m n : Nat) (w : World) (hm : m < 2 ^ 64) (hn : n ≤ 1048576) :
    Calls Try.prog 62 #[.int .u64 (m : Int), .int .i64 (n : Int)] w (Ret fun v w' => ∃ b, v = .slice (some ⟨b, 0, none⟩) n n ∧ w.heap.size ≤ b ∧ Blk w' b 4 (bools (listB m n)).toArray ∧ Grow w w') := by
 refine enter Try.func62 rfl Try.ntmps62 (L := [_,_,_,_,_,_,_,_,_,_,_,_,_,_,_,_,_,_,_,_,_,_]) rfl ?_
 have G := Mod.refl No w
 refine wp_seq_k fun K1 hK1 => ?_
 refine Sb 22 rfl ?_  -- 0
 refine S_val (Y_assign rfl) ?_
 refine S_nl rfl rfl ?_
 refine th_n (hK1 _ _ ?_)
 clear hK1 K1
 refine wp_seq_k fun K2 hK2 => ?_
 refine Sb 22 rfl ?_  -- 1
 refine S_val (Y_move rfl) ?_
 refine S_make (z := [.bool false]) Try.underlying27 zr4 sz4 by4 rfl rfl (by omega) (by omega) (by omega) ?_
 intro b1 w1 fb1 g1 B1
 have lb1 := B1.lt
 replace G := G.grow g1
 have zg1 := g1.size
 refine S_val (Y_assign rfl) ?_
 refine S_nl rfl rfl ?_
 refine th_n (hK2 _ _ ?_)
 clear hK2 K2
 refine wp_seq_k fun K3 hK3 => ?_
 refine wp_seq_k fun K4 hK4 => ?_
 refine Sb 22 rfl ?_  -- 2
 refine S_val (Y_move rfl) ?_
 refine S_val (Y_len Try.underlying27 rfl) ?_
 refine S_val (Y_move rfl) ?_
 refine S_nl rfl rfl ?_
 refine th_n (hK4 _ _ ?_)
 clear hK4 K4
 refine wp_block ?_
 go_loopw [11] (fun u11 wr => (∃ k : Nat, u11 = .int .i64 k ∧ k ≤ n ∧ Blk wr b1 4 (bools ((listB m n).take k) ++ zeros [.bool false] (n - k)).toArray) ∧ Mod (fun i => i = b1) w1 wr) (fun u11 wr => n - (intOf u11).toNat)  -- L1
 case atStart =>
  refine ⟨?_, Mod.refl _ _⟩
  exact ⟨0, rfl, by omega, by simpa [bools] using B1⟩
 case round =>
  obtain ⟨w2, rfl⟩ : ∃ x : World, x = wr := ⟨_, rfl⟩
  obtain ⟨hrel, g2⟩ := hrel
  clear B1
  replace G := G.abv g2
  have zg2 := g2.size
  obtain ⟨k, rfl, hk, B1⟩ := hrel
  have GL2 := g2
  refine wp_seq_k fun K5 hK5 => ?_
  refine Sb 22 rfl ?_  -- 3
  refine S_val (Y_lss rfl rfl) ?_
  refine S_nl rfl rfl ?_
  refine th_n (hK5 _ _ ?_)
  clear hK5 K5
  refine wp_seq_k fun K6 hK6 => ?_
  refine S_if rfl (fun hb1 => ?_) (fun hb1 => ?_)  -- c1
  · -- c1T
   replace hb1 := nb_tt hb1
   have hk1 : k < n := by omega
   rw [zeros_pos (by omega)] at B1
   refine wp_skip ?_
   refine th_n (hK6 _ _ ?_)
   clear hK6 K6
   refine wp_seq_k fun K7 hK7 => ?_
   refine wp_block ?_
   refine wp_seq_k fun K8 hK8 => ?_
   refine Sb 22 rfl ?_  -- 4
   refine S_val (Y_move rfl) ?_
   refine S_val (Y_assign rfl) ?_
   refine S_nl rfl rfl ?_
   refine th_n (hK8 _ _ ?_)
   clear hK8 K8
   refine Sb 22 rfl ?_  -- 5
   refine S_val (Y_move rfl) ?_
   refine S_val (Y_move rfl) ?_
   refine S_val (Y_move rfl) ?_
   refine S_val (Y_move rfl) ?_
   refine S_call rfl en58 (impl_cellSet_has_c _ _ _ (by assumption)) ?_  -- k1 (impl.cellSet).has
   rintro v w' ⟨rfl, rfl⟩
   refine S_val (Y_index Try.underlying27 sz4 rfl rfl (by first | assumption | omega)) ?_
   refine S_stM (pre := bools ((listB m n).take k)) (old := [.bool false]) (post := zeros [.bool false] (n - k - 1)) (vs := [_]) sz4 rfl rfl rfl rfl (by rw [List.append_assoc]; exact B1) (by simp [bools, listB_len]; omega) rfl ?_
   intro w4 m4 X4
   replace B1 := Blk.eq X4 (listB_snoc hk1)
   clear X4
   replace G := G.abv m4
   replace GL2 := GL2.trn m4
   have zm4 := m4.size
   refine S_nl rfl rfl ?_
   refine ib_n ?_
   refine th_n (hK7 _ _ ?_)
   clear hK7 K7
   refine Sb 22 rfl ?_  -- 6
   refine S_val (Y_inc rfl rfl (by omega)) ?_
   refine S_val (Y_move rfl) ?_
   refine S_nl rfl rfl ?_
   refine th_n ?_
   go_roundw  -- e1 of L1
   case rel =>
    refine ⟨?_, GL2⟩
    exact ⟨k + 1, rfl, by omega, B1⟩
   case measure =>
    exact dec_nat (by omega)
  · -- c1F
   replace hb1 := nb_tf hb1
   refine wp_exit ?_
   refine th_x ?_
   try clear GL2
   refine th_x ?_
   refine ib_e ?_
   refine th_n (hK3 _ _ ?_)
   clear hK6 K6 hK3 K3
   refine wp_seq_k fun K9 hK9 => ?_
   refine Sb 22 rfl ?_  -- 7
   refine S_val (Y_move rfl) ?_
   refine S_val (Y_assign rfl) ?_
   refine S_nl rfl rfl ?_
   refine th_n (hK9 _ _ ?_)
   clear hK9 K9
   refine wp_ret ?_
   refine ret_r1 rfl rfl ?_  -- r1
   have : k = n := by omega
   subst this
   exact ⟨b1, rfl, fb1, Blk.eq B1 (by rw [List.take_of_length_le (by rw [listB_len]; omega)]; simp [zeros]), G⟩
set_option maxHeartbeats 400000 in
set_option maxRecDepth 20000 in
theorem impl_usedSet_c (Pr : Nat → Prop) (A B : Option Addr) (h : LH) (c d : Nat) (w : World) (hA : RC Pr w A h.cells) (hn : h.cells.length ≤ 64) :
    Calls Try.prog 77 #[.agg #[.slice A h.cells.length c, .slice B h.roots.length d]] w (Ret fun v w' => ∃ m : Nat, v = .int .u64 (m : Int) ∧ SetOf m (usedL h.cells) ∧ Grow w w') := by
 refine enter Try.func77 rfl Try.ntmps77 (L := [_,_,_,_,_,_,_,_,_,_,_,_,_,_,_,_,_,_,_,_]) rfl ?_
 have G := Mod.refl No w
 have hA0 := hA
 refine wp_seq_k fun K1 hK1 => ?_
 refine Sb 20 rfl ?_  -- 0
 refine S_box (cs := [_, _]) rfl rfl ?_
 intro b1 w1 fb1 g1 B1
 have lb1 := B1.lt
 replace hA := hA.grow g1
 replace G := G.grow g1
 have zg1 := g1.size
 refine S_val (Y_assign rfl) ?_
 refine S_nl rfl rfl ?_
 refine th_n (hK1 _ _ ?_)
 clear hK1 K1
 refine wp_seq_k fun K2 hK2 => ?_
 refine Sb 20 rfl ?_  -- 1
 refine S_alloc (cs := [_]) zr78 rfl ?_
 intro b2 w2 fb2 g2 B2
 have lb2 := B2.lt
 replace hA := hA.grow g2
 replace G := G.grow g2
 replace B1 := B1.grow g2
 have zg2 := g2.size
 refine S_nl rfl rfl ?_
 refine th_n (hK2 _ _ ?_)
 clear hK2 K2
 refine wp_seq_k fun K3 hK3 => ?_
 refine wp_seq_k fun K4 hK4 => ?_
 refine Sb 20 rfl ?_  -- 2
 refine S_val (Y_field Try.underlying32 rfl fz32_0 (by decide) rfl) ?_
 refine S_val (Y_load Try.underlying30 rfl rfl (B1.at (by rfl))) ?_  -- l1
 refine S_val (Y_len Try.underlying30 rfl) ?_
 refine S_val (Y_move rfl) ?_
 refine S_nl rfl rfl ?_
 refine th_n (hK4 _ _ ?_)
 clear hK4 K4
 refine wp_block ?_
 go_loopw [9] (fun u9 wr => (∃ (k m : Nat), u9 = .int .i64 k ∧ k ≤ h.cells.length ∧ Blk wr b2 78 [.int .u64 (m : Int)].toArray ∧ SetOf m ((usedL h.cells).take k)) ∧ Mod (fun i => i = b2) w2 wr) (fun u9 wr => h.cells.length - (intOf u9).toNat)  -- L1
 case atStart =>
  refine ⟨?_, Mod.refl _ _⟩
  exact ⟨0, 0, rfl, by omega, B2, SetOf.zero⟩
 case round =>
  obtain ⟨w3, rfl⟩ : ∃ x : World, x = wr := ⟨_, rfl⟩
  obtain ⟨hrel, g3⟩ := hrel
  clear B2
  replace G := G.abv g3
  replace hA := hA0.grow G
  replace B1 := B1.md g3
  have zg3 := g3.size
  obtain ⟨k, m, rfl, hk, B2, hs⟩ := hrel
  have hm := hs.1
  have GL3 := g3
  refine wp_seq_k fun K5 hK5 => ?_
  refine Sb 20 rfl ?_  -- 3
  refine S_val (Y_lss rfl rfl) ?_
  refine S_nl rfl rfl ?_
  refine th_n (hK5 _ _ ?_)
  clear hK5 K5
  refine wp_seq_k fun K6 hK6 => ?_
  refine S_if rfl (fun hb1 => ?_) (fun hb1 => ?_)  -- c1
  · -- c1T
   replace hb1 := nb_tt hb1
   have hk1 : k < h.cells.length := by omega
   have hk3 : k < (usedL h.cells).length := by simp [usedL, hk1]
   obtain ⟨g2, o2, E2, d2, rfl, hp2, cc20, _⟩ := hA0.cell hk1
   have cc2 := cc20.grow G
   refine wp_skip ?_
   refine th_n (hK6 _ _ ?_)
   clear hK6 K6
   refine wp_seq_k fun K7 hK7 => ?_
   refine wp_block ?_
   refine wp_seq_k fun K8 hK8 => ?_
   refine Sb 20 rfl ?_  -- 4
   refine S_val (Y_move rfl) ?_
   refine S_val (Y_index Try.underlying30 sz63 rfl rfl (by first | assumption | omega)) ?_
   refine S_val (Y_loadS Try.underlying63 rfl sz63 rfl (by first | assumption | exact B1.row (by rfl) | exact B2.row (by rfl))) ?_  -- l2
   refine S_alloc (cs := [_, _, _]) zr63 rfl ?_
   intro b4 w4 fb4 g4 B4
   have lb4 := B4.lt
   replace hA := hA.grow g4
   replace cc2 := cc2.grow g4
   replace G := G.grow g4
   replace GL3 := GL3.grow g4
   replace B1 := B1.grow g4
   replace B2 := B2.grow g4
   have zg4 := g4.size
   refine S_val (Y_assign rfl) ?_
   refine S_stM (pre := []) (old := [_, _, _]) (post := []) (vs := [_, _, _]) sz63 rfl rfl rfl (by first | rfl | assumption) B4 rfl rfl ?_
   intro w5 m5 X5
   replace B4 := Blk.eq (ys := [_, _, _]) X5 rfl
   clear X5
   replace G := G.abv m5
   first | replace GL3 := GL3.abv m5 | clear GL3
   replace hA := hA0.grow G
   replace cc2 := cc20.grow G
   replace B1 := B1.md m5
   replace B2 := B2.md m5
   have zm5 := m5.size
   refine S_nl rfl rfl ?_
   refine th_n (hK8 _ _ ?_)
   clear hK8 K8
   refine wp_seq_k fun K9 hK9 => ?_
   refine Sb 20 rfl ?_  -- 5
   refine S_val (Y_field Try.underlying63 rfl fz63_0 (by decide) rfl) ?_
   refine S_val (Y_load Try.underlying4 rfl rfl (B4.at (by rfl))) ?_  -- l3
   refine S_nl rfl rfl ?_
   refine th_n (hK9 _ _ ?_)
   clear hK9 K9
   refine S_if rfl (fun hb2 => ?_) (fun hb2 => ?_)  -- c2
   · -- c2T
    first | with_reducible (replace hb2 := nb_nt hb2) | with_reducible (replace hb2 := nb_tt hb2) | with_reducible (replace hb2 := nb_bt hb2) | skip
    refine Sb 20 rfl ?_  -- 6
    refine S_val (Y_move rfl) ?_
    refine S_call rfl en59 (impl_cellSet_add_c _ _ _ _ (by assumption) (by assumption) (by omega)) ?_  -- k1 (*impl.cellSet).add
    rintro v6 w6 ⟨X6, m6⟩
    replace B2 := X6
    clear X6
    replace G := G.abv m6
    replace GL3 := GL3.trn m6
    replace hA := hA0.grow G
    replace cc2 := cc20.grow G
    replace B1 := B1.md m6
    replace B4 := B4.md m6
    have zm6 := m6.size
    refine S_nl rfl rfl ?_
    refine ib_n ?_
    refine th_n (hK7 _ _ ?_)
    clear hK7 K7
    refine Sb 20 rfl ?_  -- 7
    refine S_val (Y_inc rfl rfl (by omega)) ?_
    refine S_val (Y_move rfl) ?_
    refine S_nl rfl rfl ?_
    refine th_n ?_
    go_roundw  -- e1 of L1
    case rel =>
     refine ⟨?_, GL3⟩
     exact ⟨k + 1, _, rfl, by omega, B2, hs.yes hk3 (by omega) (by simpa [usedL] using hb2)⟩
    case measure =>
     exact dec_nat (by omega)
   · -- c2F
    first | with_reducible (replace hb2 := nb_nf hb2) | with_reducible (replace hb2 := nb_tf hb2) | with_reducible (replace hb2 := nb_bf hb2) | skip
    refine wp_skip ?_
    refine ib_n ?_
    refine th_n (hK7 _ _ ?_)
    clear hK7 K7
    refine Sb 20 rfl ?_  -- 7
    refine S_val (Y_inc rfl rfl (by omega)) ?_
    refine S_val (Y_move rfl) ?_
    refine S_nl rfl rfl ?_
    refine th_n ?_
    go_roundw  -- e2 of L1
    case rel =>
     refine ⟨?_, GL3⟩
     exact ⟨k + 1, _, rfl, by omega, B2, hs.no hk3 (by simpa [usedL] using hb2)⟩
    case measure =>
     exact dec_nat (by omega)
  · -- c1F
   replace hb1 := nb_tf hb1
   refine wp_exit ?_
   refine th_x ?_
   try clear GL3
   refine th_x ?_
   refine ib_e ?_
   refine th_n (hK3 _ _ ?_)
   clear hK6 K6 hK3 K3
   refine wp_seq_k fun K10 hK10 => ?_
   refine Sb 20 rfl ?_  -- 8
   refine S_val (Y_load Try.underlying78 rfl rfl (B2.at (by rfl))) ?_  -- l4
   refine S_val (Y_assign rfl) ?_
   refine S_nl rfl rfl ?_
   refine th_n (hK10 _ _ ?_)
   clear hK10 K10
   refine wp_ret ?_
   refine ret_r1 rfl rfl ?_  -- r1
   exact ⟨m, rfl, hs.whole (by simpa [usedL] using (by omega : h.cells.length ≤ k)), G⟩
end
/-! Use -/
section
open Go
theorem orderL_ord {cs : List LC} {fr : List Int} (hl : Leads cs fr nn) : ∀ (f i : Nat) (s : List Int), i + f = cs.length → Ord cs fr nn i s → Ord cs fr nn (bfs cs nn f i s).length (bfs cs nn f i s)
  | 0, i, s, hi, h => by
    have hb := (h.bnd hl).len
    have h2 := h.le
    unfold bfs
    have e : i = s.length := by omega
    rw [← e]
    exact h
  | f + 1, i, s, hi, h => by
    by_cases hlt : i < s.length
    · obtain ⟨n, hn, hnN, hg⟩ := bnd_at (h.bnd hl) hlt
      rw [bfs_step hg]
      exact orderL_ord hl f (i + 1) _ (by omega) (h.next hg)
    · rw [bfs_end (by omega)]
      have e : i = s.length := by have := h.le; omega
      rw [← e]
      exact h
theorem orderL_mem {cs : List LC} {fr : List Int} (hl : Leads cs fr nn) {n : Nat} : (n : Int) ∈ orderL cs fr nn ↔ Rch cs fr nn n := by
  have h := orderL_ord hl cs.length 0 (meet nn [] fr) (by omega) (Ord.start _ _ _)
  exact ⟨h.sound n, fun hn => h.all (Nat.le_refl _) hn⟩
/-- Every reference is -1 or leads to a used cell. -/
def LeadsU (cs : List LC) (fr : List Int) : Prop := (∀ x ∈ fr, leadsB cs x = true) ∧ ∀ m, ∀ x ∈ refsOf cs m, leadsB cs x = true
theorem Valid.leadsU {h : LH} (v : Valid h) : LeadsU h.cells h.roots := by
  refine ⟨v.roots, fun m x hx => ?_⟩
  by_cases hm : m < h.cells.length
  · rw [refsOf_at hm] at hx
    exact v.refs hm x hx
  · simp [refsOf, List.getElem?_eq_none (by omega : h.cells.length ≤ m)] at hx
theorem leadsB_used {cs : List LC} {n : Nat} (h : leadsB cs (n : Int) = true) : usedAt cs n = true := by
  unfold leadsB at h
  have : ¬ ((n : Int) = -1) := by omega
  simpa [this] using h
theorem used_bit {cs : List LC} {m n : Nat} (hm : SetOf m (usedL cs)) (h : usedAt cs n = true) : m.testBit n = true := by
  rw [hm.2]
  unfold usedAt at h
  split at h
  · rename_i c hc
    simp [usedL, hc, h]
  · cases h
/-- To go over all references is to go over those that lead to used cells. -/
theorem rch_used {cs : List LC} {fr : List Int} {m : Nat} (hl : LeadsU cs fr) (hm : SetOf m (usedL cs)) {n : Nat} : Rch cs fr (hasB m) n ↔ Rch cs fr nn n := by
  constructor
  · intro h
    induction h with
    | root h1 h2 => exact .root h1 (by simp [nn])
    | step _ h1 h2 ih => exact .step ih h1 (by simp [nn])
  · intro h
    induction h with
    | root h1 h2 => exact .root h1 (by rw [hasB_nat]; exact used_bit hm (leadsB_used (hl.1 _ h1)))
    | step _ h1 h2 ih => exact .step ih h1 (by rw [hasB_nat]; exact used_bit hm (leadsB_used (hl.2 _ _ h1)))
/-- The set as the program has it, the marks as the reference has them. -/
theorem list_eq {cs : List LC} {fr : List Int} {m u N : Nat} (hl : Leads cs fr nn) (hu : LeadsU cs fr) (hm : SetOf u (usedL cs)) (hr : ∀ n, m.testBit n = true ↔ Rch cs fr (hasB u) n) : listB m N = mB N (orderL cs fr nn) := by
  unfold listB mB
  apply List.map_congr_left
  intro i _
  rw [Bool.eq_iff_iff, decide_eq_true_eq, hr, rch_used hu hm, orderL_mem hl]
end
/-! WalkG -/
section
open Go Go.RowKit
attribute [local irreducible] wpList wpAnyH Code.wp dOp
/-- The word m has the numbers of s. -/
def BitsOf (m : Nat) (s : List Int) : Prop := m < 2 ^ 64 ∧ ∀ n : Nat, m.testBit n = decide ((n : Int) ∈ s)
theorem BitsOf.zero : BitsOf 0 [] := ⟨by decide, fun n => by simp⟩
theorem BitsOf.add {m n : Nat} {s : List Int} (h : BitsOf m s) (hn : n < 64) : BitsOf (addN m n) (s ++ [(n : Int)]) :=
  ⟨addN_lt h.1 hn, fun j => by
    rw [addN_bit, h.2]
    by_cases hj : n = j
    · subst hj; simp
    · have : ¬ j = n := fun e => hj e.symm
      by_cases hs : (j : Int) ∈ s <;> simp [hj, hs]
      omega⟩
end
/-! WalkI -/
section
open Go Go.RowKit
attribute [local irreducible] wpList wpAnyH Code.wp dOp
set_option maxHeartbeats 400000 in
set_option maxRecDepth 20000 in
theorem spec_l7Reach_c (Pr PF : Nat → Prop) (A B E : Option Addr) (h : LH) (fr : List Int) (c d e : Nat) (w : World) (hA : RC Pr w A h.cells) (hF : R1 PF w E (ints fr)) (hz : hsize h ≤ 1048576) (hfz : fr.length ≤ 1048576) (hl : Leads h.cells fr nn) :
    Calls Try.prog 116 #[.agg #[.slice A h.cells.length c, .slice B h.roots.length d], .slice E fr.length e] w (Ret fun v w' => ∃ b, v = .slice (some ⟨b, 0, none⟩) h.cells.length h.cells.length ∧ w.heap.size ≤ b ∧ Blk w' b 4 (bools (mB h.cells.length (orderL h.cells fr nn))).toArray ∧ Grow w w') := by
 have hz1 := hsize_cells h
 have hz3 : ∀ k (hk : k < h.cells.length), h.cells[k].refs.length ≤ hsize h := fun k hk => hsize_refs h hk
 refine enter Try.func116 rfl Try.ntmps116 (L := [_,_,_,_,_,_,_,_,_,_,_,_,_,_,_,_,_,_,_,_,_,_,_,_,_,_,_,_,_,_,_,_,_,_,_,_,_,_,_,_,_,_,_,_,_,_,_,_,_,_,_,_,_,_,_,_,_,_,_,_,_,_,_,_,_,_,_,_,_,_,_,_,_,_,_,_,_,_,_,_,_,_,_,_,_,_,_,_,_,_,_,_,_,_,_,_,_,_,_,_]) rfl ?_
 have G := Mod.refl No w
 have hA0 := hA
 have hF0 := hF
 refine wp_seq_k fun K1 hK1 => ?_
 refine Sb 100 rfl ?_  -- 0
 refine S_box (cs := [_, _]) rfl rfl ?_
 intro b1 w1 fb1 g1 B1
 have lb1 := B1.lt
 replace hA := hA.grow g1
 replace hF := hF.grow g1
 replace G := G.grow g1
 have zg1 := g1.size
 refine S_val (Y_assign rfl) ?_
 refine S_nl rfl rfl ?_
 refine th_n (hK1 _ _ ?_)
 clear hK1 K1
 refine wp_seq_k fun K2 hK2 => ?_
 refine Sb 100 rfl ?_  -- 1
 refine S_val (Y_field Try.underlying32 rfl fz32_0 (by decide) rfl) ?_
 refine S_val (Y_load Try.underlying30 rfl rfl (B1.at (by rfl))) ?_  -- l1
 refine S_val (Y_len Try.underlying30 rfl) ?_
 refine S_make (z := [.bool false]) Try.underlying27 zr4 sz4 by4 rfl rfl (by omega) (by omega) (by omega) ?_
 intro b2 w2 fb2 g2 B2
 have lb2 := B2.lt
 replace hA := hA.grow g2
 replace hF := hF.grow g2
 replace G := G.grow g2
 replace B1 := B1.grow g2
 have zg2 := g2.size
 replace B2 := Blk.eq B2 (mB_zero _)
 refine S_val (Y_assign rfl) ?_
 refine S_nl rfl rfl ?_
 refine th_n (hK2 _ _ ?_)
 clear hK2 K2
 refine wp_seq_k fun K3 hK3 => ?_
 refine Sb 100 rfl ?_  -- 2
 refine S_bs0 Try.underlying23 sz3 ?_
 intro b3 w3 fb3 g3 B3
 have lb3 := B3.lt
 replace hA := hA.grow g3
 replace hF := hF.grow g3
 replace G := G.grow g3
 replace B1 := B1.grow g3
 replace B2 := B2.grow g3
 have zg3 := g3.size
 refine S_val (Y_assign rfl) ?_
 refine S_nl rfl rfl ?_
 refine th_n (hK3 _ _ ?_)
 clear hK3 K3
 refine wp_seq_k fun K4 hK4 => ?_
 refine wp_seq_k fun K5 hK5 => ?_
 refine Sb 100 rfl ?_  -- 3
 refine S_val (Y_assign rfl) ?_
 refine S_nl rfl rfl ?_
 refine th_n (hK5 _ _ ?_)
 clear hK5 K5
 refine wp_block ?_
 have O3 : OW (fun i => b3 ≤ i) w3 3 1 (some ⟨b3, 0, none⟩) 0 0 (ints []) := OW.of_blk B3 rfl (by decide) (Nat.le_refl _)
 go_loopw [6, 7] (fun u6 u7 wr => (∃ (k q cap : Nat) (A1 : Option Addr) (s : List Int), u7 = .int .i64 k ∧ k ≤ fr.length ∧ s = meet nn [] (fr.take k) ∧ u6 = .slice A1 q cap ∧ q = s.length ∧ OW (fun i => b3 ≤ i) wr 3 1 A1 q cap (ints s) ∧ Blk wr b2 4 (bools (mB h.cells.length s)).toArray) ∧ Mod (fun i => i = b2 ∨ b3 ≤ i) w3 wr) (fun u6 u7 wr => fr.length - (intOf u7).toNat)  -- L1
 case atStart =>
  refine ⟨?_, Mod.refl _ _⟩
  exact ⟨0, 0, 0, _, [], rfl, by omega, rfl, rfl, rfl, O3, B2⟩
 case round =>
  obtain ⟨w4, rfl⟩ : ∃ x : World, x = wr := ⟨_, rfl⟩
  obtain ⟨hrel, g4⟩ := hrel
  clear B2
  clear O3
  replace G := G.abv g4
  replace hA := hA0.grow G
  replace hF := hF0.grow G
  replace B1 := B1.md g4
  have zg4 := g4.size
  obtain ⟨k, q, cap, A1, s, rfl, hk, hs, rfl, hq, O3, B2⟩ := hrel
  have hsl : s.length ≤ h.cells.length := by rw [hs]; exact ((Bnd.nil _).take hl.1).len
  have GL4 := g4
  refine wp_seq_k fun K6 hK6 => ?_
  refine wp_seq_k fun K7 hK7 => ?_
  refine Sb 100 rfl ?_  -- 4
  refine S_val (Y_move rfl) ?_
  refine S_val (Y_move rfl) ?_
  refine S_val (Y_len Try.underlying23 rfl) ?_
  refine S_val (Y_lss rfl rfl) ?_
  refine S_nl rfl rfl ?_
  refine th_n (hK7 _ _ ?_)
  clear hK7 K7
  refine S_if rfl (fun hb1 => ?_) (fun hb1 => ?_)  -- c1
  · -- c1T
   replace hb1 := nb_tt hb1
   have hk1 : k < fr.length := by omega
   obtain ⟨g1, o1, rfl, hp1, hc1⟩ := hF.int hk1
   refine wp_skip ?_
   refine th_n (hK6 _ _ ?_)
   clear hK6 K6
   refine wp_seq_k fun K8 hK8 => ?_
   refine wp_block ?_
   refine wp_seq_k fun K9 hK9 => ?_
   refine Sb 100 rfl ?_  -- 6
   refine S_val (Y_move rfl) ?_
   refine S_val (Y_move rfl) ?_
   refine S_val (Y_index Try.underlying23 sz3 rfl rfl (by first | assumption | omega)) ?_
   refine S_val (Y_load Try.underlying3 rfl rfl (by first | assumption | exact B1.at (by rfl) | exact B2.at (by rfl))) ?_  -- l2
   refine S_val (Y_geq rfl rfl) ?_
   refine S_val (Y_move rfl) ?_
   refine S_g 27 rfl (fun hb2 => ?_) (fun hb2 => ?_)  -- g1
   · -- g1T
    replace hb2 := nb_tt hb2
    obtain ⟨n, hn, hnN⟩ := ref_at hl.1 hk1 hb2
    rw [hn] at hc1
    rw [hn]
    have hcm : w4.cell? ⟨b2, 0 + n * 1, none⟩ = some (.bool (decide ((n : Int) ∈ s))) := by simpa using B2.at (mB_at hnN)
    refine S_on rfl rfl ?_
    refine S_val (Y_move rfl) ?_
    refine S_on rfl rfl ?_
    refine S_val (Y_move rfl) ?_
    refine S_on rfl rfl ?_
    refine S_val (Y_move rfl) ?_
    refine S_on rfl rfl ?_
    refine S_val (Y_index Try.underlying23 sz3 rfl rfl (by first | assumption | omega)) ?_
    refine S_on rfl rfl ?_
    refine S_val (Y_load Try.underlying3 rfl rfl (by first | assumption | exact B1.at (by rfl) | exact B2.at (by rfl))) ?_  -- l3
    refine S_on rfl rfl ?_
    refine S_val (Y_index Try.underlying27 sz4 rfl rfl (by first | assumption | omega)) ?_
    refine S_on rfl rfl ?_
    refine S_val (Y_load Try.underlying4 rfl rfl (by first | assumption | exact B1.at (by rfl) | exact B2.at (by rfl))) ?_  -- l4
    refine S_on rfl rfl ?_
    refine S_val (Y_not rfl) ?_
    refine S_val (Y_pickT rfl rfl) ?_
    refine S_nl rfl rfl ?_
    refine th_n (hK9 _ _ ?_)
    clear hK9 K9
    refine S_if rfl (fun hb3 => ?_) (fun hb3 => ?_)  -- c2
    · -- c2T
     first | with_reducible (replace hb3 := nb_nt hb3) | with_reducible (replace hb3 := nb_tt hb3) | with_reducible (replace hb3 := nb_bt hb3) | skip
     refine wp_seq_k fun K10 hK10 => ?_
     refine Sb 100 rfl ?_  -- 7
     refine S_val (Y_move rfl) ?_
     refine S_val (Y_move rfl) ?_
     refine S_val (Y_move rfl) ?_
     refine S_val (Y_index Try.underlying23 sz3 rfl rfl (by first | assumption | omega)) ?_
     refine S_val (Y_load Try.underlying3 rfl rfl (by first | assumption | exact B1.at (by rfl) | exact B2.at (by rfl))) ?_  -- l5
     refine S_val (Y_index Try.underlying27 sz4 rfl rfl (by first | assumption | omega)) ?_
     refine S_stM (pre := (bools (mB h.cells.length s)).take n) (old := [.bool (decide ((n : Int) ∈ s))]) (post := (bools (mB h.cells.length s)).drop (n + 1)) (vs := [_]) sz4 rfl rfl rfl rfl (by rw [← mB_split (N := h.cells.length) (n := n) (s := s) (by omega)]; exact B2) (by rw [List.length_take, bools_len, mB_len]; omega) rfl ?_
     intro w5 m5 X5
     replace B2 := Blk.eq X5 (mB_set (by omega))
     clear X5
     replace G := G.abv m5
     replace GL4 := GL4.trn m5
     replace hA := hA0.grow G
     replace hF := hF0.grow G
     replace O3 := O3.md m5
     replace B1 := B1.md m5
     have zm5 := m5.size
     obtain ⟨g5, o5, e5, hp5, hc5⟩ := hF.int hk1
     cases e5
     rw [hn] at hc5
     refine S_nl rfl rfl ?_
     refine th_n (hK10 _ _ ?_)
     clear hK10 K10
     refine Sb 100 rfl ?_  -- 8
     refine S_val (Y_move rfl) ?_
     refine S_val (Y_move rfl) ?_
     refine S_val (Y_move rfl) ?_
     refine S_val (Y_index Try.underlying23 sz3 rfl rfl (by first | assumption | omega)) ?_
     refine S_val (Y_load Try.underlying3 rfl rfl (by first | assumption | exact B1.at (by rfl) | exact B2.at (by rfl))) ?_  -- l6
     refine S_bs1 (cs := [_]) Try.underlying23 zr3 sz3 rfl rfl rfl ?_
     intro b6 w6 fb6 g6 B6
     have lb6 := B6.lt
     replace hA := hA.grow g6
     replace hF := hF.grow g6
     replace O3 := O3.grow g6
     replace G := G.grow g6
     replace GL4 := GL4.grow g6
     replace B1 := B1.grow g6
     replace B2 := B2.grow g6
     have zg6 := g6.size
     refine S_app Try.underlying23 zr3 sz3 by3 rfl rfl O3 rfl (Src.blk B6) (by simp [Value.oneCell']) (by omega) (Pr' := fun i => b3 ≤ i) (fun i hi => hi) (by omega) ?_
     intro A7 cap7 w7 X7 m7
     replace O3 := X7
     rw [ints_app] at O3
     clear X7
     replace G := G.abv m7
     replace GL4 := GL4.trn m7
     replace hA := hA0.grow G
     replace hF := hF0.grow G
     replace B1 := B1.md m7
     replace B2 := B2.md m7
     have zm7 := m7.size
     refine S_val (Y_assign rfl) ?_
     refine S_nl rfl rfl ?_
     refine ib_n ?_
     refine th_n (hK8 _ _ ?_)
     clear hK8 K8
     refine Sb 100 rfl ?_  -- 5
     refine S_val (Y_move rfl) ?_
     refine S_val (Y_inc rfl rfl (by omega)) ?_
     refine S_val (Y_assign rfl) ?_
     refine S_nl rfl rfl ?_
     refine th_n ?_
     go_roundw  -- e1 of L1
     case rel =>
      refine ⟨?_, GL4⟩
      exact ⟨k + 1, _, _, _, s ++ [(n : Int)], rfl, by omega, by rw [meet_succ hk1, ← hs, hn, meet1_new (nn_of (by omega)) hb3], rfl, by simp; omega, O3, B2⟩
     case measure =>
      exact dec_nat (by omega)
    · -- c2F
     first | with_reducible (replace hb3 := nb_nf hb3) | with_reducible (replace hb3 := nb_tf hb3) | with_reducible (replace hb3 := nb_bf hb3) | skip
     refine wp_skip ?_
     refine ib_n ?_
     refine th_n (hK8 _ _ ?_)
     clear hK8 K8
     refine Sb 100 rfl ?_  -- 5
     refine S_val (Y_move rfl) ?_
     refine S_val (Y_inc rfl rfl (by omega)) ?_
     refine S_val (Y_assign rfl) ?_
     refine S_nl rfl rfl ?_
     refine th_n ?_
     go_roundw  -- e2 of L1
     case rel =>
      refine ⟨?_, GL4⟩
      exact ⟨k + 1, _, _, _, s, rfl, by omega, by rw [meet_succ hk1, ← hs, hn, meet1_old hb3], rfl, hq, O3, B2⟩
     case measure =>
      exact dec_nat (by omega)
   · -- g1F
    replace hb2 := nb_tf hb2
    refine S_off rfl rfl ?_
    refine S_off rfl rfl ?_
    refine S_off rfl rfl ?_
    refine S_off rfl rfl ?_
    refine S_off rfl rfl ?_
    refine S_off rfl rfl ?_
    refine S_off rfl rfl ?_
    refine S_off rfl rfl ?_
    refine S_val (Y_pickF rfl rfl) ?_
    refine S_nl rfl rfl ?_
    refine th_n (hK9 _ _ ?_)
    clear hK9 K9
    refine S_ifF rfl ?_
    refine wp_skip ?_
    refine ib_n ?_
    refine th_n (hK8 _ _ ?_)
    clear hK8 K8
    refine Sb 100 rfl ?_  -- 5
    refine S_val (Y_move rfl) ?_
    refine S_val (Y_inc rfl rfl (by omega)) ?_
    refine S_val (Y_assign rfl) ?_
    refine S_nl rfl rfl ?_
    refine th_n ?_
    go_roundw  -- e3 of L1
    case rel =>
     refine ⟨?_, GL4⟩
     exact ⟨k + 1, _, _, _, s, rfl, by omega, by rw [meet_succ hk1, ← hs, meet1_not (nn_no hb2)], rfl, hq, O3, B2⟩
    case measure =>
     exact dec_nat (by omega)
  · -- c1F
   replace hb1 := nb_tf hb1
   refine wp_exit ?_
   refine th_x ?_
   try clear GL4
   refine th_x ?_
   refine ib_e ?_
   refine th_n (hK4 _ _ ?_)
   clear hK6 K6 hK4 K4
   refine wp_seq_k fun K11 hK11 => ?_
   refine wp_seq_k fun K12 hK12 => ?_
   refine Sb 100 rfl ?_  -- 9
   refine S_val (Y_assign rfl) ?_
   refine S_nl rfl rfl ?_
   refine th_n (hK12 _ _ ?_)
   clear hK12 K12
   refine wp_block ?_
   go_loopw [6, 8] (fun u6 u8 wr => (∃ (k q cap : Nat) (A1 : Option Addr) (s : List Int), u8 = .int .i64 k ∧ Ord h.cells fr nn k s ∧ bfs h.cells nn (h.cells.length - k) k s = orderL h.cells fr nn ∧ u6 = .slice A1 q cap ∧ q = s.length ∧ OW (fun i => b3 ≤ i) wr 3 1 A1 q cap (ints s) ∧ Blk wr b2 4 (bools (mB h.cells.length s)).toArray) ∧ Mod (fun i => i = b2 ∨ b3 ≤ i) w4 wr) (fun u6 u8 wr => h.cells.length - (intOf u8).toNat)  -- L2
   case atStart =>
    refine ⟨?_, Mod.refl _ _⟩
    exact ⟨0, q, cap, A1, s, rfl, by rw [hs, meet_all (by omega)]; exact Ord.start _ _ _, by rw [hs, meet_all (by omega)]; rfl, rfl, hq, O3, B2⟩
   case round =>
    obtain ⟨w8, rfl⟩ : ∃ x : World, x = wr := ⟨_, rfl⟩
    obtain ⟨hrel, g8⟩ := hrel
    clear B2
    clear O3
    replace G := G.abv g8
    replace hA := hA0.grow G
    replace hF := hF0.grow G
    replace B1 := B1.md g8
    have zg8 := g8.size
    obtain ⟨k2, q2, cap2, A2, s2, rfl, ho2, hbf, rfl, hq2, O3, B2⟩ := hrel
    have hbd := ho2.bnd hl
    have hsl2 := hbd.len
    have GL8 := g8
    refine wp_seq_k fun K13 hK13 => ?_
    refine wp_seq_k fun K14 hK14 => ?_
    refine Sb 100 rfl ?_  -- 10
    refine S_val (Y_move rfl) ?_
    refine S_val (Y_move rfl) ?_
    refine S_val (Y_len Try.underlying23 rfl) ?_
    refine S_val (Y_lss rfl rfl) ?_
    refine S_nl rfl rfl ?_
    refine th_n (hK14 _ _ ?_)
    clear hK14 K14
    refine S_if rfl (fun hb2 => ?_) (fun hb2 => ?_)  -- c3
    · -- c3T
     replace hb2 := nb_tt hb2
     refine wp_skip ?_
     refine th_n (hK13 _ _ ?_)
     clear hK13 K13
     refine wp_seq_k fun K15 hK15 => ?_
     refine wp_block ?_
     refine wp_seq_k fun K16 hK16 => ?_
     refine D_start 10 100 (fun w => Mod (No) w) follows rfl rfl ?_  -- d1 r12
     intro w9 g9
     replace hA := hA.grow g9
     replace hF := hF.grow g9
     replace O3 := O3.grow g9
     replace G := G.grow g9
     replace GL8 := GL8.grow g9
     replace B1 := B1.grow g9
     replace B2 := B2.grow g9
     have zg9 := g9.size
     have GS9 := Mod.refl (No) w9
     have hk2 : k2 < s2.length := by omega
     obtain ⟨n2, hn2, hnN2, hng2⟩ := bnd_at hbd hk2
     obtain ⟨g2, o2, rfl, hp2, hc2⟩ := O3.r1.int hk2
     rw [hn2] at hc2
     obtain ⟨g3, o3, E3, d3, rfl, hp3, cc30, hE30⟩ := hA0.cell hnN2
     have hz4 := hz3 n2 hnN2
     have cc3 := cc30.grow G
     have hE3 := hE30.grow G
     have B1d9 := B1
     refine Dq (i := 0) rfl GS9 (fun _ _ => Y_field Try.underlying32 rfl fz32_0 (by decide) rfl) ?_
     refine Dq (i := 1) rfl GS9 (fun _ hs => Y_load Try.underlying30 rfl rfl (hs.cell0 (B1.at (by rfl)))) ?_
     refine Dq (i := 2) rfl GS9 (fun _ _ => Y_move rfl) ?_
     refine Dq (i := 3) rfl GS9 (fun _ _ => Y_move rfl) ?_
     refine Dq (i := 4) rfl GS9 (fun _ _ => Y_index Try.underlying23 sz3 rfl rfl (by first | assumption | omega)) ?_
     refine Dq (i := 5) rfl GS9 (fun _ hs => Y_load Try.underlying3 rfl rfl (by first | exact hs.cell0 (by assumption) | exact hs.cell0 (cc3.at (by rfl)) | exact hs.cell0 (B1.at (by rfl)) | exact hs.cell0 (B2.at (by rfl)))) ?_
     refine Dq (i := 6) rfl GS9 (fun _ _ => Y_index Try.underlying30 sz63 rfl rfl (by first | assumption | omega)) ?_
     refine Dq (i := 7) rfl GS9 (fun _ _ => Y_field Try.underlying63 rfl fz63_2 (by decide) rfl) ?_
     refine Dq (i := 8) rfl GS9 (fun _ hs => Y_load Try.underlying23 rfl rfl (by first | exact hs.cell0 (by assumption) | exact hs.cell0 (cc3.at (by rfl)) | exact hs.cell0 (B1.at (by rfl)) | exact hs.cell0 (B2.at (by rfl)))) ?_
     refine Dq (i := 9) rfl GS9 (fun _ _ => Y_assign rfl) ?_
     refine D_en (by kernel_rfl) rfl rfl ?_
     refine th_n (hK16 _ _ ?_)
     clear hK16 K16
     refine wp_seq_k fun K17 hK17 => ?_
     refine Sb 100 rfl ?_  -- 13
     refine S_val (Y_assign rfl) ?_
     refine S_nl rfl rfl ?_
     refine th_n (hK17 _ _ ?_)
     clear hK17 K17
     refine wp_block ?_
     go_loopw [6, 10] (fun u6 u10 wr => (∃ (k q cap : Nat) (A1 : Option Addr) (s : List Int), u10 = .int .i64 k ∧ k ≤ h.cells[n2].refs.length ∧ s = meet nn s2 (h.cells[n2].refs.take k) ∧ u6 = .slice A1 q cap ∧ q = s.length ∧ OW (fun i => b3 ≤ i) wr 3 1 A1 q cap (ints s) ∧ Blk wr b2 4 (bools (mB h.cells.length s)).toArray) ∧ Mod (fun i => i = b2 ∨ b3 ≤ i) w9 wr) (fun u6 u10 wr => h.cells[n2].refs.length - (intOf u10).toNat)  -- L3
     case atStart =>
      refine ⟨?_, Mod.refl _ _⟩
      exact ⟨0, q2, cap2, _, s2, rfl, by omega, rfl, rfl, hq2, O3, B2⟩
     case round =>
      obtain ⟨w10, rfl⟩ : ∃ x : World, x = wr := ⟨_, rfl⟩
      obtain ⟨hrel, g10⟩ := hrel
      clear B2
      clear O3
      replace G := G.abv g10
      replace GL8 := GL8.trn g10
      replace hA := hA0.grow G
      replace hF := hF0.grow G
      replace cc3 := cc30.grow G
      replace hE3 := hE30.grow G
      replace B1 := B1.md g10
      have zg10 := g10.size
      obtain ⟨j, q3, cap3, A3, s3, rfl, hj, hs3, rfl, hq3, O3, B2⟩ := hrel
      have hsl3 : s3.length ≤ h.cells.length := by rw [hs3]; exact (hbd.take (hl.refs hnN2)).len
      have GL10 := g10
      refine wp_seq_k fun K18 hK18 => ?_
      refine wp_seq_k fun K19 hK19 => ?_
      refine Sb 100 rfl ?_  -- 14
      refine S_val (Y_move rfl) ?_
      refine S_val (Y_move rfl) ?_
      refine S_val (Y_len Try.underlying23 rfl) ?_
      refine S_val (Y_lss rfl rfl) ?_
      refine S_nl rfl rfl ?_
      refine th_n (hK19 _ _ ?_)
      clear hK19 K19
      refine S_if rfl (fun hb3 => ?_) (fun hb3 => ?_)  -- c4
      · -- c4T
       replace hb3 := nb_tt hb3
       have hj1 : j < h.cells[n2].refs.length := by omega
       obtain ⟨g4, o4, rfl, hp4, hc4⟩ := hE3.int hj1
       refine wp_skip ?_
       refine th_n (hK18 _ _ ?_)
       clear hK18 K18
       refine wp_seq_k fun K20 hK20 => ?_
       refine wp_block ?_
       refine wp_seq_k fun K21 hK21 => ?_
       refine Sb 100 rfl ?_  -- 16
       refine S_val (Y_move rfl) ?_
       refine S_val (Y_move rfl) ?_
       refine S_val (Y_index Try.underlying23 sz3 rfl rfl (by first | assumption | omega)) ?_
       refine S_val (Y_load Try.underlying3 rfl rfl (by first | assumption | exact cc3.at (by rfl) | exact B1.at (by rfl) | exact B2.at (by rfl))) ?_  -- l10
       refine S_val (Y_geq rfl rfl) ?_
       refine S_val (Y_move rfl) ?_
       refine S_g 76 rfl (fun hb4 => ?_) (fun hb4 => ?_)  -- g2
       · -- g2T
        replace hb4 := nb_tt hb4
        obtain ⟨n, hn, hnN⟩ := ref_at (hl.refs hnN2) hj1 hb4
        rw [hn] at hc4
        rw [hn]
        have hcm : w10.cell? ⟨b2, 0 + n * 1, none⟩ = some (.bool (decide ((n : Int) ∈ s3))) := by simpa using B2.at (mB_at hnN)
        refine S_on rfl rfl ?_
        refine S_val (Y_move rfl) ?_
        refine S_on rfl rfl ?_
        refine S_val (Y_move rfl) ?_
        refine S_on rfl rfl ?_
        refine S_val (Y_move rfl) ?_
        refine S_on rfl rfl ?_
        refine S_val (Y_index Try.underlying23 sz3 rfl rfl (by first | assumption | omega)) ?_
        refine S_on rfl rfl ?_
        refine S_val (Y_load Try.underlying3 rfl rfl (by first | assumption | exact cc3.at (by rfl) | exact B1.at (by rfl) | exact B2.at (by rfl))) ?_  -- l11
        refine S_on rfl rfl ?_
        refine S_val (Y_index Try.underlying27 sz4 rfl rfl (by first | assumption | omega)) ?_
        refine S_on rfl rfl ?_
        refine S_val (Y_load Try.underlying4 rfl rfl (by first | assumption | exact cc3.at (by rfl) | exact B1.at (by rfl) | exact B2.at (by rfl))) ?_  -- l12
        refine S_on rfl rfl ?_
        refine S_val (Y_not rfl) ?_
        refine S_val (Y_pickT rfl rfl) ?_
        refine S_nl rfl rfl ?_
        refine th_n (hK21 _ _ ?_)
        clear hK21 K21
        refine S_if rfl (fun hb5 => ?_) (fun hb5 => ?_)  -- c5
        · -- c5T
         first | with_reducible (replace hb5 := nb_nt hb5) | with_reducible (replace hb5 := nb_tt hb5) | with_reducible (replace hb5 := nb_bt hb5) | skip
         refine wp_seq_k fun K22 hK22 => ?_
         refine Sb 100 rfl ?_  -- 17
         refine S_val (Y_move rfl) ?_
         refine S_val (Y_move rfl) ?_
         refine S_val (Y_move rfl) ?_
         refine S_val (Y_index Try.underlying23 sz3 rfl rfl (by first | assumption | omega)) ?_
         refine S_val (Y_load Try.underlying3 rfl rfl (by first | assumption | exact cc3.at (by rfl) | exact B1.at (by rfl) | exact B2.at (by rfl))) ?_  -- l13
         refine S_val (Y_index Try.underlying27 sz4 rfl rfl (by first | assumption | omega)) ?_
         refine S_stM (pre := (bools (mB h.cells.length s3)).take n) (old := [.bool (decide ((n : Int) ∈ s3))]) (post := (bools (mB h.cells.length s3)).drop (n + 1)) (vs := [_]) sz4 rfl rfl rfl rfl (by rw [← mB_split (N := h.cells.length) (n := n) (s := s3) (by omega)]; exact B2) (by rw [List.length_take, bools_len, mB_len]; omega) rfl ?_
         intro w11 m11 X11
         replace B2 := Blk.eq X11 (mB_set (by omega))
         clear X11
         replace G := G.abv m11
         replace GL8 := GL8.trn m11
         replace GL10 := GL10.trn m11
         replace hA := hA0.grow G
         replace hF := hF0.grow G
         replace cc3 := cc30.grow G
         replace hE3 := hE30.grow G
         replace O3 := O3.md m11
         replace B1 := B1.md m11
         have zm11 := m11.size
         obtain ⟨g5, o5, e5, hp5, hc5⟩ := hE3.int hj1
         cases e5
         rw [hn] at hc5
         refine S_nl rfl rfl ?_
         refine th_n (hK22 _ _ ?_)
         clear hK22 K22
         refine Sb 100 rfl ?_  -- 18
         refine S_val (Y_move rfl) ?_
         refine S_val (Y_move rfl) ?_
         refine S_val (Y_move rfl) ?_
         refine S_val (Y_index Try.underlying23 sz3 rfl rfl (by first | assumption | omega)) ?_
         refine S_val (Y_load Try.underlying3 rfl rfl (by first | assumption | exact cc3.at (by rfl) | exact B1.at (by rfl) | exact B2.at (by rfl))) ?_  -- l14
         refine S_bs1 (cs := [_]) Try.underlying23 zr3 sz3 rfl rfl rfl ?_
         intro b12 w12 fb12 g12 B12
         have lb12 := B12.lt
         replace hA := hA.grow g12
         replace hF := hF.grow g12
         replace cc3 := cc3.grow g12
         replace hE3 := hE3.grow g12
         replace O3 := O3.grow g12
         replace G := G.grow g12
         replace GL8 := GL8.grow g12
         replace GL10 := GL10.grow g12
         replace B1 := B1.grow g12
         replace B2 := B2.grow g12
         have zg12 := g12.size
         refine S_app Try.underlying23 zr3 sz3 by3 rfl rfl O3 rfl (Src.blk B12) (by simp [Value.oneCell']) (by omega) (Pr' := fun i => b3 ≤ i) (fun i hi => hi) (by omega) ?_
         intro A13 cap13 w13 X13 m13
         replace O3 := X13
         rw [ints_app] at O3
         clear X13
         replace G := G.abv m13
         replace GL8 := GL8.trn m13
         replace GL10 := GL10.trn m13
         replace hA := hA0.grow G
         replace hF := hF0.grow G
         replace cc3 := cc30.grow G
         replace hE3 := hE30.grow G
         replace B1 := B1.md m13
         replace B2 := B2.md m13
         have zm13 := m13.size
         refine S_val (Y_assign rfl) ?_
         refine S_nl rfl rfl ?_
         refine ib_n ?_
         refine th_n (hK20 _ _ ?_)
         clear hK20 K20
         refine Sb 100 rfl ?_  -- 15
         refine S_val (Y_move rfl) ?_
         refine S_val (Y_inc rfl rfl (by omega)) ?_
         refine S_val (Y_assign rfl) ?_
         refine S_nl rfl rfl ?_
         refine th_n ?_
         go_roundw  -- e4 of L3
         case rel =>
          refine ⟨?_, GL10⟩
          exact ⟨j + 1, _, _, _, s3 ++ [(n : Int)], rfl, by omega, by rw [meet_succ hj1, ← hs3, hn, meet1_new (nn_of (by omega)) hb5], rfl, by simp; omega, O3, B2⟩
         case measure =>
          exact dec_nat (by omega)
        · -- c5F
         first | with_reducible (replace hb5 := nb_nf hb5) | with_reducible (replace hb5 := nb_tf hb5) | with_reducible (replace hb5 := nb_bf hb5) | skip
         refine wp_skip ?_
         refine ib_n ?_
         refine th_n (hK20 _ _ ?_)
         clear hK20 K20
         refine Sb 100 rfl ?_  -- 15
         refine S_val (Y_move rfl) ?_
         refine S_val (Y_inc rfl rfl (by omega)) ?_
         refine S_val (Y_assign rfl) ?_
         refine S_nl rfl rfl ?_
         refine th_n ?_
         go_roundw  -- e5 of L3
         case rel =>
          refine ⟨?_, GL10⟩
          exact ⟨j + 1, _, _, _, s3, rfl, by omega, by rw [meet_succ hj1, ← hs3, hn, meet1_old hb5], rfl, hq3, O3, B2⟩
         case measure =>
          exact dec_nat (by omega)
       · -- g2F
        replace hb4 := nb_tf hb4
        refine S_off rfl rfl ?_
        refine S_off rfl rfl ?_
        refine S_off rfl rfl ?_
        refine S_off rfl rfl ?_
        refine S_off rfl rfl ?_
        refine S_off rfl rfl ?_
        refine S_off rfl rfl ?_
        refine S_off rfl rfl ?_
        refine S_val (Y_pickF rfl rfl) ?_
        refine S_nl rfl rfl ?_
        refine th_n (hK21 _ _ ?_)
        clear hK21 K21
        refine S_ifF rfl ?_
        refine wp_skip ?_
        refine ib_n ?_
        refine th_n (hK20 _ _ ?_)
        clear hK20 K20
        refine Sb 100 rfl ?_  -- 15
        refine S_val (Y_move rfl) ?_
        refine S_val (Y_inc rfl rfl (by omega)) ?_
        refine S_val (Y_assign rfl) ?_
        refine S_nl rfl rfl ?_
        refine th_n ?_
        go_roundw  -- e6 of L3
        case rel =>
         refine ⟨?_, GL10⟩
         exact ⟨j + 1, _, _, _, s3, rfl, by omega, by rw [meet_succ hj1, ← hs3, meet1_not (nn_no hb4)], rfl, hq3, O3, B2⟩
        case measure =>
         exact dec_nat (by omega)
      · -- c4F
       replace hb3 := nb_tf hb3
       refine wp_exit ?_
       refine th_x ?_
       try clear GL10
       refine th_x ?_
       refine ib_e ?_
       refine ib_n ?_
       refine th_n (hK15 _ _ ?_)
       clear hK18 K18 hK15 K15
       refine Sb 100 rfl ?_  -- 11
       refine S_val (Y_move rfl) ?_
       refine S_val (Y_inc rfl rfl (by omega)) ?_
       refine S_val (Y_assign rfl) ?_
       refine S_nl rfl rfl ?_
       refine th_n ?_
       go_roundw  -- e7 of L2
       case rel =>
        refine ⟨?_, GL8⟩
        exact ⟨k2 + 1, q3, cap3, _, s3, rfl, by rw [hs3, meet_all (by omega), ← refsOf_at hnN2]; exact ho2.next hng2, by rw [hs3, meet_all (by omega), ← refsOf_at hnN2, ← bfs_go (by omega) hng2]; exact hbf, rfl, hq3, O3, B2⟩
       case measure =>
        exact dec_nat (by omega)
    · -- c3F
     replace hb2 := nb_tf hb2
     refine wp_exit ?_
     refine th_x ?_
     try clear GL8
     refine th_x ?_
     refine ib_e ?_
     refine th_n (hK11 _ _ ?_)
     clear hK13 K13 hK11 K11
     refine wp_seq_k fun K23 hK23 => ?_
     refine Sb 100 rfl ?_  -- 19
     refine S_val (Y_move rfl) ?_
     refine S_val (Y_assign rfl) ?_
     refine S_nl rfl rfl ?_
     refine th_n (hK23 _ _ ?_)
     clear hK23 K23
     refine wp_ret ?_
     refine ret_r1 rfl rfl ?_  -- r1
     have he := hbf
     rw [bfs_end (by omega)] at he
     exact ⟨_, rfl, by omega, by rw [← he]; exact B2, G⟩
end
/-! WalkJ -/
section
open Go Go.RowKit
attribute [local irreducible] wpList wpAnyH Code.wp dOp
theorem has_at {m N : Nat} {x : Int} (hW : ∀ i, m.testBit i = true → i < N) (h : hasB m x = true) : ∃ n : Nat, x = (n : Int) ∧ n < N := by
  unfold hasB at h
  simp only [Bool.and_eq_true, decide_eq_true_eq] at h
  exact ⟨x.toNat, by omega, hW _ h.2⟩
theorem has_bnd {m N : Nat} (hW : ∀ i, m.testBit i = true → i < N) : ∀ x, hasB m x = true → 0 ≤ x ∧ x < (N : Int) := fun x h => by
  obtain ⟨n, rfl, hn⟩ := has_at hW h
  omega
theorem last_snoc {wk : List Int} {q n : Nat} (hq : q = wk.length) (h0 : 0 < q) (h : wk[q - 1]? = some (n : Int)) : wk = wk.take (q - 1) ++ [(n : Int)] := by
  obtain ⟨h1, h2⟩ := List.getElem?_eq_some_iff.1 h
  have := List.take_succ_eq_append_getElem h1
  rw [h2, show q - 1 + 1 = wk.length by omega, List.take_length] at this
  exact this
set_option maxHeartbeats 400000 in
set_option maxRecDepth 20000 in
theorem impl_closure_1_c (E : Option Addr) (xs : List Int) (e N lo bl bx bw bm bo wi m q cap : Nat) (A : Option Addr) (s wk : List Int) (w : World) (hE : R1 (fun k => k < lo) w E (ints xs)) (hx : xs.length ≤ 1048576) (hwk : wk.length ≤ 1048576) (Bw : Blk w bw 78 [.int .u64 (wi : Int)].toArray) (Bm : Blk w bm 78 [.int .u64 (m : Int)].toArray) (Bo : Blk w bo 23 [.slice A q cap].toArray) (O : OW (fun i => i = bl ∨ bx < i) w 3 1 A q cap (ints wk)) (hq : q = wk.length) (hs : BitsOf m s) (hwi : wi < 2 ^ 64) (hW : ∀ i, wi.testBit i = true → i < N) (hN : N ≤ 64) (hb : Bnd N s) (h9 : lo ≤ bl ∧ lo ≤ bm ∧ lo ≤ bo ∧ bl ≤ bx ∧ bm ≤ bx ∧ bo ≤ bx ∧ bm ≠ bl ∧ bo ≠ bl ∧ bm ≠ bo ∧ bx < w.heap.size ∧ bw ≤ bx ∧ bw ≠ bm ∧ bw ≠ bo ∧ bw ≠ bl) :
    Calls Try.prog 123 #[.slice E xs.length e, .pointer (some ⟨bw, 0, none⟩), .pointer (some ⟨bm, 0, none⟩), .pointer (some ⟨bo, 0, none⟩)] w (Ret fun _v w' => ∃ m q cap A, q = (wk ++ (meet (hasB wi) s xs).drop s.length).length ∧ BitsOf m (meet (hasB wi) s xs) ∧ Blk w' bm 78 [.int .u64 (m : Int)].toArray ∧ Blk w' bo 23 [.slice A q cap].toArray ∧ OW (fun i => i = bl ∨ bx < i) w' 3 1 A q cap (ints (wk ++ (meet (hasB wi) s xs).drop s.length)) ∧ Mod (fun i => i = bm ∨ i = bo ∨ i = bl ∨ bx < i) w w') := by
 obtain ⟨p1, p2, p3, p4, p5, p6, p7, p8, p9, p10, p11, p12, p13, p14⟩ := h9
 have hbo := has_bnd hW
 refine enter Try.func123 rfl Try.ntmps123 (L := [_,_,_,_,_,_,_,_,_,_,_,_,_,_,_,_,_,_,_,_,_,_,_,_,_,_,_,_,_]) rfl ?_
 have G := Mod.refl (fun i => i = bm ∨ i = bo ∨ i = bl ∨ bx < i) w
 refine wp_seq_k fun K1 hK1 => ?_
 refine Sb 29 rfl ?_  -- 0
 refine S_val (Y_move rfl) ?_
 refine S_val (Y_len Try.underlying23 rfl) ?_
 refine S_val (Y_move rfl) ?_
 refine S_nl rfl rfl ?_
 refine th_n (hK1 _ _ ?_)
 clear hK1 K1
 refine wp_block ?_
 go_loopw [9] (fun u9 wr => (∃ (k m q cap : Nat) (A : Option Addr) (s1 : List Int), u9 = .int .i64 k ∧ k ≤ xs.length ∧ q = (wk ++ s1.drop s.length).length ∧ s1 = meet (hasB wi) s (xs.take k) ∧ BitsOf m s1 ∧ Blk wr bm 78 [.int .u64 (m : Int)].toArray ∧ Blk wr bo 23 [.slice A q cap].toArray ∧ OW (fun i => i = bl ∨ bx < i) wr 3 1 A q cap (ints (wk ++ s1.drop s.length))) ∧ Mod (fun i => i = bm ∨ i = bo ∨ i = bl ∨ bx < i) w wr) (fun u9 wr => xs.length - (intOf u9).toNat)  -- L1
 case atStart =>
  refine ⟨?_, Mod.refl _ _⟩
  exact ⟨0, m, q, cap, A, s, rfl, by omega, by simpa using hq, rfl, hs, Bm, Bo, by simpa using O⟩
 case round =>
  obtain ⟨w1, rfl⟩ : ∃ x : World, x = wr := ⟨_, rfl⟩
  obtain ⟨hrel, g1⟩ := hrel
  clear Bm
  clear Bo
  clear O
  replace G := Mod.trans' G g1 (fun _ h _ => h) (fun i h _ => by first | exact h | omega | (dsimp only at h ⊢; omega))
  replace hE := hE.md g1
  replace Bw := Bw.md g1
  have zg1 := g1.size
  obtain ⟨k, m1, q1, cap1, A1, s1, rfl, hk, hq1, hs1, ht1, Bm, Bo, O⟩ := hrel
  have hsl : s1.length ≤ N := by rw [hs1]; exact (hb.meetO hbo).len
  have hsl0 : s.length ≤ s1.length := by rw [hs1]; exact meet_len _ _ _
  have hqb : q1 ≤ wk.length + 64 := by rw [hq1, List.length_append, List.length_drop]; omega
  have hm1 := ht1.1
  have GL1 := g1
  refine wp_seq_k fun K2 hK2 => ?_
  refine Sb 29 rfl ?_  -- 1
  refine S_val (Y_lss rfl rfl) ?_
  refine S_nl rfl rfl ?_
  refine th_n (hK2 _ _ ?_)
  clear hK2 K2
  refine wp_seq_k fun K3 hK3 => ?_
  refine S_if rfl (fun hb1 => ?_) (fun hb1 => ?_)  -- c1
  · -- c1T
   replace hb1 := nb_tt hb1
   have hk1 : k < xs.length := by omega
   obtain ⟨g1, o1, rfl, hp1, hc1⟩ := hE.int hk1
   refine wp_skip ?_
   refine th_n (hK3 _ _ ?_)
   clear hK3 K3
   refine wp_seq_k fun K4 hK4 => ?_
   refine wp_block ?_
   refine wp_seq_k fun K5 hK5 => ?_
   refine Sb 29 rfl ?_  -- 2
   refine S_val (Y_index Try.underlying23 sz3 rfl rfl (by first | assumption | omega)) ?_
   refine S_val (Y_load Try.underlying3 rfl rfl (by first | assumption | exact Bw.at (by rfl) | exact Bm.at (by rfl) | exact Bo.at (by rfl))) ?_  -- l1
   refine S_val (Y_assign rfl) ?_
   refine S_nl rfl rfl ?_
   refine th_n (hK5 _ _ ?_)
   clear hK5 K5
   refine wp_seq_k fun K6 hK6 => ?_
   refine Sb 29 rfl ?_  -- 3
   refine S_val (Y_load Try.underlying78 rfl rfl (Bw.at (by rfl))) ?_  -- l2
   refine S_val (Y_move rfl) ?_
   refine S_call rfl en58 (impl_cellSet_has_c _ _ _ (by assumption)) ?_  -- k1 (impl.cellSet).has
   rintro v w' ⟨rfl, rfl⟩
   refine S_val (Y_move rfl) ?_
   refine S_g 16 rfl (fun hb2 => ?_) (fun hb2 => ?_)  -- g1
   · -- g1T
    first | with_reducible (replace hb2 := nb_nt hb2) | with_reducible (replace hb2 := nb_tt hb2) | with_reducible (replace hb2 := nb_bt hb2) | skip
    obtain ⟨n, hn, hnN⟩ := has_at hW hb2
    rw [hn]
    refine S_on rfl rfl ?_
    refine S_val (Y_load Try.underlying78 rfl rfl (Bm.at (by rfl))) ?_  -- l3
    refine S_on rfl rfl ?_
    refine S_val (Y_move rfl) ?_
    refine S_on rfl rfl ?_
    refine S_call rfl en58 (impl_cellSet_has_c _ _ _ (by assumption)) ?_  -- k2 (impl.cellSet).has
    rintro v w' ⟨rfl, rfl⟩
    refine S_on rfl rfl ?_
    refine S_val (Y_not rfl) ?_
    refine S_val (Y_pickT rfl rfl) ?_
    refine S_nl rfl rfl ?_
    refine th_n (hK6 _ _ ?_)
    clear hK6 K6
    refine S_if rfl (fun hb3 => ?_) (fun hb3 => ?_)  -- c2
    · -- c2T
     first | with_reducible (replace hb3 := nb_nt hb3) | with_reducible (replace hb3 := nb_tt hb3) | with_reducible (replace hb3 := nb_bt hb3) | skip
     rw [hasB_nat, ht1.2] at hb3
     refine wp_seq_k fun K7 hK7 => ?_
     refine Sb 29 rfl ?_  -- 4
     refine S_val (Y_move rfl) ?_
     refine S_call rfl en59 (impl_cellSet_add_c _ _ _ _ (by assumption) (by assumption) (by omega)) ?_  -- k3 (*impl.cellSet).add
     rintro v4 w4 ⟨X4, m4⟩
     replace Bm := X4
     clear X4
     replace G := Mod.trans' G m4 (fun _ h _ => h) (fun i h _ => by first | exact h | omega | (dsimp only at h ⊢; omega))
     replace GL1 := GL1.trn m4
     replace hE := hE.md m4
     replace O := O.md m4
     replace Bw := Bw.md m4
     replace Bo := Bo.md m4
     have zm4 := m4.size
     refine S_nl rfl rfl ?_
     refine th_n (hK7 _ _ ?_)
     clear hK7 K7
     refine Sb 29 rfl ?_  -- 5
     refine S_val (Y_load Try.underlying23 rfl rfl (Bo.at (by rfl))) ?_  -- l4
     refine S_val (Y_move rfl) ?_
     refine S_bs1 (cs := [_]) Try.underlying23 zr3 sz3 rfl rfl rfl ?_
     intro b5 w5 fb5 g5 B5
     have lb5 := B5.lt
     replace hE := hE.grow g5
     replace O := O.grow g5
     replace G := G.grow g5
     replace GL1 := GL1.grow g5
     replace Bw := Bw.grow g5
     replace Bm := Bm.grow g5
     replace Bo := Bo.grow g5
     have zg5 := g5.size
     refine S_app Try.underlying23 zr3 sz3 by3 rfl rfl O rfl (Src.blk B5) (by simp [Value.oneCell']) (by omega) (Pr' := fun i => i = bl ∨ bx < i) (fun i hi => hi) (by omega) ?_
     intro A6 cap6 w6 X6 m6
     replace O := X6
     rw [ints_app] at O
     clear X6
     replace G := Mod.trans' G m6 (fun _ h _ => h) (fun i h _ => by first | exact h | omega | (dsimp only at h ⊢; omega))
     replace GL1 := GL1.trn m6
     replace hE := hE.md m6
     replace Bw := Bw.md m6
     replace Bm := Bm.md m6
     replace Bo := Bo.md m6
     have zm6 := m6.size
     refine S_stM (pre := []) (old := [_]) (post := []) (vs := [_]) sz23 rfl rfl rfl (by first | rfl | assumption) Bo rfl rfl ?_
     intro w7 m7 X7
     replace Bo := Blk.eq (ys := [_]) X7 rfl
     clear X7
     replace G := Mod.trans' G m7 (fun _ h _ => h) (fun i h _ => by first | exact h | omega | (dsimp only at h ⊢; omega))
     replace GL1 := GL1.trn m7
     replace hE := hE.md m7
     replace O := O.md m7
     replace Bw := Bw.md m7
     replace Bm := Bm.md m7
     have zm7 := m7.size
     refine S_nl rfl rfl ?_
     refine ib_n ?_
     refine th_n (hK4 _ _ ?_)
     clear hK4 K4
     refine Sb 29 rfl ?_  -- 6
     refine S_val (Y_inc rfl rfl (by omega)) ?_
     refine S_val (Y_move rfl) ?_
     refine S_nl rfl rfl ?_
     refine th_n ?_
     go_roundw  -- e1 of L1
     case rel =>
      refine ⟨?_, GL1⟩
      refine ⟨k + 1, _, _, _, _, s1 ++ [(n : Int)], rfl, by omega, ?_, by rw [meet_succ hk1, ← hs1, hn, meet1_new (by rw [← hn]; exact hb2) (of_decide_eq_false hb3)], ht1.add (by omega), Bm, Bo, ?_⟩
      · rw [drop_snoc hsl0, ← List.append_assoc, List.length_append, ← hq1]
        rfl
      · rw [drop_snoc hsl0, ← List.append_assoc]
        exact O
     case measure =>
      exact dec_nat (by omega)
    · -- c2F
     first | with_reducible (replace hb3 := nb_nf hb3) | with_reducible (replace hb3 := nb_tf hb3) | with_reducible (replace hb3 := nb_bf hb3) | skip
     rw [hasB_nat, ht1.2] at hb3
     refine wp_skip ?_
     refine ib_n ?_
     refine th_n (hK4 _ _ ?_)
     clear hK4 K4
     refine Sb 29 rfl ?_  -- 6
     refine S_val (Y_inc rfl rfl (by omega)) ?_
     refine S_val (Y_move rfl) ?_
     refine S_nl rfl rfl ?_
     refine th_n ?_
     go_roundw  -- e2 of L1
     case rel =>
      refine ⟨?_, GL1⟩
      exact ⟨k + 1, _, _, _, _, s1, rfl, by omega, hq1, by rw [meet_succ hk1, ← hs1, hn, meet1_old (of_decide_eq_true hb3)], ht1, Bm, Bo, O⟩
     case measure =>
      exact dec_nat (by omega)
   · -- g1F
    first | with_reducible (replace hb2 := nb_nf hb2) | with_reducible (replace hb2 := nb_tf hb2) | with_reducible (replace hb2 := nb_bf hb2) | skip
    refine S_off rfl rfl ?_
    refine S_off rfl rfl ?_
    refine S_off rfl rfl ?_
    refine S_off rfl rfl ?_
    refine S_val (Y_pickF rfl rfl) ?_
    refine S_nl rfl rfl ?_
    refine th_n (hK6 _ _ ?_)
    clear hK6 K6
    refine S_ifF rfl ?_
    refine wp_skip ?_
    refine ib_n ?_
    refine th_n (hK4 _ _ ?_)
    clear hK4 K4
    refine Sb 29 rfl ?_  -- 6
    refine S_val (Y_inc rfl rfl (by omega)) ?_
    refine S_val (Y_move rfl) ?_
    refine S_nl rfl rfl ?_
    refine th_n ?_
    go_roundw  -- e3 of L1
    case rel =>
     refine ⟨?_, GL1⟩
     exact ⟨k + 1, _, _, _, _, s1, rfl, by omega, hq1, by rw [meet_succ hk1, ← hs1, meet1_not hb2], ht1, Bm, Bo, O⟩
    case measure =>
     exact dec_nat (by omega)
  · -- c1F
   replace hb1 := nb_tf hb1
   refine wp_exit ?_
   refine th_x ?_
   try clear GL1
   refine th_x ?_
   refine ib_e ?_
   clear hK3 K3
   refine ret_n0 rfl ?_  -- r1
   rw [meet_all (by omega)] at hs1
   subst hs1
   exact ⟨_, _, _, _, hq1, ht1, Bm, Bo, O, G⟩
set_option maxHeartbeats 400000 in
set_option maxRecDepth 20000 in
theorem impl_closure_c (Pr PF : Nat → Prop) (A B E : Option Addr) (h : LH) (fr : List Int) (c d e wi : Nat) (w : World) (hA : RC Pr w A h.cells) (hF : R1 PF w E (ints fr)) (hz : hsize h ≤ 1048576) (hfz : fr.length ≤ 1048576) (hwi : wi < 2 ^ 64) (hW : ∀ i, wi.testBit i = true → i < h.cells.length) (hN : h.cells.length ≤ 64) :
    Calls Try.prog 108 #[.agg #[.slice A h.cells.length c, .slice B h.roots.length d], .slice E fr.length e, .int .u64 (wi : Int)] w (Ret fun v w' => ∃ m : Nat, v = .int .u64 (m : Int) ∧ m < 2 ^ 64 ∧ (∀ n, m.testBit n = true ↔ Rch h.cells fr (hasB wi) n) ∧ Grow w w') := by
 have hz1 := hsize_cells h
 have hz3 : ∀ k (hk : k < h.cells.length), h.cells[k].refs.length ≤ hsize h := fun k hk => hsize_refs h hk
 have hAl := hA.below
 have hFl := hF.below
 have hbo := has_bnd hW
 refine enter Try.func108 rfl Try.ntmps108 (L := [_,_,_,_,_,_,_,_,_,_,_,_,_,_,_,_,_,_,_,_,_,_,_,_,_,_,_,_,_,_,_,_,_,_,_,_,_,_,_]) rfl ?_
 have G := Mod.refl No w
 have hAl0 := hAl
 have hFl0 := hFl
 refine wp_seq_k fun K1 hK1 => ?_
 refine Sb 39 rfl ?_  -- 0
 refine S_box (cs := [_, _]) rfl rfl ?_
 intro b1 w1 fb1 g1 B1
 have lb1 := B1.lt
 replace hAl := hAl.grow g1
 replace hFl := hFl.grow g1
 replace G := G.grow g1
 have zg1 := g1.size
 refine S_box (cs := [_]) rfl rfl ?_
 intro b2 w2 fb2 g2 B2
 have lb2 := B2.lt
 replace hAl := hAl.grow g2
 replace hFl := hFl.grow g2
 replace G := G.grow g2
 replace B1 := B1.grow g2
 have zg2 := g2.size
 refine S_val (Y_assign rfl) ?_
 refine S_nl rfl rfl ?_
 refine th_n (hK1 _ _ ?_)
 clear hK1 K1
 refine wp_seq_k fun K2 hK2 => ?_
 refine Sb 39 rfl ?_  -- 1
 refine S_alloc (cs := [_]) zr78 rfl ?_
 intro b3 w3 fb3 g3 B3
 have lb3 := B3.lt
 replace hAl := hAl.grow g3
 replace hFl := hFl.grow g3
 replace G := G.grow g3
 replace B1 := B1.grow g3
 replace B2 := B2.grow g3
 have zg3 := g3.size
 refine S_nl rfl rfl ?_
 refine th_n (hK2 _ _ ?_)
 clear hK2 K2
 refine wp_seq_k fun K3 hK3 => ?_
 refine Sb 39 rfl ?_  -- 2
 refine S_bs0 Try.underlying23 sz3 ?_
 intro b4 w4 fb4 g4 B4
 have lb4 := B4.lt
 replace hAl := hAl.grow g4
 replace hFl := hFl.grow g4
 replace G := G.grow g4
 replace B1 := B1.grow g4
 replace B2 := B2.grow g4
 replace B3 := B3.grow g4
 have zg4 := g4.size
 refine S_alloc (cs := [_]) zr23 rfl ?_
 intro b5 w5 fb5 g5 B5
 have lb5 := B5.lt
 replace hAl := hAl.grow g5
 replace hFl := hFl.grow g5
 replace G := G.grow g5
 replace B1 := B1.grow g5
 replace B2 := B2.grow g5
 replace B3 := B3.grow g5
 replace B4 := B4.grow g5
 have zg5 := g5.size
 have O4 : OW (fun i => i = b4 ∨ b5 < i) w5 3 1 (some ⟨b4, 0, none⟩) 0 0 (ints []) := OW.of_blk B4 rfl (by decide) (.inl rfl)
 refine S_stM (pre := []) (old := [_]) (post := []) (vs := [_]) sz23 rfl rfl rfl (by first | rfl | assumption) B5 rfl rfl ?_
 intro w6 m6 X6
 replace B5 := Blk.eq (ys := [_]) X6 rfl
 clear X6
 replace G := G.abv m6
 replace hAl := hAl0.grow G
 replace hFl := hFl0.grow G
 replace O4 := O4.md m6
 replace B1 := B1.md m6
 replace B2 := B2.md m6
 replace B3 := B3.md m6
 have zm6 := m6.size
 refine S_nl rfl rfl ?_
 refine th_n (hK3 _ _ ?_)
 clear hK3 K3
 refine wp_seq_k fun K4 hK4 => ?_
 refine Sb 39 rfl ?_  -- 3
 refine S_val (Y_makeFunc rfl rfl) ?_
 refine S_val (Y_assign rfl) ?_
 refine S_nl rfl rfl ?_
 refine th_n (hK4 _ _ ?_)
 clear hK4 K4
 refine wp_seq_k fun K5 hK5 => ?_
 refine Sb 39 rfl ?_  -- 4
 refine S_val (Y_move rfl) ?_
 refine S_val (Y_move rfl) ?_
 refine S_callc rfl rfl en123 (impl_closure_1_c _ _ _ h.cells.length w.heap.size b4 b5 b2 b3 b5 wi _ _ _ _ [] [] _ hFl (by omega) (by simp) B2 B3 B5 O4 rfl BitsOf.zero hwi hW (by omega) (Bnd.nil _) ⟨by omega, by omega, by omega, by omega, by omega, by omega, by omega, by omega, by omega, by omega, by omega, by omega, by omega, by omega⟩) ?_  -- k1
 rintro v7 w7 ⟨m1, q1, cap1, A1, hq1, ht1, X7, Y7, Z7, m7⟩
 replace B3 := X7
 replace B5 := Y7
 replace O4 := Z7
 clear X7 Y7 Z7
 replace G := G.abv m7
 replace hAl := hAl0.grow G
 replace hFl := hFl0.grow G
 replace B1 := B1.md m7
 replace B2 := B2.md m7
 have zm7 := m7.size
 rw [List.nil_append, List.length_nil, List.drop_zero] at hq1 O4
 refine S_nl rfl rfl ?_
 refine th_n (hK5 _ _ ?_)
 clear hK5 K5
 refine wp_seq_k fun K6 hK6 => ?_
 refine wp_block ?_
 go_loopw [10] (fun u10 wr => (∃ (m q cap : Nat) (A1 : Option Addr) (s wk : List Int), q = wk.length ∧ wk.length ≤ s.length ∧ BitsOf m s ∧ Dfs h.cells fr (hasB wi) s wk ∧ Blk wr b3 78 [.int .u64 (m : Int)].toArray ∧ Blk wr b5 23 [.slice A1 q cap].toArray ∧ OW (fun i => i = b4 ∨ b5 < i) wr 3 1 A1 q cap (ints wk)) ∧ Mod (fun i => i = b3 ∨ i = b5 ∨ i = b4 ∨ b5 < i) w7 wr) (fun u10 wr => 2 * (h.cells.length - popc h.cells.length (natAt wr b3)) + lenAt wr b5)  -- L1
 case atStart =>
  refine ⟨?_, Mod.refl _ _⟩
  exact ⟨m1, q1, cap1, A1, _, _, hq1, Nat.le_refl _, ht1, Dfs.start _ _ _, B3, B5, O4⟩
 case round =>
  obtain ⟨w8, rfl⟩ : ∃ x : World, x = wr := ⟨_, rfl⟩
  obtain ⟨hrel, g8⟩ := hrel
  clear B3
  clear B5
  clear O4
  replace G := G.abv g8
  replace hAl := hAl0.grow G
  replace hFl := hFl0.grow G
  replace B1 := B1.md g8
  replace B2 := B2.md g8
  have zg8 := g8.size
  obtain ⟨m2, q2, cap2, A2, s, wk, hq2, hws, ht2, ho2, B3, B5, O4⟩ := hrel
  have hbd : Bnd h.cells.length s := ⟨ho2.nodup, fun x hx => hbo x (ho2.okay x hx)⟩
  have hsl := hbd.len
  have hM := natAt_blk B3
  have hL := lenAt_blk B5
  have hP := popc_eq ht2.2 hbd
  have GL8 := g8
  refine wp_seq_k fun K7 hK7 => ?_
  refine wp_seq_k fun K8 hK8 => ?_
  refine Sb 39 rfl ?_  -- 5
  refine S_val (Y_load Try.underlying23 rfl rfl (B5.at (by rfl))) ?_  -- l1
  refine S_val (Y_len Try.underlying23 rfl) ?_
  refine S_val (Y_gtr rfl rfl) ?_
  refine S_nl rfl rfl ?_
  refine th_n (hK8 _ _ ?_)
  clear hK8 K8
  refine S_if rfl (fun hb1 => ?_) (fun hb1 => ?_)  -- c1
  · -- c1T
   replace hb1 := nb_tt hb1
   have hcap := O4.cap
   have h0 : 0 < q2 := by omega
   have hkk : q2 - 1 < wk.length := by omega
   obtain ⟨n, hn, hnN⟩ := has_at hW (ho2.okay _ (ho2.sub _ (List.getElem_mem hkk)))
   obtain ⟨g2, o2, rfl, hp2, hc2⟩ := O4.r1.int hkk
   rw [hn] at hc2
   have hw := last_snoc hq2 h0 (by rw [List.getElem?_eq_getElem hkk, hn])
   obtain ⟨g3, o3, E3, d3, rfl, hp3, cc30, hE30⟩ := hAl0.cell hnN
   have hz4 := hz3 n hnN
   have cc3 := cc30.grow G
   have hE3 := hE30.grow G
   have P4 : OW (fun i => i = b4 ∨ b5 < i) w8 3 1 (some ⟨g2, o2, none⟩) (q2 - 1) cap2 (ints (wk.take (q2 - 1))) := by simpa [ints, List.map_take] using O4.pop (m := q2 - 1) (by omega)
   refine wp_skip ?_
   refine th_n (hK7 _ _ ?_)
   clear hK7 K7
   refine wp_block ?_
   refine wp_seq_k fun K9 hK9 => ?_
   refine Sb 39 rfl ?_  -- 6
   refine S_val (Y_load Try.underlying23 rfl rfl (B5.at (by rfl))) ?_  -- l2
   refine S_val (Y_load Try.underlying23 rfl rfl (B5.at (by rfl))) ?_  -- l3
   refine S_val (Y_len Try.underlying23 rfl) ?_
   refine S_val (Y_sub (c := ((q2 - 1 : Nat) : Int)) rfl rfl (by omega) (by omega) (by omega)) ?_
   refine S_val (Y_index Try.underlying23 sz3 rfl rfl (by first | assumption | omega)) ?_
   refine S_val (Y_load Try.underlying3 rfl rfl (by first | assumption | exact cc3.at (by rfl) | exact B1.at (by rfl) | exact B2.at (by rfl) | exact B3.at (by rfl) | exact B5.at (by rfl))) ?_  -- l4
   refine S_val (Y_assign rfl) ?_
   refine S_nl rfl rfl ?_
   refine th_n (hK9 _ _ ?_)
   clear hK9 K9
   refine wp_seq_k fun K10 hK10 => ?_
   refine Sb 39 rfl ?_  -- 7
   refine S_val (Y_load Try.underlying23 rfl rfl (B5.at (by rfl))) ?_  -- l5
   refine S_val (Y_load Try.underlying23 rfl rfl (B5.at (by rfl))) ?_  -- l6
   refine S_val (Y_len Try.underlying23 rfl) ?_
   refine S_val (Y_sub (c := ((q2 - 1 : Nat) : Int)) rfl rfl (by omega) (by omega) (by omega)) ?_
   refine S_val (Y_sliceH Try.underlying23 sz3 rfl rfl (by omega)) ?_
   refine S_stM (pre := []) (old := [_]) (post := []) (vs := [_]) sz23 rfl rfl rfl (by first | rfl | assumption) B5 rfl rfl ?_
   intro w9 m9 X9
   replace B5 := Blk.eq (ys := [_]) X9 rfl
   clear X9
   replace G := G.abv m9
   replace GL8 := GL8.trn m9
   replace hAl := hAl0.grow G
   replace hFl := hFl0.grow G
   replace cc3 := cc30.grow G
   replace hE3 := hE30.grow G
   replace P4 := P4.md m9
   replace B1 := B1.md m9
   replace B2 := B2.md m9
   replace B3 := B3.md m9
   have zm9 := m9.size
   refine S_nl rfl rfl ?_
   refine th_n (hK10 _ _ ?_)
   clear hK10 K10
   refine Sb 39 rfl ?_  -- 8
   refine S_val (Y_move rfl) ?_
   refine S_val (Y_field Try.underlying32 rfl fz32_0 (by decide) rfl) ?_
   refine S_val (Y_load Try.underlying30 rfl rfl (B1.at (by rfl))) ?_  -- l7
   refine S_val (Y_move rfl) ?_
   refine S_val (Y_index Try.underlying30 sz63 rfl rfl (by first | assumption | omega)) ?_
   refine S_val (Y_field Try.underlying63 rfl fz63_2 (by decide) rfl) ?_
   refine S_val (Y_load Try.underlying23 rfl rfl (by first | assumption | exact cc3.at (by rfl) | exact B1.at (by rfl) | exact B2.at (by rfl) | exact B3.at (by rfl) | exact B5.at (by rfl))) ?_  -- l8
   refine S_callc rfl rfl en123 (impl_closure_1_c _ _ _ h.cells.length w.heap.size b4 b5 b2 b3 b5 wi _ _ _ _ s (wk.take (q2 - 1)) _ hE3 (by omega) (by rw [List.length_take]; omega) B2 B3 B5 P4 (by rw [List.length_take]; omega) ht2 hwi hW (by omega) hbd ⟨by omega, by omega, by omega, by omega, by omega, by omega, by omega, by omega, by omega, by omega, by omega, by omega, by omega, by omega⟩) ?_  -- k2
   rintro v10 w10 ⟨m3, q3, cap3, A3, hq3, ht3, X10, Y10, Z10, m10⟩
   replace B3 := X10
   replace B5 := Y10
   have O4 := Z10
   clear X10 Y10 Z10
   replace G := G.abv m10
   replace GL8 := GL8.trn m10
   replace hAl := hAl0.grow G
   replace hFl := hFl0.grow G
   replace cc3 := cc30.grow G
   replace hE3 := hE30.grow G
   replace B1 := B1.md m10
   replace B2 := B2.md m10
   have zm10 := m10.size
   have hbd3 : Bnd h.cells.length (meet (hasB wi) s h.cells[n].refs) := hbd.meetO hbo
   have hml := meet_len (hasB wi) s h.cells[n].refs
   have hbl3 := hbd3.len
   refine S_nl rfl rfl ?_
   refine ib_n ?_
   refine th_n ?_
   go_roundw  -- e1 of L1
   case rel =>
    refine ⟨?_, GL8⟩
    exact ⟨_, _, _, _, _, _, hq3, by rw [List.length_append, List.length_drop, List.length_take]; omega, ht3, by rw [← refsOf_at hnN]; rw [hw] at ho2; exact ho2.next, B3, B5, O4⟩
   case measure =>
    rw [hM, hL, natAt_blk B3, lenAt_blk B5, hP, popc_eq ht3.2 hbd3, hq3, List.length_append, List.length_drop, List.length_take]
    omega
  · -- c1F
   replace hb1 := nb_tf hb1
   refine wp_exit ?_
   refine th_x ?_
   try clear GL8
   refine th_x ?_
   refine ib_e ?_
   refine th_n (hK6 _ _ ?_)
   clear hK7 K7 hK6 K6
   refine wp_seq_k fun K11 hK11 => ?_
   refine Sb 39 rfl ?_  -- 9
   refine S_val (Y_load Try.underlying78 rfl rfl (B3.at (by rfl))) ?_  -- l9
   refine S_val (Y_assign rfl) ?_
   refine S_nl rfl rfl ?_
   refine th_n (hK11 _ _ ?_)
   clear hK11 K11
   refine wp_ret ?_
   refine ret_r1 rfl rfl ?_  -- r1
   have hwk : wk = [] := List.eq_nil_of_length_eq_zero (by omega)
   subst hwk
   exact ⟨_, rfl, ht2.1, fun i => by rw [ht2.2, decide_eq_true_eq]; exact ho2.all, G⟩
end
/-! WalkK -/
section
open Go Go.RowKit
attribute [local irreducible] wpList wpAnyH Code.wp dOp
theorem SetOf.wlt {m : Nat} {bs : List Bool} (h : SetOf m bs) : m < 2 ^ 64 := h.1
theorem SetOf.lt {m : Nat} {cs : List LC} (h : SetOf m (usedL cs)) : ∀ i, m.testBit i = true → i < cs.length := fun i hi => by
  rw [h.2] at hi
  by_cases hl : i < cs.length
  · exact hl
  · rw [List.getElem?_eq_none (by simp [usedL]; omega)] at hi
    cases hi
def reachV (h : LH) : List Bool := if validB h = true then mB h.cells.length (orderL h.cells h.roots nn) else []
theorem reachV_t {h : LH} (hv : validB h = true) : reachV h = mB h.cells.length (orderL h.cells h.roots nn) := if_pos hv
theorem reachV_f {h : LH} (hv : validB h = false) : reachV h = [] := if_neg (by simp [hv])
theorem reachV_len {h : LH} (hv : validB h = true) : (reachV h).length = h.cells.length := by rw [reachV_t hv, mB_len]
set_option maxHeartbeats 400000 in
set_option maxRecDepth 20000 in
theorem impl_reachable_c (Pr : Nat → Prop) (A B : Option Addr) (h : LH) (c d : Nat) (w : World) (hA : RC Pr w A h.cells) (hB : R1 Pr w B (ints h.roots)) (hz : hsize h ≤ 1048576) (va : Valid h) :
    Calls Try.prog 71 #[.agg #[.slice A h.cells.length c, .slice B h.roots.length d]] w (Ret fun v w' => ∃ m : Nat, v = .int .u64 (m : Int) ∧ m < 2 ^ 64 ∧ listB m h.cells.length = mB h.cells.length (orderL h.cells h.roots nn) ∧ Grow w w') := by
 have h40 := va.le
 have hr4 := va.roots4
 refine enter Try.func71 rfl Try.ntmps71 (L := [_,_,_,_,_,_,_,_,_]) rfl ?_
 have G := Mod.refl No w
 have hA0 := hA
 have hB0 := hB
 refine wp_seq_k fun K1 hK1 => ?_
 refine Sb 9 rfl ?_  -- 0
 refine S_box (cs := [_, _]) rfl rfl ?_
 intro b1 w1 fb1 g1 B1
 have lb1 := B1.lt
 replace hA := hA.grow g1
 replace hB := hB.grow g1
 replace G := G.grow g1
 have zg1 := g1.size
 refine S_val (Y_assign rfl) ?_
 refine S_nl rfl rfl ?_
 refine th_n (hK1 _ _ ?_)
 clear hK1 K1
 refine wp_seq_k fun K2 hK2 => ?_
 refine D_start 7 9 (fun w => Mod (No) w) follows rfl rfl ?_  -- d1 r1
 intro w2 g2
 replace hA := hA.grow g2
 replace hB := hB.grow g2
 replace G := G.grow g2
 replace B1 := B1.grow g2
 have zg2 := g2.size
 have GS2 := Mod.refl (No) w2
 have B1d2 := B1
 refine Dq (i := 0) rfl GS2 (fun _ hs => Y_loadS Try.underlying32 rfl sz32 rfl (by first | exact hs.cells0 (B1.row (by rfl)))) ?_
 refine Dq (i := 1) rfl GS2 (fun _ _ => Y_field Try.underlying32 rfl fz32_1 (by decide) rfl) ?_
 refine Dq (i := 2) rfl GS2 (fun _ hs => Y_load Try.underlying23 rfl rfl (hs.cell0 (B1.at (by rfl)))) ?_
 refine Dq (i := 3) rfl GS2 (fun _ hs => Y_loadS Try.underlying32 rfl sz32 rfl (by first | exact hs.cells0 (B1.row (by rfl)))) ?_
 refine D_1 (i := 4) (by kernel_rfl) ?_
 refine E_call rfl rfl en77 (impl_usedSet_c _ _ _ _ _ _ _ (by assumption) (by omega)) ?_  -- k1 impl.usedSet
 rintro v3 w3 ⟨s3, rfl, hs3, g3⟩
 replace hA := hA.grow g3
 replace hB := hB.grow g3
 replace G := G.grow g3
 replace GS2 := GS2.grow g3
 replace B1 := B1.grow g3
 have zg3 := g3.size
 refine ⟨GS2, ?_⟩
 refine D_1 (i := 5) (by kernel_rfl) ?_
 refine E_call rfl rfl en108 (impl_closure_c _ _ _ _ _ _ _ _ _ _ _ _ (by assumption) (by assumption) (by omega) (by omega) hs3.1 hs3.lt (by omega)) ?_  -- k2 impl.closure
 rintro v4 w4 ⟨s4, rfl, hs4, hr4, g4⟩
 replace hA := hA.grow g4
 replace hB := hB.grow g4
 replace G := G.grow g4
 replace GS2 := GS2.grow g4
 replace B1 := B1.grow g4
 have zg4 := g4.size
 refine ⟨GS2, ?_⟩
 refine Dq (i := 6) rfl GS2 (fun _ _ => Y_assign rfl) ?_
 refine D_en (by kernel_rfl) rfl rfl ?_
 refine th_n (hK2 _ _ ?_)
 clear hK2 K2
 refine wp_ret ?_
 refine ret_r1 rfl rfl ?_  -- r1
 exact ⟨_, rfl, hs4, list_eq va.leads va.leadsU hs3 hr4, G⟩
set_option maxHeartbeats 400000 in
set_option maxRecDepth 20000 in
theorem impl_Reachable_c (Pr : Nat → Prop) (A B : Option Addr) (h : LH) (c d : Nat) (w : World) (hA : RC Pr w A h.cells) (hB : R1 Pr w B (ints h.roots)) (hz : hsize h ≤ 1048576) :
    Calls Try.prog 23 #[.agg #[.slice A h.cells.length c, .slice B h.roots.length d]] w (Ret fun v w' => ∃ A1 q cap, v = .slice A1 q cap ∧ q = (reachV h).length ∧ OI (fun i => w.heap.size ≤ i) w' 4 A1 (bools (reachV h)) ∧ Grow w w') := by
 refine enter Try.func23 rfl Try.ntmps23 (L := [_,_,_,_,_,_,_,_,_,_,_,_]) rfl ?_
 have G := Mod.refl No w
 have hA0 := hA
 have hB0 := hB
 refine wp_seq_k fun K1 hK1 => ?_
 refine Sb 12 rfl ?_  -- 0
 refine S_box (cs := [_, _]) rfl rfl ?_
 intro b1 w1 fb1 g1 B1
 have lb1 := B1.lt
 replace hA := hA.grow g1
 replace hB := hB.grow g1
 replace G := G.grow g1
 have zg1 := g1.size
 refine S_val (Y_assign rfl) ?_
 refine S_nl rfl rfl ?_
 refine th_n (hK1 _ _ ?_)
 clear hK1 K1
 refine wp_seq_k fun K2 hK2 => ?_
 refine wp_seq_k fun K3 hK3 => ?_
 refine Sb 12 rfl ?_  -- 1
 refine S_val (Y_loadS Try.underlying32 rfl sz32 rfl (B1.row (by rfl))) ?_  -- l1
 refine S_call rfl en41 (impl_HeapValid_c _ _ _ _ _ _ _ (by assumption) (by assumption) (by omega)) ?_  -- k1 impl.HeapValid
 rintro v2 w2 ⟨rfl, g2⟩
 replace hA := hA.grow g2
 replace hB := hB.grow g2
 replace G := G.grow g2
 replace B1 := B1.grow g2
 have zg2 := g2.size
 refine S_val (Y_not rfl) ?_
 refine S_nl rfl rfl ?_
 refine th_n (hK3 _ _ ?_)
 clear hK3 K3
 refine S_if rfl (fun hb1 => ?_) (fun hb1 => ?_)  -- c1
 · -- c1T
  first | with_reducible (replace hb1 := nb_nt hb1) | with_reducible (replace hb1 := nb_tt hb1) | with_reducible (replace hb1 := nb_bt hb1) | skip
  refine wp_seq_k fun K4 hK4 => ?_
  refine Sb 12 rfl ?_  -- 2
  refine S_val (Y_assign rfl) ?_
  refine S_nl rfl rfl ?_
  refine th_n (hK4 _ _ ?_)
  clear hK4 K4
  refine wp_ret ?_
  refine th_r ?_
  clear hK2 K2
  refine ret_r1 rfl rfl ?_  -- r1
  exact ⟨_, _, _, rfl, by rw [reachV_f hb1]; rfl, by rw [reachV_f hb1]; exact OI.nil _ _ _ _, G⟩
 · -- c1F
  first | with_reducible (replace hb1 := nb_nf hb1) | with_reducible (replace hb1 := nb_tf hb1) | with_reducible (replace hb1 := nb_bf hb1) | skip
  have va := valid_iff.1 hb1
  have hl := va.leads
  have h40 := va.le
  have hr4 := va.roots4
  have hrl := reachV_len hb1
  refine wp_skip ?_
  refine th_n (hK2 _ _ ?_)
  clear hK2 K2
  refine wp_seq_k fun K5 hK5 => ?_
  refine D_start 7 12 (fun w => Mod (No) w) follows rfl rfl ?_  -- d1 r3
  intro w3 g3
  replace hA := hA.grow g3
  replace hB := hB.grow g3
  replace G := G.grow g3
  replace B1 := B1.grow g3
  have zg3 := g3.size
  have GS3 := Mod.refl (No) w3
  have B1d3 := B1
  refine Dq (i := 0) rfl GS3 (fun _ hs => Y_loadS Try.underlying32 rfl sz32 rfl (by first | exact hs.cells0 (B1.row (by rfl)))) ?_
  refine Dq (i := 2) rfl GS3 (fun _ _ => Y_field Try.underlying32 rfl fz32_0 (by decide) rfl) ?_
  refine Dq (i := 3) rfl GS3 (fun _ hs => Y_load Try.underlying30 rfl rfl (hs.cell0 (B1.at (by rfl)))) ?_
  refine Dq (i := 4) rfl GS3 (fun _ _ => Y_len Try.underlying30 rfl) ?_
  refine D_1 (i := 1) (by kernel_rfl) ?_
  refine E_call rfl rfl en71 (impl_reachable_c _ _ _ _ _ _ _ (by assumption) (by assumption) (by omega) (by assumption)) ?_  -- k2 impl.reachable
  rintro v4 w4 ⟨s4, rfl, hs4, hr4, g4⟩
  replace hA := hA.grow g4
  replace hB := hB.grow g4
  replace G := G.grow g4
  replace GS3 := GS3.grow g4
  replace B1 := B1.grow g4
  have zg4 := g4.size
  refine ⟨GS3, ?_⟩
  refine D_1 (i := 5) (by kernel_rfl) ?_
  refine E_call rfl rfl en62 (impl_cellSet_list_c _ _ _ (by first | assumption | exact SetOf.wlt (by assumption)) (by omega)) ?_  -- k3 (impl.cellSet).list
  rintro v5 w5 ⟨b5, rfl, fb5, B5, g5⟩
  replace hA := hA.grow g5
  replace hB := hB.grow g5
  replace G := G.grow g5
  replace GS3 := GS3.grow g5
  replace B1 := B1.grow g5
  have zg5 := g5.size
  have lb5 := B5.lt
  refine ⟨GS3, ?_⟩
  refine Dq (i := 6) rfl GS3 (fun _ _ => Y_assign rfl) ?_
  refine D_en (by kernel_rfl) rfl rfl ?_
  refine th_n (hK5 _ _ ?_)
  clear hK5 K5
  refine wp_ret ?_
  refine ret_r1 rfl rfl ?_  -- r2
  exact ⟨_, _, _, rfl, hrl.symm, by rw [reachV_t hb1, ← (by assumption : listB _ h.cells.length = mB h.cells.length (orderL h.cells h.roots nn))]; exact OI.of_blk' (by assumption) (by omega), G⟩
set_option maxHeartbeats 400000 in
set_option maxRecDepth 20000 in
theorem spec_Reachable_c (Pr : Nat → Prop) (A B : Option Addr) (h : LH) (c d : Nat) (w : World) (hA : RC Pr w A h.cells) (hB : R1 Pr w B (ints h.roots)) (hz : hsize h ≤ 1048576) :
    Calls Try.prog 92 #[.agg #[.slice A h.cells.length c, .slice B h.roots.length d]] w (Ret fun v w' => ∃ A1 q cap, v = .slice A1 q cap ∧ q = (reachV h).length ∧ OI (fun i => w.heap.size ≤ i) w' 4 A1 (bools (reachV h)) ∧ Grow w w') := by
 refine enter Try.func92 rfl Try.ntmps92 (L := [_,_,_,_,_,_,_,_,_,_,_]) rfl ?_
 have G := Mod.refl No w
 have hA0 := hA
 have hB0 := hB
 refine wp_seq_k fun K1 hK1 => ?_
 refine Sb 11 rfl ?_  -- 0
 refine S_box (cs := [_, _]) rfl rfl ?_
 intro b1 w1 fb1 g1 B1
 have lb1 := B1.lt
 replace hA := hA.grow g1
 replace hB := hB.grow g1
 replace G := G.grow g1
 have zg1 := g1.size
 refine S_val (Y_assign rfl) ?_
 refine S_nl rfl rfl ?_
 refine th_n (hK1 _ _ ?_)
 clear hK1 K1
 refine wp_seq_k fun K2 hK2 => ?_
 refine wp_seq_k fun K3 hK3 => ?_
 refine Sb 11 rfl ?_  -- 1
 refine S_val (Y_loadS Try.underlying32 rfl sz32 rfl (B1.row (by rfl))) ?_  -- l1
 refine S_call rfl en49 (spec_HeapValid_c _ _ _ _ _ _ _ (by assumption) (by assumption) (by omega)) ?_  -- k1 spec.HeapValid
 rintro v2 w2 ⟨rfl, g2⟩
 replace hA := hA.grow g2
 replace hB := hB.grow g2
 replace G := G.grow g2
 replace B1 := B1.grow g2
 have zg2 := g2.size
 refine S_val (Y_not rfl) ?_
 refine S_nl rfl rfl ?_
 refine th_n (hK3 _ _ ?_)
 clear hK3 K3
 refine S_if rfl (fun hb1 => ?_) (fun hb1 => ?_)  -- c1
 · -- c1T
  first | with_reducible (replace hb1 := nb_nt hb1) | with_reducible (replace hb1 := nb_tt hb1) | with_reducible (replace hb1 := nb_bt hb1) | skip
  refine wp_seq_k fun K4 hK4 => ?_
  refine Sb 11 rfl ?_  -- 2
  refine S_bs0 Try.underlying27 sz4 ?_
  intro b3 w3 fb3 g3 B3
  have lb3 := B3.lt
  replace hA := hA.grow g3
  replace hB := hB.grow g3
  replace G := G.grow g3
  replace B1 := B1.grow g3
  have zg3 := g3.size
  refine S_val (Y_assign rfl) ?_
  refine S_nl rfl rfl ?_
  refine th_n (hK4 _ _ ?_)
  clear hK4 K4
  refine wp_ret ?_
  refine th_r ?_
  clear hK2 K2
  refine ret_r1 rfl rfl ?_  -- r1
  exact ⟨_, _, _, rfl, by rw [reachV_f hb1]; rfl, by rw [reachV_f hb1]; exact OI.nil _ _ _ _, G⟩
 · -- c1F
  first | with_reducible (replace hb1 := nb_nf hb1) | with_reducible (replace hb1 := nb_tf hb1) | with_reducible (replace hb1 := nb_bf hb1) | skip
  have va := valid_iff.1 hb1
  have hl := va.leads
  have h40 := va.le
  have hr4 := va.roots4
  have hrl := reachV_len hb1
  refine wp_skip ?_
  refine th_n (hK2 _ _ ?_)
  clear hK2 K2
  refine wp_seq_k fun K5 hK5 => ?_
  refine Sb 11 rfl ?_  -- 3
  refine S_val (Y_loadS Try.underlying32 rfl sz32 rfl (B1.row (by rfl))) ?_  -- l2
  refine S_val (Y_field Try.underlying32 rfl fz32_1 (by decide) rfl) ?_
  refine S_val (Y_load Try.underlying23 rfl rfl (B1.at (by rfl))) ?_  -- l3
  refine S_call rfl en116 (spec_l7Reach_c _ _ _ _ _ _ _ _ _ _ _ (by assumption) (by assumption) (by omega) (by omega) (by assumption)) ?_  -- k2 spec.l7Reach
  rintro v4 w4 ⟨b4, rfl, fb4, B4, g4⟩
  replace hA := hA.grow g4
  replace hB := hB.grow g4
  replace G := G.grow g4
  replace B1 := B1.grow g4
  have zg4 := g4.size
  have lb4 := B4.lt
  refine S_val (Y_assign rfl) ?_
  refine S_nl rfl rfl ?_
  refine th_n (hK5 _ _ ?_)
  clear hK5 K5
  refine wp_ret ?_
  refine ret_r1 rfl rfl ?_  -- r2
  exact ⟨_, _, _, rfl, hrl.symm, by rw [reachV_t hb1]; exact OI.of_blk' (by assumption) (by omega), G⟩
end
/-! Slide -/
section
open Go
theorem R1.of_blkE {w : World} {b : Nat} {e : TypeId} {us : List Value} (h : Blk w b e us.toArray) : R1 (fun i => i = b) w (some ⟨b, 0, none⟩) us := R1.of_blk (post := []) (by simpa using h) rfl
/-- Cell n can be reached. -/
def rB (h : LH) (n : Nat) : Bool := decide ((n : Int) ∈ orderL h.cells h.roots nn)
theorem rB_reach {h : LH} {n : Nat} (hv : validB h = true) (hn : n < h.cells.length) : (reachV h)[n]? = some (rB h n) := by rw [reachV_t hv, mB_get hn]; rfl
theorem usedAt_at {cs : List LC} {n : Nat} (h : n < cs.length) : usedAt cs n = cs[n].used := by simp [usedAt, h]
def leakP (h : LH) (n : Nat) : Bool := usedAt h.cells n && !rB h n
end
/-! Grow -/
section
open Go Go.RowKit
section
variable {Pr Pr' S : Nat → Prop} {w w' : World} {e : TypeId} {s n cap : Nat} {A : Option Addr} {us : List Value}
theorem OW.self (h : OW Pr w e s A n cap us) : OW (fun i => A = some ⟨i, 0, none⟩) w e s A n cap us := by
  refine ⟨h.1, ?_⟩
  rcases h.2 with a | ⟨g, cur, h1, _, h3⟩
  · exact .inl a
  · exact .inr ⟨g, cur, h1, h1, h3⟩
theorem OW.pr (h : OW Pr w e s A n cap us) {b : Nat} (hA : A = some ⟨b, 0, none⟩) : Pr b := by
  rcases h.2 with ⟨h1, _⟩ | ⟨g, cur, h1, h2, _⟩
  · rw [hA] at h1; cases h1
  · rw [hA] at h1
    cases h1
    exact h2
theorem OW.isBlk (h : OW Pr w e s A n cap us) {b : Nat} (hA : A = some ⟨b, 0, none⟩) : ∃ cur, Blk w b e cur := by
  rcases h.2 with ⟨h1, _⟩ | ⟨g, cur, h1, _, h3, _⟩
  · rw [hA] at h1; cases h1
  · rw [hA] at h1
    cases h1
    exact ⟨cur, h3⟩
/-- A row that was made with room, and no element. -/
theorem OW.room {b : Nat} {z : List Value} (h : Blk w b e (zeros z cap).toArray) (hz : z.length = s) (hn : cap ≤ maxLen) (hp : Pr b) : OW Pr w e s (some ⟨b, 0, none⟩) 0 cap [] :=
  ⟨by simp, .inr ⟨b, _, rfl, hp, h, Nat.zero_le _, hn, by simp [zeros_len, hz], by simp⟩⟩
end
section
variable {P : Program} {ops : Array Oper} {Q : Exit → Act → World → Prop} {S : World → Prop} {rest : List Oper} {fuel : Nat} {lst : List Bool} {F : Fr} {D : List Deferred} {w : World}
  {d : Tmp} {ty : TypeId} {pos : String} {af : Array Edge} {e t : TypeId} {x y : Operand} {zv : Value} {s by_ n cap m c i : Nat} {A A2 : Option Addr} {us news : List Value} {Pr Pr' : Nat → Prop}
theorem Y_app2 (ht : P.underlying t = some (.slice e)) (hz : zr P e = some zv) (hs : sz P e = some s) (hb : byt P e = some by_) (hx : ev F x = some (.slice A n cap)) (hy : ev F y = some (.slice A2 m c))
    (O : OW Pr w e s A n cap us) (hl : news.length = m * s) (hsrc : Src w A2 m news) (h1 : ∀ u ∈ news, u.oneCell' = true) (hlen : n + m ≤ 1099511627776)
    (hp : ∀ k, Pr k → Pr' k) (hn : Pr' w.heap.size) (hzs : zv.cells.size = s) (h0 : 0 < s) (h9 : by_ ≤ 100) :
    ∃ A' cap' w', Yl P F (.call ⟨.builtin .append, #[x, y], #[t, t]⟩) (.slice A' (n + m) cap') w w' ∧ OW Pr' w' e s A' (n + m) cap' (us ++ news) ∧ Mod Pr w w' ∧ Mod (fun i => A = some ⟨i, 0, none⟩) w w' := by
  obtain ⟨A', cap', w', hy', ho, hm⟩ := Y_app (Pr' := fun i => A = some ⟨i, 0, none⟩ ∨ i = w.heap.size) ht hz hs hb hx hy O.self hl hsrc h1 hlen (fun _ h => .inl h) (.inr rfl) hzs h0 h9
  exact ⟨A', cap', w', hy', ho.weak (fun k hk => hk.elim (fun h => hp k (O.pr h)) (fun h => h ▸ hn)), hm.weak (fun k hk _ => O.pr hk), hm⟩
theorem S_app2 (ht : P.underlying t = some (.slice e)) (hz : zr P e = some zv) (hs : sz P e = some s) (hb : byt P e = some by_) (hx : ev F x = some (.slice A n cap)) (hy : ev F y = some (.slice A2 m c))
    (O : OW Pr w e s A n cap us) (hl : news.length = m * s) (hsrc : Src w A2 m news) (h1 : ∀ u ∈ news, u.oneCell' = true) (hlen : n + m ≤ 1099511627776)
    (hp : ∀ k, Pr k → Pr' k) (hn : Pr' w.heap.size)
    (k : ∀ A' cap' w', OW Pr' w' e s A' (n + m) cap' (us ++ news) → Mod Pr w w' → Mod (fun i => A = some ⟨i, 0, none⟩) w w' → wpList P ops Q rest ⟨(F.put d (.slice A' (n + m) cap')).list.toArray, D⟩ w') (hzs : zv.cells.size = s := by rfl) (h0 : 0 < s := by decide) (h9 : by_ ≤ 100 := by decide) :
    wpList P ops Q (⟨some d, .call ⟨.builtin .append, #[x, y], #[t, t]⟩, ty, pos, af, none⟩ :: rest) ⟨F.list.toArray, D⟩ w := by
  obtain ⟨A', cap', w', hy', ho, hm, hm2⟩ := Y_app2 ht hz hs hb hx hy O hl hsrc h1 hlen hp hn hzs h0 h9
  exact S_val hy' (k _ _ _ ho hm hm2)
theorem E_app2 (hi : ops[i]? = some ⟨some d, .call ⟨.builtin .append, #[x, y], #[t, t]⟩, ty, pos, af, none⟩) (ht : P.underlying t = some (.slice e)) (hz : zr P e = some zv) (hs : sz P e = some s) (hb : byt P e = some by_) (hx : ev F x = some (.slice A n cap)) (hy : ev F y = some (.slice A2 m c))
    (O : OW Pr w e s A n cap us) (hl : news.length = m * s) (hsrc : Src w A2 m news) (h1 : ∀ u ∈ news, u.oneCell' = true) (hlen : n + m ≤ 1099511627776)
    (hp : ∀ k, Pr k → Pr' k) (hn : Pr' w.heap.size)
    (k : ∀ A' cap' w', OW Pr' w' e s A' (n + m) cap' (us ++ news) → Mod Pr w w' → Mod (fun i => A = some ⟨i, 0, none⟩) w w' → S w' ∧ wpAnyH P .any ops Q S fuel (lst.set i true).toArray ⟨(F.put d (.slice A' (n + m) cap')).list.toArray, D⟩ w') (hzs : zv.cells.size = s := by rfl) (h0 : 0 < s := by decide) (h9 : by_ ≤ 100 := by decide) :
    dOp P ops Q S fuel lst ⟨F.list.toArray, D⟩ w i := by
  obtain ⟨A', cap', w', hy', ho, hm, hm2⟩ := Y_app2 ht hz hs hb hx hy O hl hsrc h1 hlen hp hn hzs h0 h9
  have h := k _ _ _ ho hm hm2
  exact E_val hi hy' h.1 h.2
end
section
variable {Pr Pr' Pc : Nat → Prop} {w w' : World} {eC eI : TypeId} {cs : List LC} {rs : List (Option Addr × Nat)} {s n cap : Nat} {A : Option Addr} {us : List Value}
/-- The row of cells was made longer: the rows of references are as before. -/
theorem ORs.app (h : ORs Pr w eI cs rs) (O : OW Pc w eC s A n cap us) (hne : eC ≠ eI) (m : Mod (fun i => A = some ⟨i, 0, none⟩) w w') : ORs Pr w' eI cs rs :=
  ⟨h.len, fun j x q hx hq hn => by
    obtain ⟨b, post, hA, hp, hB⟩ := h.own j x q hx hq hn
    exact ⟨b, post, hA, hp, hB.mod m (fun e0 => by
      obtain ⟨cur, hc⟩ := O.isBlk e0
      exact hc.ne hB hne rfl)⟩, h.far⟩
theorem OI.app {B : Option Addr} {xs : List Value} (h : OI Pr w eI B xs) (O : OW Pc w eC s A n cap us) (hne : eC ≠ eI) (m : Mod (fun i => A = some ⟨i, 0, none⟩) w w') : OI Pr w' eI B xs :=
  h.keep m (fun b hb hn e0 => by
    obtain ⟨cur, hc⟩ := O.isBlk e0
    obtain ⟨b', _, e1, _, hB⟩ := h hn
    rw [hb] at e1
    cases e1
    exact hc.ne hB hne rfl)
/-- One more cell. -/
theorem ORs.more {c : LC} {B : Option Addr} {q bc lo : Nat} (h : ORs Pr w eI cs rs) (hr : OW (fun i => lo ≤ i) w eI 1 B q bc (ints c.refs)) (hp : ∀ k, Pr k → k < lo) (hw : ∀ k, Pr k → Pr' k) (hl : ∀ k, lo ≤ k → Pr' k) : ORs Pr' w eI (cs ++ [c]) (rs ++ [(B, bc)]) :=
  h.snoc (hr.oi.weak hl) hw (fun k b hk hB e => by
    have h1 := hp k hk
    have h2 : lo ≤ b := hr.pr hB
    omega)
theorem flat_more {c : LC} {B : Option Addr} {bc : Nat} (h : rs.length = cs.length) : flatC cs rs ++ [.bool c.used, .int .i64 c.data, .slice B c.refs.length bc] = flatC (cs ++ [c]) (rs ++ [(B, bc)]) := by
  rw [flatC_app h]
  rfl
end
theorem rsum_le3 : ∀ (cs : List LC) (k : Nat), (∀ c ∈ cs, c.refs.length ≤ 3) → rsum cs k ≤ 3 * k
  | cs, 0, _ => by simp [rsum]
  | cs, k + 1, h => by
    have ih := rsum_le3 cs k h
    by_cases hk : k < cs.length
    · rw [rsum_succ hk]
      have := h cs[k] (List.getElem_mem hk)
      omega
    · have e : rsum cs (k + 1) = rsum cs k := by
        unfold rsum
        rw [List.take_of_length_le (by omega), List.take_of_length_le (by omega)]
      omega
theorem hsize_small {h : LH} (h1 : h.cells.length ≤ 40) (h2 : ∀ c ∈ h.cells, c.refs.length ≤ 3) (h3 : h.roots.length ≤ 4) : hsize h ≤ 200 := by
  have := rsum_le3 h.cells h.cells.length h2
  unfold hsize
  omega
theorem Valid.small {h : LH} (v : Valid h) : hsize h ≤ 200 := hsize_small v.le (fun c hc => by
  obtain ⟨n, hn, rfl⟩ := List.getElem_of_mem hc
  exact v.refs3 hn) (by rw [v.roots4]; omega)
def nilH : LH := ⟨[], []⟩
theorem OH.nil (Pr : Nat → Prop) (w : World) (eC eI : TypeId) (A B : Option Addr) : OH Pr w eC eI A B nilH [] := ⟨OC.nil _ _ _ _ _, OI.nil _ _ _ _, fun i c r h => by simp [nilH] at h⟩
end
/-! Trial -/
section
open Go
/-- The place says yes. -/
def inB (bs : List Bool) (i : Nat) : Bool := bs[i]? == some true
theorem inB_at {bs : List Bool} {k : Nat} (h : k < bs.length) : inB bs k = bs[k] := by
  unfold inB
  rw [List.getElem?_eq_getElem h]
  cases bs[k] <;> rfl
end
/-! Sweep -/
section
open Go Go.RowKit
def emptyC : LC := ⟨false, 0, []⟩
/-- The cells of p are freed. -/
def dropC (cs : List LC) (p : Nat → Bool) : List LC := (List.range cs.length).map fun k => match cs[k]? with
  | some c => if p k = true then emptyC else c
  | none => emptyC
theorem dropC_len (cs : List LC) (p : Nat → Bool) : (dropC cs p).length = cs.length := by simp [dropC]
theorem dropC_get {cs : List LC} {p : Nat → Bool} {k : Nat} (hk : k < cs.length) : (dropC cs p)[k]? = some (if p k = true then emptyC else cs[k]) := by simp [dropC, hk]
theorem dropC_at {cs : List LC} {p : Nat → Bool} {k : Nat} (hk : k < (dropC cs p).length) : (dropC cs p)[k] = if p k = true then emptyC else cs[k]'(by rw [dropC_len] at hk; exact hk) := by
  have h1 : k < cs.length := by rw [dropC_len] at hk; exact hk
  have h2 := dropC_get (p := p) h1
  rw [List.getElem?_eq_getElem hk] at h2
  exact Option.some.inj h2
theorem dropC_ext {cs : List LC} {p q : Nat → Bool} (h : ∀ (k : Nat) (hk : k < cs.length), (if p k = true then emptyC else cs[k]) = (if q k = true then emptyC else cs[k])) : dropC cs p = dropC cs q := by
  apply List.ext_getElem?
  intro i
  by_cases hi : i < cs.length
  · rw [dropC_get hi, dropC_get hi, h i hi]
  · rw [List.getElem?_eq_none (by rw [dropC_len]; omega), List.getElem?_eq_none (by rw [dropC_len]; omega)]
theorem dropC_none {cs : List LC} {p : Nat → Bool} (h : ∀ k, k < cs.length → p k = false) : dropC cs p = cs := by
  apply List.ext_getElem?
  intro i
  by_cases hi : i < cs.length
  · rw [dropC_get hi, h i hi, List.getElem?_eq_getElem hi]
    rfl
  · rw [List.getElem?_eq_none (by rw [dropC_len]; omega), List.getElem?_eq_none (by omega)]
/-- The first k cells are looked at. -/
def dropK (cs : List LC) (p : Nat → Bool) (k : Nat) : List LC := dropC cs fun i => p i && decide (i < k)
theorem dropK_len (cs : List LC) (p : Nat → Bool) (k : Nat) : (dropK cs p k).length = cs.length := dropC_len _ _
theorem dropK_zero (cs : List LC) (p : Nat → Bool) : dropK cs p 0 = cs := dropC_none (by simp)
theorem dropK_yes {cs : List LC} {p : Nat → Bool} {k : Nat} (hk : k < cs.length) (hp : p k = true) : (dropK cs p k).set k emptyC = dropK cs p (k + 1) := by
  apply List.ext_getElem?
  intro i
  rw [List.getElem?_set]
  by_cases hi : i < cs.length
  · by_cases h2 : k = i
    · subst h2
      rw [if_pos rfl, if_pos (by rw [dropK_len]; exact hk)]
      unfold dropK
      rw [dropC_get hi]
      simp [hp]
    · rw [if_neg h2]
      unfold dropK
      rw [dropC_get hi, dropC_get hi]
      have : (decide (i < k) : Bool) = decide (i < k + 1) := by
        rw [decide_eq_decide]
        omega
      rw [this]
  · rw [if_neg (by omega), List.getElem?_eq_none (by rw [dropK_len]; omega), List.getElem?_eq_none (by rw [dropK_len]; omega)]
theorem dropK_no {cs : List LC} {p : Nat → Bool} {k : Nat} (hp : p k = false) : dropK cs p (k + 1) = dropK cs p k := dropC_ext (fun i hi => by
  by_cases h2 : i = k
  · subst h2
    simp [hp]
  · have : (decide (i < k + 1) : Bool) = decide (i < k) := by
      rw [decide_eq_decide]
      omega
    rw [this])
def dropH (h : LH) (p : Nat → Bool) : LH := ⟨dropC h.cells p, h.roots⟩
theorem usedAt_drop {cs : List LC} {p : Nat → Bool} (n : Nat) : usedAt (dropC cs p) n = (usedAt cs n && !p n) := by
  by_cases hn : n < cs.length
  · unfold usedAt
    rw [dropC_get hn, List.getElem?_eq_getElem hn]
    cases hp : p n <;> simp [emptyC]
  · unfold usedAt
    rw [List.getElem?_eq_none (by rw [dropC_len]; omega), List.getElem?_eq_none (by omega)]
    rfl
theorem refsOf_drop {cs : List LC} {p : Nat → Bool} (n : Nat) : refsOf (dropC cs p) n = if p n = true then [] else refsOf cs n := by
  by_cases hn : n < cs.length
  · unfold refsOf
    rw [dropC_get hn, List.getElem?_eq_getElem hn]
    cases hp : p n <;> simp [emptyC]
  · unfold refsOf
    rw [List.getElem?_eq_none (by rw [dropC_len]; omega), List.getElem?_eq_none (by omega)]
    simp
theorem leadsB_drop {cs : List LC} {p : Nat → Bool} {r : Int} (hr : leadsB cs r = true) : leadsB (dropC cs p) r = true ↔ ¬ (0 ≤ r ∧ p r.toNat = true) := by
  unfold leadsB at *
  rw [usedAt_drop]
  by_cases h0 : 0 ≤ r
  · have h1 : ¬ r = -1 := by omega
    simp only [h1, h0, decide_false, decide_true, Bool.false_or, Bool.true_and] at hr ⊢
    rw [hr]
    cases p r.toNat <;> simp
  · simp only [h0, decide_false, Bool.false_and, Bool.or_false, decide_eq_true_eq] at hr ⊢
    simp [hr]
/-- No root, and no cell that stays, refers to a cell that is freed. -/
def Keeps (h : LH) (p : Nat → Bool) : Prop := (∀ r ∈ h.roots, ¬ (0 ≤ r ∧ p r.toNat = true)) ∧ ∀ n, p n = false → ∀ r ∈ refsOf h.cells n, ¬ (0 ≤ r ∧ p r.toNat = true)
theorem emptyC_ok (cs : List LC) : okP cs emptyC := ⟨fun h => (by cases h), fun _ => ⟨rfl, rfl⟩⟩
theorem valid_drop {h : LH} (v : Valid h) (p : Nat → Bool) : validB (dropH h p) = true ↔ Keeps h p := by
  rw [valid_iff]
  constructor
  · intro vd
    refine ⟨fun r hr => (leadsB_drop (v.roots r hr)).1 (vd.roots r hr), fun n hn r hr => ?_⟩
    have h1 := v.leadsU.2 n r hr
    have h2 := vd.leadsU.2 n r (by show r ∈ refsOf (dropC h.cells p) n; rw [refsOf_drop, if_neg (by simp [hn])]; exact hr)
    exact (leadsB_drop h1).1 h2
  · intro k
    refine ⟨by show (dropC h.cells p).length ≤ 40; rw [dropC_len]; exact v.le, v.roots4, fun n hn => ?_, fun r hr => (leadsB_drop (v.roots r hr)).2 (k.1 r hr)⟩
    have hn2 : n < (dropC h.cells p).length := hn
    have hn' : n < h.cells.length := by rwa [dropC_len] at hn2
    show okP (dropC h.cells p) ((dropC h.cells p)[n]'hn2)
    rw [dropC_at]
    split
    · exact emptyC_ok _
    · rename_i hp
      have ho := v.cells n hn'
      refine ⟨fun hu => ?_, ho.2⟩
      obtain ⟨h1, h2⟩ := ho.1 hu
      refine ⟨List.all_eq_true.2 fun r hr => ?_, h2⟩
      exact (leadsB_drop (List.all_eq_true.1 h1 r hr)).2 (k.2 n (by simpa using hp) r (by rw [refsOf_at hn']; exact hr))
/-- What was freed: how many of the first k. -/
def cntP (p : Nat → Bool) (k : Nat) : Nat := (List.range k).countP p
theorem cntP_yes {p : Nat → Bool} {k : Nat} (h : p k = true) : cntP p (k + 1) = cntP p k + 1 := by simp [cntP, List.range_succ, h]
theorem cntP_no {p : Nat → Bool} {k : Nat} (h : p k = false) : cntP p (k + 1) = cntP p k := by simp [cntP, List.range_succ, h]
theorem cntP_le (p : Nat → Bool) (k : Nat) : cntP p k ≤ k := by
  have := List.countP_le_length (p := p) (l := List.range k)
  simpa [cntP] using this
theorem cntP_congr {p q : Nat → Bool} {k : Nat} (h : ∀ i, i < k → p i = q i) : cntP p k = cntP q k := by
  unfold cntP
  apply List.countP_congr
  intro i hi
  rw [h i (by simpa using hi)]
theorem any_take {α : Type} {p : α → Bool} {xs : List α} {i : Nat} {x : α} (hx : xs[i]? = some x) (h : (xs.take i).any p = false) (hp : p x = false) : (xs.take (i + 1)).any p = false := by
  obtain ⟨hl, he⟩ := List.getElem?_eq_some_iff.1 hx
  rw [List.take_succ_eq_append_getElem hl, List.any_append, h, he]
  simp [hp]
def sweepP (ms : List Bool) (i : Nat) : Bool := !inB ms i
def sweepN (h : LH) (ms : List Bool) (i : Nat) : Bool := usedAt h.cells i && sweepP ms i
def sweepOk (h : LH) (ms : List Bool) : Bool := validB h && (decide (ms.length = h.cells.length) && validB (dropH h (sweepP ms)))
/-- Sweeping: the heap, and how many were freed. -/
def sweepV (h : LH) (ms : List Bool) : LH × Int := if sweepOk h ms = true then (dropH h (sweepP ms), ((cntP (sweepN h ms) h.cells.length : Nat) : Int)) else (nilH, -1)
theorem sweepV_t {h : LH} {ms : List Bool} (h1 : validB h = true) (h2 : ms.length = h.cells.length) (h3 : validB (dropH h (sweepP ms)) = true) : sweepV h ms = (dropH h (sweepP ms), ((cntP (sweepN h ms) h.cells.length : Nat) : Int)) := if_pos (by simp [sweepOk, h1, h2, h3])
theorem sweepV_f1 {h : LH} {ms : List Bool} (h1 : validB h = false) : sweepV h ms = (nilH, -1) := if_neg (by simp [sweepOk, h1])
theorem sweepV_f2 {h : LH} {ms : List Bool} (h1 : ¬ ms.length = h.cells.length) : sweepV h ms = (nilH, -1) := if_neg (by simp [sweepOk, h1])
theorem sweepV_f3 {h : LH} {ms : List Bool} (h1 : validB (dropH h (sweepP ms)) = false) : sweepV h ms = (nilH, -1) := if_neg (by simp [sweepOk, h1])
theorem drop_small {h : LH} (v : Valid h) (p : Nat → Bool) : hsize (dropH h p) ≤ 200 := hsize_small (by show (dropC h.cells p).length ≤ 40; rw [dropC_len]; exact v.le) (fun c hc => by
  obtain ⟨n, hn, rfl⟩ := List.getElem_of_mem hc
  have hn' : n < (dropC h.cells p).length := hn
  show (dropC h.cells p)[n].refs.length ≤ 3
  rw [dropC_at]
  split
  · simp [emptyC]
  · exact v.refs3 (by rw [dropC_len] at hn'; exact hn')) (by show h.roots.length ≤ 4; rw [v.roots4]; omega)
theorem reachV_le (h : LH) : (reachV h).length ≤ h.cells.length := by
  cases hv : validB h with
  | true => rw [reachV_len hv]; exact Nat.le_refl _
  | false => rw [reachV_f hv]; simp
theorem bools_app (s : List Bool) (x : Bool) : bools s ++ [.bool x] = bools (s ++ [x]) := by simp [bools]
theorem inB_not {ms : List Bool} {i : Nat} (h : i < ms.length) : inB (ms.map (fun b => !b)) i = !inB ms i := by
  unfold inB
  rw [List.getElem?_map, List.getElem?_eq_getElem h]
  cases ms[i] <;> rfl
theorem drop_not {h : LH} {ms : List Bool} (hl : ms.length = h.cells.length) : dropH h (inB (ms.map (fun b => !b))) = dropH h (sweepP ms) := by
  unfold dropH
  exact congrArg (LH.mk · h.roots) (dropC_ext (fun k hk => by rw [inB_not (by omega)]; rfl))
section
variable {Pr Pr' S : Nat → Prop} {w w' : World} {e eC eI : TypeId} {cs : List LC} {rs : List (Option Addr × Nat)} {A B : Option Addr}
theorem flat_split {k : Nat} {c : LC} {r : Option Addr × Nat} {post : List Value} (hl : rs.length = cs.length) (hc : cs[k]? = some c) (hr : rs[k]? = some r) :
    flatC cs rs ++ post = flatC (cs.take k) (rs.take k) ++ [.bool c.used, .int .i64 c.data, .slice r.1 c.refs.length r.2] ++ (flatC (cs.drop (k + 1)) (rs.drop (k + 1)) ++ post) := by
  rw [flatC_at hl hc hr, List.append_assoc]
theorem flat_put {k : Nat} {c : LC} {r : Option Addr × Nat} {post : List Value} (hl : rs.length = cs.length) (hk : k < cs.length) :
    flatC (cs.take k) (rs.take k) ++ [.bool c.used, .int .i64 c.data, .slice r.1 c.refs.length r.2] ++ (flatC (cs.drop (k + 1)) (rs.drop (k + 1)) ++ post) = flatC (cs.set k c) (rs.set k r) ++ post := by
  have h := flat_split (cs := cs.set k c) (rs := rs.set k r) (k := k) (c := c) (r := r) (post := post) (by simp [hl]) (by simp [hk]) (by simp [hl, hk])
  rw [h, List.take_set_of_le (Nat.le_refl _), List.drop_set_of_lt (by omega), List.take_set_of_le (Nat.le_refl _), List.drop_set_of_lt (by omega)]
/-- A cell becomes one without references. -/
theorem ORs.free (h : ORs Pr w e cs rs) (k : Nat) {c : LC} (hc : c.refs = []) (r : Option Addr × Nat) : ORs Pr w e (cs.set k c) (rs.set k r) := by
  refine ⟨by simp [h.len], fun j x q hx hq => ?_, fun i j x y q q' hx hy hq hq' hij h1 h2 => ?_⟩
  · rcases set_get hx with ⟨e1, e2⟩ | ⟨hij, hx⟩
    · rw [e2, hc]; exact OI.nil _ _ _ _
    · rcases set_get hq with ⟨e1, _⟩ | ⟨_, hq⟩
      · exact absurd e1 hij
      · exact h.own j x q hx hq
  · rcases set_get hx with ⟨e1, e2⟩ | ⟨hi, hx⟩
    · exact absurd (by rw [e2, hc]) h1
    · rcases set_get hy with ⟨e1, e2⟩ | ⟨hj, hy⟩
      · exact absurd (by rw [e2, hc]) h2
      · rcases set_get hq with ⟨e1, _⟩ | ⟨_, hq⟩
        · exact absurd e1 hi
        · rcases set_get hq' with ⟨e1, _⟩ | ⟨_, hq'⟩
          · exact absurd e1 hj
          · exact h.far i j x y q q' hx hy hq hq' hij h1 h2
theorem OI.modT {g : Nat} {arr us : List Value} (h : OI Pr w e A us) (B : Blk w g eC arr.toArray) (hne : eC ≠ e) (m : Mod (fun i => i = g) w w') : OI Pr w' e A us := h.keep m (fun b hb hn e0 => by
  obtain ⟨b', _, e1, _, hB⟩ := h hn
  rw [hb] at e1
  cases e1
  subst e0
  exact B.ne hB hne rfl)
/-- What cells with references are left lie where they lay. -/
def SubC (cs' : List LC) (rs' : List (Option Addr × Nat)) (cs : List LC) (rs : List (Option Addr × Nat)) : Prop := ∀ (i : Nat) (c : LC) (r : Option Addr × Nat), cs'[i]? = some c → rs'[i]? = some r → c.refs ≠ [] → cs[i]? = some c ∧ rs[i]? = some r
theorem SubC.refl (cs : List LC) (rs : List (Option Addr × Nat)) : SubC cs rs cs rs := fun _ _ _ h1 h2 _ => ⟨h1, h2⟩
theorem SubC.free {cs' : List LC} {rs' : List (Option Addr × Nat)} (h : SubC cs' rs' cs rs) (k : Nat) (c : LC) (hc : c.refs = []) (r : Option Addr × Nat) : SubC (cs'.set k c) (rs'.set k r) cs rs := fun i x q hx hq hn => by
  rcases set_get hx with ⟨_, e2⟩ | ⟨hi, hx⟩
  · exact absurd (by rw [e2, hc]) hn
  · rcases set_get hq with ⟨e1, _⟩ | ⟨_, hq⟩
    · exact absurd e1 hi
    · exact h i x q hx hq hn
theorem SubC.cast {cs' cs2 : List LC} {rs' : List (Option Addr × Nat)} (h : SubC cs' rs' cs rs) (e : cs' = cs2) : SubC cs2 rs' cs rs := e ▸ h
theorem OC.cast {cs2 : List LC} (h : OC Pr w eC eI A cs rs) (e : cs = cs2) : OC Pr w eC eI A cs2 rs := e ▸ h
end
structure RSs (Pr : Nat → Prop) (w : World) (L : List (List Int)) (rs : List (Option Addr × Nat)) : Prop where
  len : rs.length = L.length
  r1 : ∀ (i : Nat) (xs : List Int) (r : Option Addr × Nat), L[i]? = some xs → rs[i]? = some r → R1 Pr w r.1 (ints xs)
section
variable {Pr S : Nat → Prop} {w w' : World} {L : List (List Int)} {rs : List (Option Addr × Nat)}
theorem RSs.mod (h : RSs Pr w L rs) (m : Mod S w w') (hd : ∀ k, Pr k → ¬ S k) : RSs Pr w' L rs := ⟨h.len, fun i x r h1 h2 => (h.r1 i x r h1 h2).mod m hd⟩
theorem RSs.md (h : RSs Pr w L rs) (m : Mod S w w') (hd : ∀ k, Pr k → ¬ S k := by intro k hk h; first | omega | (dsimp only at hk h; omega) | (dsimp only at hk; omega)) : RSs Pr w' L rs := h.mod m hd
theorem RSs.grow (h : RSs Pr w L rs) (m : Grow w w') : RSs Pr w' L rs := h.mod m (fun _ _ h => h)
theorem RSs.snoc (h : RSs Pr w L rs) {A : Option Addr} {xs : List Int} {c : Nat} (hA : R1 Pr w A (ints xs)) : RSs Pr w (L ++ [xs]) (rs ++ [(A, c)]) := ⟨by simp [h.len], fun i x r h1 h2 => by
  have hl := h.len
  by_cases hi : i < L.length
  · rw [List.getElem?_append_left hi] at h1
    rw [List.getElem?_append_left (by omega)] at h2
    exact h.r1 i x r h1 h2
  · have hlt := (List.getElem?_eq_some_iff.1 h1).1
    simp only [List.length_append, List.length_cons, List.length_nil] at hlt
    have e0 : i = L.length := by omega
    subst e0
    rw [List.getElem?_append_right (Nat.le_refl _)] at h1
    rw [List.getElem?_append_right (by omega)] at h2
    simp at h1
    simp [hl] at h2
    subst h1
    subst h2
    exact hA⟩
end
section
variable {P : Program} {ops : Array Oper} {Q : Exit → Act → World → Prop} {S : World → Prop} {rest : List Oper} {fuel : Nat} {lst : List Bool} {F : Fr} {D : List Deferred} {w : World}
  {d : Tmp} {ty : TypeId} {pos : String} {af : Array Edge} {e t : TypeId} {x y : Operand} {zv : Value} {s by_ cap m c i : Nat} {A A2 : Option Addr} {news : List Value} {Pr Pr' : Nat → Prop}
/-- Append to a slice that has no element. -/
theorem S_app0 (ht : P.underlying t = some (.slice e)) (hz : zr P e = some zv) (hs : sz P e = some s) (hb : byt P e = some by_) (hx : ev F x = some (.slice A 0 cap)) (hy : ev F y = some (.slice A2 m c))
    (O : OW Pr w e s A 0 cap []) (hl : news.length = m * s) (hsrc : Src w A2 m news) (h1 : ∀ u ∈ news, u.oneCell' = true) (hlen : m ≤ 1099511627776)
    (hp : ∀ k, Pr k → Pr' k) (hn : Pr' w.heap.size)
    (k : ∀ A' cap' w', OW Pr' w' e s A' m cap' news → Mod Pr w w' → wpList P ops Q rest ⟨(F.put d (.slice A' m cap')).list.toArray, D⟩ w') (hzs : zv.cells.size = s := by rfl) (h0 : 0 < s := by decide) (h9 : by_ ≤ 100 := by decide) :
    wpList P ops Q (⟨some d, .call ⟨.builtin .append, #[x, y], #[t, t]⟩, ty, pos, af, none⟩ :: rest) ⟨F.list.toArray, D⟩ w := by
  refine S_app ht hz hs hb hx hy O hl hsrc h1 (by omega) hp hn (fun A' cap' w' o mm => ?_) hzs h0 h9
  rw [List.nil_append] at o
  have h := k A' cap' w'
  rw [Nat.zero_add] at o ⊢
  exact h o mm
theorem E_app0 (hi : ops[i]? = some ⟨some d, .call ⟨.builtin .append, #[x, y], #[t, t]⟩, ty, pos, af, none⟩) (ht : P.underlying t = some (.slice e)) (hz : zr P e = some zv) (hs : sz P e = some s) (hb : byt P e = some by_) (hx : ev F x = some (.slice A 0 cap)) (hy : ev F y = some (.slice A2 m c))
    (O : OW Pr w e s A 0 cap []) (hl : news.length = m * s) (hsrc : Src w A2 m news) (h1 : ∀ u ∈ news, u.oneCell' = true) (hlen : m ≤ 1099511627776)
    (hp : ∀ k, Pr k → Pr' k) (hn : Pr' w.heap.size)
    (k : ∀ A' cap' w', OW Pr' w' e s A' m cap' news → Mod Pr w w' → S w' ∧ wpAnyH P .any ops Q S fuel (lst.set i true).toArray ⟨(F.put d (.slice A' m cap')).list.toArray, D⟩ w') (hzs : zv.cells.size = s := by rfl) (h0 : 0 < s := by decide) (h9 : by_ ≤ 100 := by decide) :
    dOp P ops Q S fuel lst ⟨F.list.toArray, D⟩ w i := by
  refine E_app hi ht hz hs hb hx hy O hl hsrc h1 (by omega) hp hn (fun A' cap' w' o mm => ?_) hzs h0 h9
  rw [List.nil_append] at o
  have h := k A' cap' w'
  rw [Nat.zero_add] at o ⊢
  exact h o mm
end
end
/-! Of -/
section
open Go Go.RowKit
/-- The cells that a list of numbers tells, one after the other. -/
def parseF : Nat → List Int → Option (List LC)
  | _, [] => some []
  | _, [_] => none
  | 0, _ :: _ :: _ => none
  | f + 1, d :: n :: r => if 0 ≤ n ∧ n ≤ (r.length : Int) then (parseF f (r.drop n.toNat)).map (⟨true, d, r.take n.toNat⟩ :: ·) else none
theorem parseF_eq : ∀ (f g : Nat) (xs : List Int), xs.length ≤ f → xs.length ≤ g → parseF f xs = parseF g xs
  | _, _, [], _, _ => by simp [parseF]
  | _, _, [_], _, _ => by simp [parseF]
  | 0, _, _ :: _ :: _, h, _ => by simp at h
  | _ + 1, 0, _ :: _ :: _, _, h => by simp at h
  | f + 1, g + 1, d :: n :: r, h1, h2 => by
    simp only [List.length_cons] at h1 h2
    unfold parseF
    split
    · rw [parseF_eq f g (r.drop n.toNat) (by rw [List.length_drop]; omega) (by rw [List.length_drop]; omega)]
    · rfl
def parse (xs : List Int) : Option (List LC) := parseF xs.length xs
theorem parse_cons {d : Int} {m : Nat} {r : List Int} (h : m ≤ r.length) : parse (d :: (m : Int) :: r) = (parse (r.drop m)).map (⟨true, d, r.take m⟩ :: ·) := by
  have e : (d :: (m : Int) :: r).length = (r.length + 1) + 1 := rfl
  show parseF (d :: (m : Int) :: r).length (d :: (m : Int) :: r) = _
  rw [e]
  show (if 0 ≤ (m : Int) ∧ (m : Int) ≤ (r.length : Int) then (parseF (r.length + 1) (r.drop (m : Int).toNat)).map (⟨true, d, r.take (m : Int).toNat⟩ :: ·) else none) = _
  rw [if_pos (by omega), Int.toNat_natCast]
  unfold parse
  rw [parseF_eq (r.length + 1) (r.drop m).length _ (by rw [List.length_drop]; omega) (Nat.le_refl _)]
section
variable {xs : List Int} {p : Nat}
theorem drop_two (h : p + 1 < xs.length) : xs.drop p = xs[p] :: xs[p + 1] :: xs.drop (p + 2) := by
  rw [List.drop_eq_getElem_cons (by omega), List.drop_eq_getElem_cons h]
theorem parse_at (h : p + 1 < xs.length) {m : Nat} (hm : xs[p + 1] = (m : Int)) (hl : p + 2 + m ≤ xs.length) : parse (xs.drop p) = (parse (xs.drop (p + 2 + m))).map (⟨true, xs[p], (xs.drop (p + 2)).take m⟩ :: ·) := by
  rw [drop_two h, hm, parse_cons (by rw [List.length_drop]; omega), List.drop_drop]
/-- The cells cs were read, up to the place p. -/
def PI (xs : List Int) (cs : List LC) (p : Nat) : Prop := parse (xs.drop 4) = (parse (xs.drop p)).map (cs ++ ·)
theorem PI.start (xs : List Int) : PI xs [] 4 := by
  unfold PI
  cases parse (xs.drop 4) <;> simp
variable {cs : List LC}
theorem PI.next (hp : PI xs cs p) (h : p + 1 < xs.length) {m : Nat} (hm : xs[p + 1] = (m : Int)) (hl : p + 2 + m ≤ xs.length) : PI xs (cs ++ [⟨true, xs[p], (xs.drop (p + 2)).take m⟩]) (p + 2 + m) := by
  unfold PI at *
  rw [hp, parse_at h hm hl]
  cases parse (xs.drop (p + 2 + m)) <;> simp
end
theorem Yl.eq {P : Program} {F : Fr} {op : Op} {v v' : Value} {w w' : World} (e : v = v') (h : Yl P F op v w w') : Yl P F op v' w w' := e ▸ h
/-- How long a slice is. -/
def slen : Value → Nat
  | .slice _ n _ => n
  | _ => 0
section
variable {Pr : Nat → Prop} {w : World} {A : Option Addr} {xs : List Int} {p n m cap : Nat}
theorem ints_drop (xs : List Int) (k : Nat) : (ints xs).drop k = ints (xs.drop k) := by simp [ints]
theorem ints_take (xs : List Int) (k : Nat) : (ints xs).take k = ints (xs.take k) := by simp [ints]
theorem R1.sub (h : R1 Pr w A (ints (xs.drop p))) (hl : p + n = xs.length) (hm : 2 + m ≤ n) (hc : n ≤ cap) : ∃ A', sliced A 2 (2 + m) cap 1 = .slice A' ((xs.drop (p + 2)).take m).length (cap - 2) ∧ R1 Pr w A' (ints ((xs.drop (p + 2)).take m)) := by
  obtain ⟨A', e, hr⟩ := h.part (cap := cap) (j := 2) (k := 2 + m) (by omega) (by omega)
  refine ⟨A', ?_, ?_⟩
  · rw [e, List.length_take, List.length_drop, show min m (xs.length - (p + 2)) = 2 + m - 2 by omega]
  · rw [ints_take, ints_drop] at hr
    rw [List.drop_take, List.drop_drop, show 2 + m - 2 = m by omega] at hr
    exact hr
theorem R1.rest {j : Nat} (h : R1 Pr w A (ints (xs.drop p))) (hl : p + n = xs.length) (hm : j ≤ n) (hc : n ≤ cap) : ∃ A', sliced A j n cap 1 = .slice A' (n - j) (cap - j) ∧ R1 Pr w A' (ints (xs.drop (p + j))) := by
  obtain ⟨A', e, hr⟩ := h.part (cap := cap) (j := j) (k := n) (by omega) (by omega)
  refine ⟨A', e, ?_⟩
  rw [ints_take, ints_drop, List.drop_take, List.drop_drop] at hr
  rw [List.take_of_length_le (by rw [List.length_drop]; omega)] at hr
  exact hr
end
end
/-! WalkDr -/
section
open Go Go.RowKit
attribute [local irreducible] wpList wpAnyH Code.wp dOp
/-- A reader at the place p. -/
def Rd (w : World) (bR p : Nat) : Prop := ∃ (AR : Option Addr) (bs : List Int) (cR : Nat), Blk w bR 118 [.slice AR bs.length cR, .int .i64 (p : Int)].toArray ∧ R1 (fun k => k < bR) w AR (u8s bs) ∧ (∀ x ∈ bs, 0 ≤ x ∧ x ≤ 255) ∧ bs.length ≤ 2000
theorem Rd.mod {S : Nat → Prop} {w w' : World} {bR p : Nat} (h : Rd w bR p) (m : Mod S w w') (hn : ∀ k, k ≤ bR → ¬ S k) : Rd w' bR p := by
  obtain ⟨AR, bs, cR, h1, h2, h3, h4⟩ := h
  exact ⟨AR, bs, cR, h1.mod m (hn _ (Nat.le_refl _)), h2.mod m (fun k hk => hn k (Nat.le_of_lt hk)), h3, h4⟩
theorem Rd.md {S : Nat → Prop} {w w' : World} {bR p : Nat} (h : Rd w bR p) (m : Mod S w w') (hn : ∀ k, k ≤ bR → ¬ S k := by intro k hk h; first | omega | (dsimp only at h; omega)) : Rd w' bR p := h.mod m hn
theorem Rd.grow {w w' : World} {bR p : Nat} (h : Rd w bR p) (m : Grow w w') : Rd w' bR p := h.mod m (fun _ _ h => h)
theorem Rd.lt {w : World} {bR p : Nat} (h : Rd w bR p) : bR < w.heap.size := by
  obtain ⟨AR, bs, cR, h1, h2, h3, h4⟩ := h
  exact h1.lt
theorem R1.takeU {Pr : Nat → Prop} {w : World} {A : Option Addr} {us : List Value} {k : Nat} (h : R1 Pr w A us) : R1 Pr w A (us.take k) := fun i u hu => by
  have hl := (List.getElem?_eq_some_iff.1 hu).1
  rw [List.length_take] at hl
  rw [List.getElem?_take, if_pos (by omega)] at hu
  exact h i u hu
set_option maxHeartbeats 400000 in
set_option maxRecDepth 20000 in
theorem spec_l20Open_c (Pr : Nat → Prop) (A : Option Addr) (xs : List Int) (c : Nat) (w : World) (hA : R1 Pr w A (u8s xs)) (hx : xs.length ≤ 1048576) (hc : xs.length ≤ c) (hr : ∀ x ∈ xs, 0 ≤ x ∧ x ≤ 255) :
    Calls Try.prog 67 #[.slice A xs.length c] w (Ret fun v w' => ∃ b, v = .pointer (some ⟨b, 0, none⟩) ∧ w.heap.size ≤ b ∧ Rd w' b 0 ∧ Grow w w') := by
 have hAl := hA.below
 refine enter Try.func67 rfl Try.ntmps67 (L := [_,_,_,_,_,_,_,_,_,_,_]) rfl ?_
 have G := Mod.refl No w
 have hAl0 := hAl
 refine wp_seq_k fun K1 hK1 => ?_
 refine Sb 11 rfl ?_  -- 0
 refine S_val (Y_assign rfl) ?_
 refine S_nl rfl rfl ?_
 refine th_n (hK1 _ _ ?_)
 clear hK1 K1
 refine wp_seq_k fun K2 hK2 => ?_
 refine wp_seq_k fun K3 hK3 => ?_
 refine Sb 11 rfl ?_  -- 1
 refine S_val (Y_move rfl) ?_
 refine S_val (Y_len Try.underlying39 rfl) ?_
 refine S_val (Y_gtr rfl rfl) ?_
 refine S_nl rfl rfl ?_
 refine th_n (hK3 _ _ ?_)
 clear hK3 K3
 refine S_if rfl (fun hb1 => ?_) (fun hb1 => ?_)  -- c1
 · -- c1T
  replace hb1 := nb_tt hb1
  refine Sb 11 rfl ?_  -- 2
  refine S_val (Y_move rfl) ?_
  refine S_val (Y_sliceH Try.underlying39 sz5 rfl (j := 2000) rfl (by omega)) ?_
  refine S_val (Y_assign rfl) ?_
  refine S_nl rfl rfl ?_
  refine th_n (hK2 _ _ ?_)
  clear hK2 K2
  refine wp_seq_k fun K4 hK4 => ?_
  refine Sb 11 rfl ?_  -- 3
  refine S_val (Y_move rfl) ?_
  refine S_val (Y_build (cs := [_, _]) zr118 pc118 rfl rfl) ?_
  refine S_box (cs := [_, _]) rfl rfl ?_
  intro b1 w1 fb1 g1 B1
  have lb1 := B1.lt
  replace hAl := hAl.grow g1
  replace G := G.grow g1
  have zg1 := g1.size
  refine S_val (Y_assign rfl) ?_
  refine S_nl rfl rfl ?_
  refine th_n (hK4 _ _ ?_)
  clear hK4 K4
  refine wp_ret ?_
  refine ret_r1 rfl rfl ?_  -- r1
  have hAt := (hAl.takeU (k := 2000)).weak (Pr' := fun k => k < b1) (fun k hk => by omega)
  rw [show (u8s xs).take 2000 = u8s (xs.take 2000) by simp [u8s]] at hAt
  exact ⟨_, rfl, by omega, ⟨A, xs.take 2000, c, Blk.eq B1 (by rw [List.length_take, Nat.min_eq_left (by omega)]; rfl), hAt, fun x hx => hr x (List.mem_of_mem_take hx), by rw [List.length_take]; omega⟩, G⟩
 · -- c1F
  replace hb1 := nb_tf hb1
  refine wp_skip ?_
  refine th_n (hK2 _ _ ?_)
  clear hK2 K2
  refine wp_seq_k fun K5 hK5 => ?_
  refine Sb 11 rfl ?_  -- 3
  refine S_val (Y_move rfl) ?_
  refine S_val (Y_build (cs := [_, _]) zr118 pc118 rfl rfl) ?_
  refine S_box (cs := [_, _]) rfl rfl ?_
  intro b2 w2 fb2 g2 B2
  have lb2 := B2.lt
  replace hAl := hAl.grow g2
  replace G := G.grow g2
  have zg2 := g2.size
  refine S_val (Y_assign rfl) ?_
  refine S_nl rfl rfl ?_
  refine th_n (hK5 _ _ ?_)
  clear hK5 K5
  refine wp_ret ?_
  refine ret_r1 rfl rfl ?_  -- r2
  exact ⟨_, rfl, by omega, ⟨A, xs, c, B2, hAl.weak (fun k hk => by omega), hr, by omega⟩, G⟩
set_option maxHeartbeats 400000 in
set_option maxRecDepth 20000 in
theorem spec_l20Rd_pick_c (bR p : Nat) (n : Int) (w : World) (RD : Rd w bR p) (hp : p ≤ 1000000) (hn : n ≤ 9223372036854775807) :
    Calls Try.prog 69 #[.pointer (some ⟨bR, 0, none⟩), .int .i64 n] w (Ret fun v w' => ∃ k : Nat, v = .int .i64 (k : Int) ∧ (1 ≤ n → (k : Int) < n) ∧ Rd w' bR (p + 1) ∧ Mod (fun i => i = bR) w w') := by
 obtain ⟨AR, bs, cR, BR, hS, hbs, hbl⟩ := RD
 refine enter Try.func69 rfl Try.ntmps69 (L := [_,_,_,_,_,_,_,_,_,_,_,_,_,_,_,_,_,_,_,_,_,_,_,_,_,_,_,_,_,_,_,_,_,_,_,_,_,_,_,_,_,_,_,_,_,_,_,_,_,_,_,_,_,_,_,_,_,_,_,_,_,_,_,_,_,_,_,_,_,_,_,_,_,_,_,_,_,_,_,_,_,_,_,_,_,_,_,_,_,_,_,_,_,_,_,_,_,_,_]) rfl ?_
 have G := Mod.refl (fun i => i = bR) w
 refine wp_seq_k fun K1 hK1 => ?_
 refine Sb 99 rfl ?_  -- 0
 refine S_val (Y_assign rfl) ?_
 refine S_nl rfl rfl ?_
 refine th_n (hK1 _ _ ?_)
 clear hK1 K1
 refine wp_seq_k fun K2 hK2 => ?_
 refine Sb 99 rfl ?_  -- 1
 refine S_val (Y_move rfl) ?_
 refine S_val (Y_move rfl) ?_
 refine S_val (Y_nil rfl) ?_
 refine S_val (Y_field Try.underlying118 rfl fz118_1 (by decide) rfl) ?_
 refine S_val (Y_load Try.underlying3 rfl rfl (BR.at (by rfl))) ?_  -- l1
 refine S_val (Y_add (c := ((p + 1 : Nat) : Int)) rfl rfl (by omega) (by omega) (by omega)) ?_
 refine S_val (Y_nil rfl) ?_
 refine S_val (Y_field Try.underlying118 rfl fz118_1 (by decide) rfl) ?_
 refine S_stM (pre := [_]) (old := [_]) (post := []) (vs := [_]) sz3 rfl rfl rfl (by first | rfl | assumption) BR rfl rfl ?_
 intro w1 m1 X1
 replace BR := Blk.eq (ys := [_, _]) X1 rfl
 clear X1
 replace G := Mod.trans' G m1 (fun _ h _ => h) (fun i h hl => by first | exact h | omega | (dsimp only at h; omega))
 replace hS := hS.md m1
 have zm1 := m1.size
 refine S_nl rfl rfl ?_
 refine th_n (hK2 _ _ ?_)
 clear hK2 K2
 refine wp_seq_k fun K3 hK3 => ?_
 refine wp_seq_k fun K4 hK4 => ?_
 refine Sb 99 rfl ?_  -- 2
 refine S_val (Y_move rfl) ?_
 refine S_val (Y_lss rfl rfl) ?_
 refine S_val (Y_move rfl) ?_
 refine S_g 17 rfl (fun hb1 => ?_) (fun hb1 => ?_)  -- g1
 · -- g1T
  replace hb1 := nb_tt hb1
  refine S_off rfl rfl ?_
  refine S_off rfl rfl ?_
  refine S_off rfl rfl ?_
  refine S_off rfl rfl ?_
  refine S_off rfl rfl ?_
  refine S_off rfl rfl ?_
  refine S_val (Y_pickT rfl rfl) ?_
  refine S_nl rfl rfl ?_
  refine th_n (hK4 _ _ ?_)
  clear hK4 K4
  refine S_ifT rfl ?_
  refine wp_seq_k fun K5 hK5 => ?_
  refine Sb 99 rfl ?_  -- 3
  refine S_val (Y_assign rfl) ?_
  refine S_nl rfl rfl ?_
  refine th_n (hK5 _ _ ?_)
  clear hK5 K5
  refine wp_ret ?_
  refine th_r ?_
  clear hK3 K3
  refine ret_r1 rfl rfl ?_  -- r1
  exact ⟨0, rfl, fun h => absurd h (by omega), ⟨_, bs, cR, BR, hS, hbs, hbl⟩, G⟩
 · -- g1F
  replace hb1 := nb_tf hb1
  refine S_on rfl rfl ?_
  refine S_val (Y_move rfl) ?_
  refine S_on rfl rfl ?_
  refine S_val (Y_nil rfl) ?_
  refine S_on rfl rfl ?_
  refine S_val (Y_field Try.underlying118 rfl fz118_0 (by decide) rfl) ?_
  refine S_on rfl rfl ?_
  refine S_val (Y_load Try.underlying39 rfl rfl (BR.at (by rfl))) ?_  -- l2
  refine S_on rfl rfl ?_
  refine S_val (Y_len Try.underlying39 rfl) ?_
  refine S_on rfl rfl ?_
  refine S_val (Y_eql rfl rfl) ?_
  refine S_val (Y_pickF rfl rfl) ?_
  refine S_nl rfl rfl ?_
  refine th_n (hK4 _ _ ?_)
  clear hK4 K4
  refine S_if rfl (fun hb2 => ?_) (fun hb2 => ?_)  -- c1
  · -- c1T
   first | with_reducible (replace hb2 := nb_nt hb2) | with_reducible (replace hb2 := nb_tt hb2) | with_reducible (replace hb2 := nb_bt hb2) | skip
   refine wp_seq_k fun K6 hK6 => ?_
   refine Sb 99 rfl ?_  -- 3
   refine S_val (Y_assign rfl) ?_
   refine S_nl rfl rfl ?_
   refine th_n (hK6 _ _ ?_)
   clear hK6 K6
   refine wp_ret ?_
   refine th_r ?_
   clear hK3 K3
   refine ret_r1 rfl rfl ?_  -- r2
   exact ⟨0, rfl, fun h => by omega, ⟨_, bs, cR, BR, hS, hbs, hbl⟩, G⟩
  · -- c1F
   first | with_reducible (replace hb2 := nb_nf hb2) | with_reducible (replace hb2 := nb_tf hb2) | with_reducible (replace hb2 := nb_bf hb2) | skip
   have h0 : 0 < bs.length := by omega
   refine wp_skip ?_
   refine th_n (hK3 _ _ ?_)
   clear hK3 K3
   refine wp_seq_k fun K7 hK7 => ?_
   refine Sb 99 rfl ?_  -- 4
   refine S_val (Y_move rfl) ?_
   refine S_val (Y_nil rfl) ?_
   refine S_val (Y_field Try.underlying118 rfl fz118_1 (by decide) rfl) ?_
   refine S_val (Y_load Try.underlying3 rfl rfl (BR.at (by rfl))) ?_  -- l3
   refine S_val (Y_sub (c := (p : Int)) rfl rfl (by omega) (by omega) (by omega)) ?_
   refine S_val (Y_assign rfl) ?_
   refine S_nl rfl rfl ?_
   refine th_n (hK7 _ _ ?_)
   clear hK7 K7
   refine wp_seq_k fun K8 hK8 => ?_
   refine wp_seq_k fun K9 hK9 => ?_
   refine Sb 99 rfl ?_  -- 5
   refine S_val (Y_move rfl) ?_
   refine S_val (Y_move rfl) ?_
   refine S_val (Y_nil rfl) ?_
   refine S_val (Y_field Try.underlying118 rfl fz118_0 (by decide) rfl) ?_
   refine S_val (Y_load Try.underlying39 rfl rfl (BR.at (by rfl))) ?_  -- l4
   refine S_val (Y_len Try.underlying39 rfl) ?_
   refine S_val (Y_lss rfl rfl) ?_
   refine S_nl rfl rfl ?_
   refine th_n (hK9 _ _ ?_)
   clear hK9 K9
   refine S_if rfl (fun hb3 => ?_) (fun hb3 => ?_)  -- c2
   · -- c2T
    replace hb3 := nb_tt hb3
    have hk1 : p < bs.length := by omega
    obtain ⟨g1, o1, rfl, hp1, hc1⟩ := hS _ _ (u8s_get (List.getElem?_eq_getElem hk1))
    have hb1r := hbs _ (List.getElem_mem hk1)
    refine wp_seq_k fun K10 hK10 => ?_
    refine Sb 99 rfl ?_  -- 6
    refine S_val (Y_move rfl) ?_
    refine S_val (Y_nil rfl) ?_
    refine S_val (Y_field Try.underlying118 rfl fz118_0 (by decide) rfl) ?_
    refine S_val (Y_load Try.underlying39 rfl rfl (BR.at (by rfl))) ?_  -- l5
    refine S_val (Y_move rfl) ?_
    refine S_val (Y_index Try.underlying39 sz5 rfl rfl (by first | assumption | omega)) ?_
    refine S_val (Y_load Try.underlying5 rfl rfl (by first | assumption | exact BR.at (by rfl))) ?_  -- l6
    refine S_val (Y_conv8 Try.underlying5 Try.underlying3 rfl (by omega) (by omega)) ?_
    refine S_val (Y_move rfl) ?_
    refine S_val (Y_rem rfl rfl (by omega) (by omega) rfl) ?_
    refine S_val (Y_assign rfl) ?_
    refine S_nl rfl rfl ?_
    refine th_n (hK10 _ _ ?_)
    clear hK10 K10
    refine wp_ret ?_
    refine th_r ?_
    clear hK8 K8
    refine ret_r1 rfl rfl ?_  -- r3
    exact ⟨(bs[p] % n).toNat, by rw [Int.toNat_of_nonneg (Int.emod_nonneg _ (by omega))], fun h => by rw [Int.toNat_of_nonneg (Int.emod_nonneg _ (by omega))]; exact Int.emod_lt_of_pos _ (by omega), ⟨_, bs, cR, BR, hS, hbs, hbl⟩, G⟩
   · -- c2F
    replace hb3 := nb_tf hb3
    refine wp_skip ?_
    refine th_n (hK8 _ _ ?_)
    clear hK8 K8
    refine wp_seq_k fun K11 hK11 => ?_
    refine D_start 46 99 (fun w => Mod (No) w) follows rfl rfl ?_  -- d1 r7
    intro w2 g2
    replace hS := hS.grow g2
    replace G := G.grow g2
    replace BR := BR.grow g2
    have zg2 := g2.size
    have GS2 := Mod.refl (No) w2
    have hm1 : p % bs.length < bs.length := Nat.mod_lt _ (by omega)
    have hm2 : (p * 7 + 3) % bs.length < bs.length := Nat.mod_lt _ (by omega)
    obtain ⟨g1, o1, rfl, hp1, hc1⟩ := hS _ _ (u8s_get (List.getElem?_eq_getElem hm1))
    obtain ⟨g2, o2, e2, hp2, hc2⟩ := hS _ _ (u8s_get (List.getElem?_eq_getElem hm2))
    cases e2
    have hr1 := hbs _ (List.getElem_mem hm1)
    have hr2 := hbs _ (List.getElem_mem hm2)
    have hq := Nat.div_le_self p bs.length
    have hq0 : (0 : Int) ≤ ((p / bs.length : Nat) : Int) := Int.natCast_nonneg _
    have BRd2 := BR
    refine Dq (i := 0) rfl GS2 (fun _ _ => Y_move rfl) ?_
    refine Dq (i := 1) rfl GS2 (fun _ _ => Y_nil rfl) ?_
    refine Dq (i := 2) rfl GS2 (fun _ _ => Y_field Try.underlying118 rfl fz118_0 (by decide) rfl) ?_
    refine Dq (i := 3) rfl GS2 (fun _ hs => Y_load Try.underlying39 rfl rfl (hs.cell0 (BR.at (by rfl)))) ?_
    refine Dq (i := 4) rfl GS2 (fun _ _ => Y_move rfl) ?_
    refine Dq (i := 5) rfl GS2 (fun _ _ => Y_move rfl) ?_
    refine Dq (i := 6) rfl GS2 (fun _ _ => Y_nil rfl) ?_
    refine Dq (i := 7) rfl GS2 (fun _ _ => Y_field Try.underlying118 rfl fz118_0 (by decide) rfl) ?_
    refine Dq (i := 8) rfl GS2 (fun _ hs => Y_load Try.underlying39 rfl rfl (hs.cell0 (BR.at (by rfl)))) ?_
    refine Dq (i := 9) rfl GS2 (fun _ _ => Y_len Try.underlying39 rfl) ?_
    refine Dq (i := 10) rfl GS2 (fun _ _ => Y_rem (c := ((p % bs.length : Nat) : Int)) rfl rfl (by omega) (by omega) cast_mod) ?_
    refine Dq (i := 11) rfl GS2 (fun _ _ => Y_index Try.underlying39 sz5 rfl rfl (by first | assumption | omega)) ?_
    refine Dq (i := 12) rfl GS2 (fun _ hs => Y_load Try.underlying5 rfl rfl (by first | exact hs.cell0 (by assumption) | exact hs.cell0 (BR.at (by rfl)))) ?_
    refine Dq (i := 13) rfl GS2 (fun _ _ => Y_conv8 Try.underlying5 Try.underlying3 rfl (by omega) (by omega)) ?_
    refine Dq (i := 14) rfl GS2 (fun _ _ => Y_mul rfl rfl rfl (by omega) (by omega)) ?_
    refine Dq (i := 15) rfl GS2 (fun _ _ => Y_move rfl) ?_
    refine Dq (i := 16) rfl GS2 (fun _ _ => Y_nil rfl) ?_
    refine Dq (i := 17) rfl GS2 (fun _ _ => Y_field Try.underlying118 rfl fz118_0 (by decide) rfl) ?_
    refine Dq (i := 18) rfl GS2 (fun _ hs => Y_load Try.underlying39 rfl rfl (hs.cell0 (BR.at (by rfl)))) ?_
    refine Dq (i := 19) rfl GS2 (fun _ _ => Y_move rfl) ?_
    refine Dq (i := 20) rfl GS2 (fun _ _ => Y_mul (c := ((p * 7 : Nat) : Int)) rfl rfl (by omega) (by omega) (by omega)) ?_
    refine Dq (i := 21) rfl GS2 (fun _ _ => Y_add (c := ((p * 7 + 3 : Nat) : Int)) rfl rfl (by omega) (by omega) (by omega)) ?_
    refine Dq (i := 22) rfl GS2 (fun _ _ => Y_move rfl) ?_
    refine Dq (i := 23) rfl GS2 (fun _ _ => Y_nil rfl) ?_
    refine Dq (i := 24) rfl GS2 (fun _ _ => Y_field Try.underlying118 rfl fz118_0 (by decide) rfl) ?_
    refine Dq (i := 25) rfl GS2 (fun _ hs => Y_load Try.underlying39 rfl rfl (hs.cell0 (BR.at (by rfl)))) ?_
    refine Dq (i := 26) rfl GS2 (fun _ _ => Y_len Try.underlying39 rfl) ?_
    refine Dq (i := 27) rfl GS2 (fun _ _ => Y_rem (c := (((p * 7 + 3) % bs.length : Nat) : Int)) rfl rfl (by omega) (by omega) cast_mod) ?_
    refine Dq (i := 28) rfl GS2 (fun _ _ => Y_index Try.underlying39 sz5 rfl rfl (by first | assumption | omega)) ?_
    refine Dq (i := 29) rfl GS2 (fun _ hs => Y_load Try.underlying5 rfl rfl (by first | exact hs.cell0 (by assumption) | exact hs.cell0 (BR.at (by rfl)))) ?_
    refine Dq (i := 30) rfl GS2 (fun _ _ => Y_conv8 Try.underlying5 Try.underlying3 rfl (by omega) (by omega)) ?_
    refine Dq (i := 31) rfl GS2 (fun _ _ => Y_mul rfl rfl rfl (by omega) (by omega)) ?_
    refine Dq (i := 32) rfl GS2 (fun _ _ => Y_add rfl rfl rfl (by omega) (by omega)) ?_
    refine Dq (i := 33) rfl GS2 (fun _ _ => Y_move rfl) ?_
    refine Dq (i := 34) rfl GS2 (fun _ _ => Y_mul rfl rfl rfl (by omega) (by omega)) ?_
    refine Dq (i := 35) rfl GS2 (fun _ _ => Y_add rfl rfl rfl (by omega) (by omega)) ?_
    refine Dq (i := 36) rfl GS2 (fun _ _ => Y_move rfl) ?_
    refine Dq (i := 37) rfl GS2 (fun _ _ => Y_move rfl) ?_
    refine Dq (i := 38) rfl GS2 (fun _ _ => Y_nil rfl) ?_
    refine Dq (i := 39) rfl GS2 (fun _ _ => Y_field Try.underlying118 rfl fz118_0 (by decide) rfl) ?_
    refine Dq (i := 40) rfl GS2 (fun _ hs => Y_load Try.underlying39 rfl rfl (hs.cell0 (BR.at (by rfl)))) ?_
    refine Dq (i := 41) rfl GS2 (fun _ _ => Y_len Try.underlying39 rfl) ?_
    refine Dq (i := 42) rfl GS2 (fun _ _ => Y_quo (c := ((p / bs.length : Nat) : Int)) rfl rfl (by omega) (by omega) (by omega) cast_div) ?_
    refine Dq (i := 43) rfl GS2 (fun _ _ => Y_mul rfl rfl rfl (by omega) (by omega)) ?_
    refine Dq (i := 44) rfl GS2 (fun _ _ => Y_add rfl rfl rfl (by omega) (by omega)) ?_
    refine Dq (i := 45) rfl GS2 (fun _ _ => Y_assign rfl) ?_
    refine D_en (by kernel_rfl) rfl rfl ?_
    refine th_n (hK11 _ _ ?_)
    clear hK11 K11
    refine wp_seq_k fun K12 hK12 => ?_
    refine Sb 99 rfl ?_  -- 8
    refine S_val (Y_move rfl) ?_
    refine S_val (Y_move rfl) ?_
    refine S_val (Y_quo rfl rfl (by omega) (by omega) (by decide) rfl) ?_
    refine S_val (Y_xor rfl rfl (by omega) (by omega) (by omega) (by omega)) ?_
    refine S_val (Y_assign rfl) ?_
    refine S_nl rfl rfl ?_
    refine th_n (hK12 _ _ ?_)
    clear hK12 K12
    refine wp_seq_k fun K13 hK13 => ?_
    refine Sb 99 rfl ?_  -- 9
    refine S_val (Y_move rfl) ?_
    refine S_val (Y_move rfl) ?_
    refine S_val (Y_rem rfl rfl (by omega) (by omega) rfl) ?_
    refine S_val (Y_assign rfl) ?_
    refine S_nl rfl rfl ?_
    refine th_n (hK13 _ _ ?_)
    clear hK13 K13
    refine wp_ret ?_
    refine ret_r1 rfl rfl ?_  -- r4
    exact ⟨(_ % n).toNat, by rw [Int.toNat_of_nonneg (Int.emod_nonneg _ (by omega))], fun h => by rw [Int.toNat_of_nonneg (Int.emod_nonneg _ (by omega))]; exact Int.emod_lt_of_pos _ (by omega), ⟨_, bs, cR, BR, hS, hbs, hbl⟩, G⟩
set_option maxHeartbeats 400000 in
set_option maxRecDepth 20000 in
theorem spec_l20Rd_odd_c (bR p : Nat) (n : Int) (w : World) (RD : Rd w bR p) (hp : p ≤ 1000000) (hn : n ≤ 9223372036854775807) :
    Calls Try.prog 73 #[.pointer (some ⟨bR, 0, none⟩), .int .i64 n] w (Ret fun v w' => ∃ (r : Bool) (p2 : Nat), v = .bool r ∧ (n ≤ 0 → r = false) ∧ p2 ≤ p + 1 ∧ Rd w' bR p2 ∧ Mod (fun i => i = bR) w w') := by
 refine enter Try.func73 rfl Try.ntmps73 (L := [_,_,_,_,_,_,_,_,_,_,_,_,_,_,_]) rfl ?_
 have G := Mod.refl (fun i => i = bR) w
 refine wp_seq_k fun K1 hK1 => ?_
 refine Sb 15 rfl ?_  -- 0
 refine S_val (Y_assign rfl) ?_
 refine S_nl rfl rfl ?_
 refine th_n (hK1 _ _ ?_)
 clear hK1 K1
 refine wp_seq_k fun K2 hK2 => ?_
 refine Sb 15 rfl ?_  -- 1
 refine S_val (Y_move rfl) ?_
 refine S_val (Y_gtr rfl rfl) ?_
 refine S_val (Y_move rfl) ?_
 refine S_g 7 rfl (fun hb1 => ?_) (fun hb1 => ?_)  -- g1
 · -- g1T
  replace hb1 := nb_tt hb1
  refine S_on rfl rfl ?_
  refine S_val (Y_move rfl) ?_
  refine S_on rfl rfl ?_
  refine S_val (Y_move rfl) ?_
  refine S_on rfl rfl ?_
  refine S_call rfl en69 (spec_l20Rd_pick_c _ _ _ _ RD (by omega) (by omega)) ?_  -- k1 (*spec.l20Rd).pick
  rintro v1 w1 ⟨k1, rfl, hk1, RD1, m1⟩
  replace RD := RD1
  clear RD1
  replace G := Mod.trans' G m1 (fun _ h _ => h) (fun i h hl => by first | exact h | omega | (dsimp only at h; omega))
  have zm1 := m1.size
  refine S_on rfl rfl ?_
  refine S_val (Y_move rfl) ?_
  refine S_on rfl rfl ?_
  refine S_val (Y_sub rfl rfl rfl (by omega) (by omega)) ?_
  refine S_on rfl rfl ?_
  refine S_val (Y_eql rfl rfl) ?_
  refine S_val (Y_pickT rfl rfl) ?_
  refine S_val (Y_assign rfl) ?_
  refine S_nl rfl rfl ?_
  refine th_n (hK2 _ _ ?_)
  clear hK2 K2
  refine wp_ret ?_
  refine ret_r1 rfl rfl ?_  -- r1
  exact ⟨_, _, rfl, fun h => by omega, by omega, RD, G⟩
 · -- g1F
  replace hb1 := nb_tf hb1
  refine S_off rfl rfl ?_
  refine S_off rfl rfl ?_
  refine S_off rfl rfl ?_
  refine S_off rfl rfl ?_
  refine S_off rfl rfl ?_
  refine S_off rfl rfl ?_
  refine S_val (Y_pickF rfl rfl) ?_
  refine S_val (Y_assign rfl) ?_
  refine S_nl rfl rfl ?_
  refine th_n (hK2 _ _ ?_)
  clear hK2 K2
  refine wp_ret ?_
  refine ret_r1 rfl rfl ?_  -- r2
  exact ⟨_, _, rfl, fun _ => rfl, by omega, RD, G⟩
end
/-! WalkDm -/
section
open Go Go.RowKit
attribute [local irreducible] wpList wpAnyH Code.wp dOp
set_option maxHeartbeats 2000000 in
set_option maxRecDepth 20000 in
theorem spec_l20Command_c (bR p : Nat) (n : Int) (w : World) (RD : Rd w bR p) (hp : p ≤ 900000) (hn : n ≤ 9223372036854775807) :
    Calls Try.prog 121 #[.pointer (some ⟨bR, 0, none⟩), .int .i64 n] w (Ret fun v w' => ∃ (o : LCmd) (p2 : Nat), v = .agg (cmdC o).toArray ∧ (n ≤ 0 → cvB o = true) ∧ p2 ≤ p + 16 ∧ Rd w' bR p2 ∧ Mod (fun i => i = bR) w w') := by
 have lbR := RD.lt
 refine enter Try.func121 rfl Try.ntmps121 (L := [_,_,_,_,_,_,_,_,_,_,_,_,_,_,_,_,_,_,_,_,_,_,_,_,_,_,_,_,_,_,_,_,_,_,_,_,_,_,_,_,_,_,_,_,_,_,_,_,_,_,_,_,_,_,_,_,_,_,_,_,_,_,_,_,_,_,_,_,_,_,_,_,_,_,_,_,_,_,_,_,_,_,_,_,_,_,_,_,_,_]) rfl ?_
 have G := Mod.refl (fun i => i = bR) w
 refine wp_seq_k fun K1 hK1 => ?_
 refine Sb 90 rfl ?_  -- 0
 refine S_alloc (cs := [_, _, _, _]) zr133 rfl ?_
 intro b1 w1 fb1 g1 B1
 have lb1 := B1.lt
 replace RD := RD.grow g1
 replace G := G.grow g1
 have zg1 := g1.size
 refine S_nl rfl rfl ?_
 refine th_n (hK1 _ _ ?_)
 clear hK1 K1
 refine wp_seq_k fun K2 hK2 => ?_
 refine D_cut (fun a' w' => ∃ (b5 : Nat) (op a : Int) (L : List Value), a' = ⟨L.toArray, []⟩ ∧ L.length = 90 ∧ L[0]? = some (.pointer (some ⟨bR, 0, none⟩)) ∧ L[1]? = some (.int .i64 n) ∧ L[4]? = some (.pointer (some ⟨b1, 0, none⟩)) ∧ L[5]? = some (.pointer (some ⟨b5, 0, none⟩)) ∧ Mod (fun i => i = bR) w1 w' ∧ (Blk w' b5 133 [.int .i64 op, .int .i64 a, .int .i64 0, .int .i64 0].toArray) ∧ (Rd w' bR (p + 1 + 1)) ∧ (w1.heap.size ≤ b5) ∧ (1 ≤ op ∧ op ≤ 6) ∧ (0 ≤ a ∧ a ≤ 3)) ?_ ?_
 · -- cut
  refine D_start 10 90 (fun w => Mod (fun i => i = bR) w) follows rfl rfl ?_  -- d1 r1
  intro w2 g2
  replace RD := RD.grow g2
  replace G := G.grow g2
  replace B1 := B1.grow g2
  have zg2 := g2.size
  have GS2 := Mod.refl (fun i => i = bR) w2
  refine Dq (i := 1) rfl GS2 (fun _ _ => Y_move rfl) ?_
  refine Dq (i := 5) rfl GS2 (fun _ _ => Y_move rfl) ?_
  refine D_3 (i := 0) (j := 2) (k := 8) (by kernel_rfl) ?_ ?_ ?_
  · -- operation 0 comes up
   refine E_bsN (cs := [_, _, _, _, _, _, _, _, _, _]) (i := 0) rfl Try.underlying23 zr3 sz3 rfl rfl ?_
   intro b4 w4 fb4 g4 B4
   refine ⟨GS2.grow g4, ?_⟩
   have lb4 := B4.lt
   replace RD := RD.grow g4
   replace G := G.grow g4
   replace GS2 := GS2.grow g4
   replace B1 := B1.grow g4
   have zg4 := g4.size
   refine D_2 (i := 2) (j := 8) (by kernel_rfl) ?_ ?_
   · -- operation 2 comes up
    refine E_call rfl rfl en69 (spec_l20Rd_pick_c _ _ _ _ RD (by omega) (by omega)) ?_  -- k1 (*spec.l20Rd).pick
    rintro v5 w5 ⟨k5, rfl, hk5, RD5, m5⟩
    obtain ⟨kA, rfl⟩ : ∃ x, x = k5 := ⟨_, rfl⟩
    have hkA := hk5 (by decide)
    replace RD := RD5
    clear RD5
    replace G := Mod.trans' G m5 (fun _ h _ => h) (fun i h hl => by first | exact h | omega | (dsimp only at h; omega))
    replace GS2 := GS2.trn m5
    replace B1 := B1.md m5
    replace B4 := B4.md m5
    have zm5 := m5.size
    refine ⟨GS2, ?_⟩
    refine Dq (i := 3) rfl GS2 (fun _ _ => Y_index Try.underlying23 sz3 rfl rfl (by first | assumption | omega)) ?_
    refine D_3 (i := 4) (j := 6) (k := 8) (by kernel_rfl) ?_ ?_ ?_
    · -- operation 4 comes up
     obtain ⟨op, hop, hopr⟩ := Blk.pickR (l := [1, 1, 1, 2, 3, 3, 3, 4, 5, 6]) (lo := 1) (hi := 6) B4 (k := kA) (by decide) (by show kA < 10; omega)
     refine E_val (i := 4) rfl (Y_load Try.underlying3 rfl rfl hop) GS2 ?_
     refine D_2 (i := 6) (j := 8) (by kernel_rfl) ?_ ?_
     · -- operation 6 comes up
      refine E_call rfl rfl en69 (spec_l20Rd_pick_c _ _ _ _ RD (by omega) (by omega)) ?_  -- k2 (*spec.l20Rd).pick
      rintro v7 w7 ⟨k7, rfl, hk7, RD7, m7⟩
      obtain ⟨kB, rfl⟩ : ∃ x, x = k7 := ⟨_, rfl⟩
      have hkB := hk7 (by decide)
      replace RD := RD7
      clear RD7
      replace G := Mod.trans' G m7 (fun _ h _ => h) (fun i h hl => by first | exact h | omega | (dsimp only at h; omega))
      replace GS2 := GS2.trn m7
      replace B1 := B1.md m7
      replace B4 := B4.md m7
      have zm7 := m7.size
      refine ⟨GS2, ?_⟩
      refine Dq (i := 7) rfl GS2 (fun _ _ => Y_build (cs := [_, _, _, _]) zr133 pc133 rfl rfl) ?_
      refine D_1 (i := 8) (by kernel_rfl) ?_
      refine E_alloc (cs := [_, _, _, _]) rfl zr133 rfl (fun b8 w8 fb8 g8 B8 => ⟨GS2.grow g8, ?_⟩)
      have lb8 := B8.lt
      replace RD := RD.grow g8
      replace G := G.grow g8
      replace GS2 := GS2.grow g8
      replace B1 := B1.grow g8
      replace B4 := B4.grow g8
      have zg8 := g8.size
      refine D_1 (i := 9) (by kernel_rfl) ?_
      refine E_stM (pre := []) (old := [_, _, _, _]) (post := []) (vs := [_, _, _, _]) (i := 9) rfl sz133 rfl rfl rfl (by first | rfl | assumption) B8 rfl rfl ?_
      intro w9 m9 X9
      replace B8 := Blk.eq (ys := [_, _, _, _]) X9 rfl
      clear X9
      replace G := Mod.trans' G m9 (fun _ h _ => h) (fun i h hl => by first | exact h | omega | (dsimp only at h; omega))
      replace GS2 := GS2.abv m9
      replace RD := RD.md m9
      replace B1 := B1.md m9
      replace B4 := B4.md m9
      have zm9 := m9.size
      refine ⟨GS2, ?_⟩
      refine D_en (by kernel_rfl) rfl rfl ?_
      exact ⟨rfl, _, _, _, _, rfl, rfl, rfl, rfl, rfl, rfl, (Mod.of_grow g2).trans GS2, B8, RD, by omega, hopr, ⟨by omega, by omega⟩⟩
     · -- operation 8 comes up
      refine E_alloc (cs := [_, _, _, _]) rfl zr133 rfl (fun b10 w10 fb10 g10 B10 => ⟨GS2.grow g10, ?_⟩)
      have lb10 := B10.lt
      replace RD := RD.grow g10
      replace G := G.grow g10
      replace GS2 := GS2.grow g10
      replace B1 := B1.grow g10
      replace B4 := B4.grow g10
      have zg10 := g10.size
      refine D_1 (i := 6) (by kernel_rfl) ?_
      refine E_call rfl rfl en69 (spec_l20Rd_pick_c _ _ _ _ RD (by omega) (by omega)) ?_  -- k3 (*spec.l20Rd).pick
      rintro v11 w11 ⟨k11, rfl, hk11, RD11, m11⟩
      obtain ⟨kB, rfl⟩ : ∃ x, x = k11 := ⟨_, rfl⟩
      have hkB := hk11 (by decide)
      replace RD := RD11
      clear RD11
      replace G := Mod.trans' G m11 (fun _ h _ => h) (fun i h hl => by first | exact h | omega | (dsimp only at h; omega))
      replace GS2 := GS2.trn m11
      replace B1 := B1.md m11
      replace B4 := B4.md m11
      replace B10 := B10.md m11
      have zm11 := m11.size
      refine ⟨GS2, ?_⟩
      refine Dq (i := 7) rfl GS2 (fun _ _ => Y_build (cs := [_, _, _, _]) zr133 pc133 rfl rfl) ?_
      refine D_1 (i := 9) (by kernel_rfl) ?_
      refine E_stM (pre := []) (old := [_, _, _, _]) (post := []) (vs := [_, _, _, _]) (i := 9) rfl sz133 rfl rfl rfl (by first | rfl | assumption) B10 rfl rfl ?_
      intro w12 m12 X12
      replace B10 := Blk.eq (ys := [_, _, _, _]) X12 rfl
      clear X12
      replace G := Mod.trans' G m12 (fun _ h _ => h) (fun i h hl => by first | exact h | omega | (dsimp only at h; omega))
      replace GS2 := GS2.abv m12
      replace RD := RD.md m12
      replace B1 := B1.md m12
      replace B4 := B4.md m12
      have zm12 := m12.size
      refine ⟨GS2, ?_⟩
      refine D_en (by kernel_rfl) rfl rfl ?_
      exact ⟨rfl, _, _, _, _, rfl, rfl, rfl, rfl, rfl, rfl, (Mod.of_grow g2).trans GS2, B10, RD, by omega, hopr, ⟨by omega, by omega⟩⟩
    · -- operation 6 comes up
     refine E_call rfl rfl en69 (spec_l20Rd_pick_c _ _ _ _ RD (by omega) (by omega)) ?_  -- k4 (*spec.l20Rd).pick
     rintro v13 w13 ⟨k13, rfl, hk13, RD13, m13⟩
     obtain ⟨kB, rfl⟩ : ∃ x, x = k13 := ⟨_, rfl⟩
     have hkB := hk13 (by decide)
     replace RD := RD13
     clear RD13
     replace G := Mod.trans' G m13 (fun _ h _ => h) (fun i h hl => by first | exact h | omega | (dsimp only at h; omega))
     replace GS2 := GS2.trn m13
     replace B1 := B1.md m13
     replace B4 := B4.md m13
     have zm13 := m13.size
     refine ⟨GS2, ?_⟩
     refine D_2 (i := 4) (j := 8) (by kernel_rfl) ?_ ?_
     · -- operation 4 comes up
      obtain ⟨op, hop, hopr⟩ := Blk.pickR (l := [1, 1, 1, 2, 3, 3, 3, 4, 5, 6]) (lo := 1) (hi := 6) B4 (k := kA) (by decide) (by show kA < 10; omega)
      refine E_val (i := 4) rfl (Y_load Try.underlying3 rfl rfl hop) GS2 ?_
      refine Dq (i := 7) rfl GS2 (fun _ _ => Y_build (cs := [_, _, _, _]) zr133 pc133 rfl rfl) ?_
      refine D_1 (i := 8) (by kernel_rfl) ?_
      refine E_alloc (cs := [_, _, _, _]) rfl zr133 rfl (fun b15 w15 fb15 g15 B15 => ⟨GS2.grow g15, ?_⟩)
      have lb15 := B15.lt
      replace RD := RD.grow g15
      replace G := G.grow g15
      replace GS2 := GS2.grow g15
      replace B1 := B1.grow g15
      replace B4 := B4.grow g15
      have zg15 := g15.size
      refine D_1 (i := 9) (by kernel_rfl) ?_
      refine E_stM (pre := []) (old := [_, _, _, _]) (post := []) (vs := [_, _, _, _]) (i := 9) rfl sz133 rfl rfl rfl (by first | rfl | assumption) B15 rfl rfl ?_
      intro w16 m16 X16
      replace B15 := Blk.eq (ys := [_, _, _, _]) X16 rfl
      clear X16
      replace G := Mod.trans' G m16 (fun _ h _ => h) (fun i h hl => by first | exact h | omega | (dsimp only at h; omega))
      replace GS2 := GS2.abv m16
      replace RD := RD.md m16
      replace B1 := B1.md m16
      replace B4 := B4.md m16
      have zm16 := m16.size
      refine ⟨GS2, ?_⟩
      refine D_en (by kernel_rfl) rfl rfl ?_
      exact ⟨rfl, _, _, _, _, rfl, rfl, rfl, rfl, rfl, rfl, (Mod.of_grow g2).trans GS2, B15, RD, by omega, hopr, ⟨by omega, by omega⟩⟩
     · -- operation 8 comes up
      refine E_alloc (cs := [_, _, _, _]) rfl zr133 rfl (fun b17 w17 fb17 g17 B17 => ⟨GS2.grow g17, ?_⟩)
      have lb17 := B17.lt
      replace RD := RD.grow g17
      replace G := G.grow g17
      replace GS2 := GS2.grow g17
      replace B1 := B1.grow g17
      replace B4 := B4.grow g17
      have zg17 := g17.size
      refine D_1 (i := 4) (by kernel_rfl) ?_
      obtain ⟨op, hop, hopr⟩ := Blk.pickR (l := [1, 1, 1, 2, 3, 3, 3, 4, 5, 6]) (lo := 1) (hi := 6) B4 (k := kA) (by decide) (by show kA < 10; omega)
      refine E_val (i := 4) rfl (Y_load Try.underlying3 rfl rfl hop) GS2 ?_
      refine Dq (i := 7) rfl GS2 (fun _ _ => Y_build (cs := [_, _, _, _]) zr133 pc133 rfl rfl) ?_
      refine D_1 (i := 9) (by kernel_rfl) ?_
      refine E_stM (pre := []) (old := [_, _, _, _]) (post := []) (vs := [_, _, _, _]) (i := 9) rfl sz133 rfl rfl rfl (by first | rfl | assumption) B17 rfl rfl ?_
      intro w19 m19 X19
      replace B17 := Blk.eq (ys := [_, _, _, _]) X19 rfl
      clear X19
      replace G := Mod.trans' G m19 (fun _ h _ => h) (fun i h hl => by first | exact h | omega | (dsimp only at h; omega))
      replace GS2 := GS2.abv m19
      replace RD := RD.md m19
      replace B1 := B1.md m19
      replace B4 := B4.md m19
      have zm19 := m19.size
      refine ⟨GS2, ?_⟩
      refine D_en (by kernel_rfl) rfl rfl ?_
      exact ⟨rfl, _, _, _, _, rfl, rfl, rfl, rfl, rfl, rfl, (Mod.of_grow g2).trans GS2, B17, RD, by omega, hopr, ⟨by omega, by omega⟩⟩
    · -- operation 8 comes up
     refine E_alloc (cs := [_, _, _, _]) rfl zr133 rfl (fun b20 w20 fb20 g20 B20 => ⟨GS2.grow g20, ?_⟩)
     have lb20 := B20.lt
     replace RD := RD.grow g20
     replace G := G.grow g20
     replace GS2 := GS2.grow g20
     replace B1 := B1.grow g20
     replace B4 := B4.grow g20
     have zg20 := g20.size
     refine D_2 (i := 4) (j := 6) (by kernel_rfl) ?_ ?_
     · -- operation 4 comes up
      obtain ⟨op, hop, hopr⟩ := Blk.pickR (l := [1, 1, 1, 2, 3, 3, 3, 4, 5, 6]) (lo := 1) (hi := 6) B4 (k := kA) (by decide) (by show kA < 10; omega)
      refine E_val (i := 4) rfl (Y_load Try.underlying3 rfl rfl hop) GS2 ?_
      refine D_1 (i := 6) (by kernel_rfl) ?_
      refine E_call rfl rfl en69 (spec_l20Rd_pick_c _ _ _ _ RD (by omega) (by omega)) ?_  -- k5 (*spec.l20Rd).pick
      rintro v22 w22 ⟨k22, rfl, hk22, RD22, m22⟩
      obtain ⟨kB, rfl⟩ : ∃ x, x = k22 := ⟨_, rfl⟩
      have hkB := hk22 (by decide)
      replace RD := RD22
      clear RD22
      replace G := Mod.trans' G m22 (fun _ h _ => h) (fun i h hl => by first | exact h | omega | (dsimp only at h; omega))
      replace GS2 := GS2.trn m22
      replace B1 := B1.md m22
      replace B4 := B4.md m22
      replace B20 := B20.md m22
      have zm22 := m22.size
      refine ⟨GS2, ?_⟩
      refine Dq (i := 7) rfl GS2 (fun _ _ => Y_build (cs := [_, _, _, _]) zr133 pc133 rfl rfl) ?_
      refine D_1 (i := 9) (by kernel_rfl) ?_
      refine E_stM (pre := []) (old := [_, _, _, _]) (post := []) (vs := [_, _, _, _]) (i := 9) rfl sz133 rfl rfl rfl (by first | rfl | assumption) B20 rfl rfl ?_
      intro w23 m23 X23
      replace B20 := Blk.eq (ys := [_, _, _, _]) X23 rfl
      clear X23
      replace G := Mod.trans' G m23 (fun _ h _ => h) (fun i h hl => by first | exact h | omega | (dsimp only at h; omega))
      replace GS2 := GS2.abv m23
      replace RD := RD.md m23
      replace B1 := B1.md m23
      replace B4 := B4.md m23
      have zm23 := m23.size
      refine ⟨GS2, ?_⟩
      refine D_en (by kernel_rfl) rfl rfl ?_
      exact ⟨rfl, _, _, _, _, rfl, rfl, rfl, rfl, rfl, rfl, (Mod.of_grow g2).trans GS2, B20, RD, by omega, hopr, ⟨by omega, by omega⟩⟩
     · -- operation 6 comes up
      refine E_call rfl rfl en69 (spec_l20Rd_pick_c _ _ _ _ RD (by omega) (by omega)) ?_  -- k6 (*spec.l20Rd).pick
      rintro v24 w24 ⟨k24, rfl, hk24, RD24, m24⟩
      obtain ⟨kB, rfl⟩ : ∃ x, x = k24 := ⟨_, rfl⟩
      have hkB := hk24 (by decide)
      replace RD := RD24
      clear RD24
      replace G := Mod.trans' G m24 (fun _ h _ => h) (fun i h hl => by first | exact h | omega | (dsimp only at h; omega))
      replace GS2 := GS2.trn m24
      replace B1 := B1.md m24
      replace B4 := B4.md m24
      replace B20 := B20.md m24
      have zm24 := m24.size
      refine ⟨GS2, ?_⟩
      refine D_1 (i := 4) (by kernel_rfl) ?_
      obtain ⟨op, hop, hopr⟩ := Blk.pickR (l := [1, 1, 1, 2, 3, 3, 3, 4, 5, 6]) (lo := 1) (hi := 6) B4 (k := kA) (by decide) (by show kA < 10; omega)
      refine E_val (i := 4) rfl (Y_load Try.underlying3 rfl rfl hop) GS2 ?_
      refine Dq (i := 7) rfl GS2 (fun _ _ => Y_build (cs := [_, _, _, _]) zr133 pc133 rfl rfl) ?_
      refine D_1 (i := 9) (by kernel_rfl) ?_
      refine E_stM (pre := []) (old := [_, _, _, _]) (post := []) (vs := [_, _, _, _]) (i := 9) rfl sz133 rfl rfl rfl (by first | rfl | assumption) B20 rfl rfl ?_
      intro w26 m26 X26
      replace B20 := Blk.eq (ys := [_, _, _, _]) X26 rfl
      clear X26
      replace G := Mod.trans' G m26 (fun _ h _ => h) (fun i h hl => by first | exact h | omega | (dsimp only at h; omega))
      replace GS2 := GS2.abv m26
      replace RD := RD.md m26
      replace B1 := B1.md m26
      replace B4 := B4.md m26
      have zm26 := m26.size
      refine ⟨GS2, ?_⟩
      refine D_en (by kernel_rfl) rfl rfl ?_
      exact ⟨rfl, _, _, _, _, rfl, rfl, rfl, rfl, rfl, rfl, (Mod.of_grow g2).trans GS2, B20, RD, by omega, hopr, ⟨by omega, by omega⟩⟩
   · -- operation 8 comes up
    refine E_alloc (cs := [_, _, _, _]) rfl zr133 rfl (fun b27 w27 fb27 g27 B27 => ⟨GS2.grow g27, ?_⟩)
    have lb27 := B27.lt
    replace RD := RD.grow g27
    replace G := G.grow g27
    replace GS2 := GS2.grow g27
    replace B1 := B1.grow g27
    replace B4 := B4.grow g27
    have zg27 := g27.size
    refine D_1 (i := 2) (by kernel_rfl) ?_
    refine E_call rfl rfl en69 (spec_l20Rd_pick_c _ _ _ _ RD (by omega) (by omega)) ?_  -- k7 (*spec.l20Rd).pick
    rintro v28 w28 ⟨k28, rfl, hk28, RD28, m28⟩
    obtain ⟨kA, rfl⟩ : ∃ x, x = k28 := ⟨_, rfl⟩
    have hkA := hk28 (by decide)
    replace RD := RD28
    clear RD28
    replace G := Mod.trans' G m28 (fun _ h _ => h) (fun i h hl => by first | exact h | omega | (dsimp only at h; omega))
    replace GS2 := GS2.trn m28
    replace B1 := B1.md m28
    replace B4 := B4.md m28
    replace B27 := B27.md m28
    have zm28 := m28.size
    refine ⟨GS2, ?_⟩
    refine Dq (i := 3) rfl GS2 (fun _ _ => Y_index Try.underlying23 sz3 rfl rfl (by first | assumption | omega)) ?_
    refine D_2 (i := 4) (j := 6) (by kernel_rfl) ?_ ?_
    · -- operation 4 comes up
     obtain ⟨op, hop, hopr⟩ := Blk.pickR (l := [1, 1, 1, 2, 3, 3, 3, 4, 5, 6]) (lo := 1) (hi := 6) B4 (k := kA) (by decide) (by show kA < 10; omega)
     refine E_val (i := 4) rfl (Y_load Try.underlying3 rfl rfl hop) GS2 ?_
     refine D_1 (i := 6) (by kernel_rfl) ?_
     refine E_call rfl rfl en69 (spec_l20Rd_pick_c _ _ _ _ RD (by omega) (by omega)) ?_  -- k8 (*spec.l20Rd).pick
     rintro v30 w30 ⟨k30, rfl, hk30, RD30, m30⟩
     obtain ⟨kB, rfl⟩ : ∃ x, x = k30 := ⟨_, rfl⟩
     have hkB := hk30 (by decide)
     replace RD := RD30
     clear RD30
     replace G := Mod.trans' G m30 (fun _ h _ => h) (fun i h hl => by first | exact h | omega | (dsimp only at h; omega))
     replace GS2 := GS2.trn m30
     replace B1 := B1.md m30
     replace B4 := B4.md m30
     replace B27 := B27.md m30
     have zm30 := m30.size
     refine ⟨GS2, ?_⟩
     refine Dq (i := 7) rfl GS2 (fun _ _ => Y_build (cs := [_, _, _, _]) zr133 pc133 rfl rfl) ?_
     refine D_1 (i := 9) (by kernel_rfl) ?_
     refine E_stM (pre := []) (old := [_, _, _, _]) (post := []) (vs := [_, _, _, _]) (i := 9) rfl sz133 rfl rfl rfl (by first | rfl | assumption) B27 rfl rfl ?_
     intro w31 m31 X31
     replace B27 := Blk.eq (ys := [_, _, _, _]) X31 rfl
     clear X31
     replace G := Mod.trans' G m31 (fun _ h _ => h) (fun i h hl => by first | exact h | omega | (dsimp only at h; omega))
     replace GS2 := GS2.abv m31
     replace RD := RD.md m31
     replace B1 := B1.md m31
     replace B4 := B4.md m31
     have zm31 := m31.size
     refine ⟨GS2, ?_⟩
     refine D_en (by kernel_rfl) rfl rfl ?_
     exact ⟨rfl, _, _, _, _, rfl, rfl, rfl, rfl, rfl, rfl, (Mod.of_grow g2).trans GS2, B27, RD, by omega, hopr, ⟨by omega, by omega⟩⟩
    · -- operation 6 comes up
     refine E_call rfl rfl en69 (spec_l20Rd_pick_c _ _ _ _ RD (by omega) (by omega)) ?_  -- k9 (*spec.l20Rd).pick
     rintro v32 w32 ⟨k32, rfl, hk32, RD32, m32⟩
     obtain ⟨kB, rfl⟩ : ∃ x, x = k32 := ⟨_, rfl⟩
     have hkB := hk32 (by decide)
     replace RD := RD32
     clear RD32
     replace G := Mod.trans' G m32 (fun _ h _ => h) (fun i h hl => by first | exact h | omega | (dsimp only at h; omega))
     replace GS2 := GS2.trn m32
     replace B1 := B1.md m32
     replace B4 := B4.md m32
     replace B27 := B27.md m32
     have zm32 := m32.size
     refine ⟨GS2, ?_⟩
     refine D_1 (i := 4) (by kernel_rfl) ?_
     obtain ⟨op, hop, hopr⟩ := Blk.pickR (l := [1, 1, 1, 2, 3, 3, 3, 4, 5, 6]) (lo := 1) (hi := 6) B4 (k := kA) (by decide) (by show kA < 10; omega)
     refine E_val (i := 4) rfl (Y_load Try.underlying3 rfl rfl hop) GS2 ?_
     refine Dq (i := 7) rfl GS2 (fun _ _ => Y_build (cs := [_, _, _, _]) zr133 pc133 rfl rfl) ?_
     refine D_1 (i := 9) (by kernel_rfl) ?_
     refine E_stM (pre := []) (old := [_, _, _, _]) (post := []) (vs := [_, _, _, _]) (i := 9) rfl sz133 rfl rfl rfl (by first | rfl | assumption) B27 rfl rfl ?_
     intro w34 m34 X34
     replace B27 := Blk.eq (ys := [_, _, _, _]) X34 rfl
     clear X34
     replace G := Mod.trans' G m34 (fun _ h _ => h) (fun i h hl => by first | exact h | omega | (dsimp only at h; omega))
     replace GS2 := GS2.abv m34
     replace RD := RD.md m34
     replace B1 := B1.md m34
     replace B4 := B4.md m34
     have zm34 := m34.size
     refine ⟨GS2, ?_⟩
     refine D_en (by kernel_rfl) rfl rfl ?_
     exact ⟨rfl, _, _, _, _, rfl, rfl, rfl, rfl, rfl, rfl, (Mod.of_grow g2).trans GS2, B27, RD, by omega, hopr, ⟨by omega, by omega⟩⟩
  · -- operation 2 comes up
   refine E_call rfl rfl en69 (spec_l20Rd_pick_c _ _ _ _ RD (by omega) (by omega)) ?_  -- k10 (*spec.l20Rd).pick
   rintro v35 w35 ⟨k35, rfl, hk35, RD35, m35⟩
   obtain ⟨kA, rfl⟩ : ∃ x, x = k35 := ⟨_, rfl⟩
   have hkA := hk35 (by decide)
   replace RD := RD35
   clear RD35
   replace G := Mod.trans' G m35 (fun _ h _ => h) (fun i h hl => by first | exact h | omega | (dsimp only at h; omega))
   replace GS2 := GS2.trn m35
   replace B1 := B1.md m35
   have zm35 := m35.size
   refine ⟨GS2, ?_⟩
   refine D_3 (i := 0) (j := 6) (k := 8) (by kernel_rfl) ?_ ?_ ?_
   · -- operation 0 comes up
    refine E_bsN (cs := [_, _, _, _, _, _, _, _, _, _]) (i := 0) rfl Try.underlying23 zr3 sz3 rfl rfl ?_
    intro b36 w36 fb36 g36 B36
    refine ⟨GS2.grow g36, ?_⟩
    have lb36 := B36.lt
    replace RD := RD.grow g36
    replace G := G.grow g36
    replace GS2 := GS2.grow g36
    replace B1 := B1.grow g36
    have zg36 := g36.size
    refine Dq (i := 3) rfl GS2 (fun _ _ => Y_index Try.underlying23 sz3 rfl rfl (by first | assumption | omega)) ?_
    refine D_3 (i := 4) (j := 6) (k := 8) (by kernel_rfl) ?_ ?_ ?_
    · -- operation 4 comes up
     obtain ⟨op, hop, hopr⟩ := Blk.pickR (l := [1, 1, 1, 2, 3, 3, 3, 4, 5, 6]) (lo := 1) (hi := 6) B36 (k := kA) (by decide) (by show kA < 10; omega)
     refine E_val (i := 4) rfl (Y_load Try.underlying3 rfl rfl hop) GS2 ?_
     refine D_2 (i := 6) (j := 8) (by kernel_rfl) ?_ ?_
     · -- operation 6 comes up
      refine E_call rfl rfl en69 (spec_l20Rd_pick_c _ _ _ _ RD (by omega) (by omega)) ?_  -- k11 (*spec.l20Rd).pick
      rintro v38 w38 ⟨k38, rfl, hk38, RD38, m38⟩
      obtain ⟨kB, rfl⟩ : ∃ x, x = k38 := ⟨_, rfl⟩
      have hkB := hk38 (by decide)
      replace RD := RD38
      clear RD38
      replace G := Mod.trans' G m38 (fun _ h _ => h) (fun i h hl => by first | exact h | omega | (dsimp only at h; omega))
      replace GS2 := GS2.trn m38
      replace B1 := B1.md m38
      replace B36 := B36.md m38
      have zm38 := m38.size
      refine ⟨GS2, ?_⟩
      refine Dq (i := 7) rfl GS2 (fun _ _ => Y_build (cs := [_, _, _, _]) zr133 pc133 rfl rfl) ?_
      refine D_1 (i := 8) (by kernel_rfl) ?_
      refine E_alloc (cs := [_, _, _, _]) rfl zr133 rfl (fun b39 w39 fb39 g39 B39 => ⟨GS2.grow g39, ?_⟩)
      have lb39 := B39.lt
      replace RD := RD.grow g39
      replace G := G.grow g39
      replace GS2 := GS2.grow g39
      replace B1 := B1.grow g39
      replace B36 := B36.grow g39
      have zg39 := g39.size
      refine D_1 (i := 9) (by kernel_rfl) ?_
      refine E_stM (pre := []) (old := [_, _, _, _]) (post := []) (vs := [_, _, _, _]) (i := 9) rfl sz133 rfl rfl rfl (by first | rfl | assumption) B39 rfl rfl ?_
      intro w40 m40 X40
      replace B39 := Blk.eq (ys := [_, _, _, _]) X40 rfl
      clear X40
      replace G := Mod.trans' G m40 (fun _ h _ => h) (fun i h hl => by first | exact h | omega | (dsimp only at h; omega))
      replace GS2 := GS2.abv m40
      replace RD := RD.md m40
      replace B1 := B1.md m40
      replace B36 := B36.md m40
      have zm40 := m40.size
      refine ⟨GS2, ?_⟩
      refine D_en (by kernel_rfl) rfl rfl ?_
      exact ⟨rfl, _, _, _, _, rfl, rfl, rfl, rfl, rfl, rfl, (Mod.of_grow g2).trans GS2, B39, RD, by omega, hopr, ⟨by omega, by omega⟩⟩
     · -- operation 8 comes up
      refine E_alloc (cs := [_, _, _, _]) rfl zr133 rfl (fun b41 w41 fb41 g41 B41 => ⟨GS2.grow g41, ?_⟩)
      have lb41 := B41.lt
      replace RD := RD.grow g41
      replace G := G.grow g41
      replace GS2 := GS2.grow g41
      replace B1 := B1.grow g41
      replace B36 := B36.grow g41
      have zg41 := g41.size
      refine D_1 (i := 6) (by kernel_rfl) ?_
      refine E_call rfl rfl en69 (spec_l20Rd_pick_c _ _ _ _ RD (by omega) (by omega)) ?_  -- k12 (*spec.l20Rd).pick
      rintro v42 w42 ⟨k42, rfl, hk42, RD42, m42⟩
      obtain ⟨kB, rfl⟩ : ∃ x, x = k42 := ⟨_, rfl⟩
      have hkB := hk42 (by decide)
      replace RD := RD42
      clear RD42
      replace G := Mod.trans' G m42 (fun _ h _ => h) (fun i h hl => by first | exact h | omega | (dsimp only at h; omega))
      replace GS2 := GS2.trn m42
      replace B1 := B1.md m42
      replace B36 := B36.md m42
      replace B41 := B41.md m42
      have zm42 := m42.size
      refine ⟨GS2, ?_⟩
      refine Dq (i := 7) rfl GS2 (fun _ _ => Y_build (cs := [_, _, _, _]) zr133 pc133 rfl rfl) ?_
      refine D_1 (i := 9) (by kernel_rfl) ?_
      refine E_stM (pre := []) (old := [_, _, _, _]) (post := []) (vs := [_, _, _, _]) (i := 9) rfl sz133 rfl rfl rfl (by first | rfl | assumption) B41 rfl rfl ?_
      intro w43 m43 X43
      replace B41 := Blk.eq (ys := [_, _, _, _]) X43 rfl
      clear X43
      replace G := Mod.trans' G m43 (fun _ h _ => h) (fun i h hl => by first | exact h | omega | (dsimp only at h; omega))
      replace GS2 := GS2.abv m43
      replace RD := RD.md m43
      replace B1 := B1.md m43
      replace B36 := B36.md m43
      have zm43 := m43.size
      refine ⟨GS2, ?_⟩
      refine D_en (by kernel_rfl) rfl rfl ?_
      exact ⟨rfl, _, _, _, _, rfl, rfl, rfl, rfl, rfl, rfl, (Mod.of_grow g2).trans GS2, B41, RD, by omega, hopr, ⟨by omega, by omega⟩⟩
    · -- operation 6 comes up
     refine E_call rfl rfl en69 (spec_l20Rd_pick_c _ _ _ _ RD (by omega) (by omega)) ?_  -- k13 (*spec.l20Rd).pick
     rintro v44 w44 ⟨k44, rfl, hk44, RD44, m44⟩
     obtain ⟨kB, rfl⟩ : ∃ x, x = k44 := ⟨_, rfl⟩
     have hkB := hk44 (by decide)
     replace RD := RD44
     clear RD44
     replace G := Mod.trans' G m44 (fun _ h _ => h) (fun i h hl => by first | exact h | omega | (dsimp only at h; omega))
     replace GS2 := GS2.trn m44
     replace B1 := B1.md m44
     replace B36 := B36.md m44
     have zm44 := m44.size
     refine ⟨GS2, ?_⟩
     refine D_2 (i := 4) (j := 8) (by kernel_rfl) ?_ ?_
     · -- operation 4 comes up
      obtain ⟨op, hop, hopr⟩ := Blk.pickR (l := [1, 1, 1, 2, 3, 3, 3, 4, 5, 6]) (lo := 1) (hi := 6) B36 (k := kA) (by decide) (by show kA < 10; omega)
      refine E_val (i := 4) rfl (Y_load Try.underlying3 rfl rfl hop) GS2 ?_
      refine Dq (i := 7) rfl GS2 (fun _ _ => Y_build (cs := [_, _, _, _]) zr133 pc133 rfl rfl) ?_
      refine D_1 (i := 8) (by kernel_rfl) ?_
      refine E_alloc (cs := [_, _, _, _]) rfl zr133 rfl (fun b46 w46 fb46 g46 B46 => ⟨GS2.grow g46, ?_⟩)
      have lb46 := B46.lt
      replace RD := RD.grow g46
      replace G := G.grow g46
      replace GS2 := GS2.grow g46
      replace B1 := B1.grow g46
      replace B36 := B36.grow g46
      have zg46 := g46.size
      refine D_1 (i := 9) (by kernel_rfl) ?_
      refine E_stM (pre := []) (old := [_, _, _, _]) (post := []) (vs := [_, _, _, _]) (i := 9) rfl sz133 rfl rfl rfl (by first | rfl | assumption) B46 rfl rfl ?_
      intro w47 m47 X47
      replace B46 := Blk.eq (ys := [_, _, _, _]) X47 rfl
      clear X47
      replace G := Mod.trans' G m47 (fun _ h _ => h) (fun i h hl => by first | exact h | omega | (dsimp only at h; omega))
      replace GS2 := GS2.abv m47
      replace RD := RD.md m47
      replace B1 := B1.md m47
      replace B36 := B36.md m47
      have zm47 := m47.size
      refine ⟨GS2, ?_⟩
      refine D_en (by kernel_rfl) rfl rfl ?_
      exact ⟨rfl, _, _, _, _, rfl, rfl, rfl, rfl, rfl, rfl, (Mod.of_grow g2).trans GS2, B46, RD, by omega, hopr, ⟨by omega, by omega⟩⟩
     · -- operation 8 comes up
      refine E_alloc (cs := [_, _, _, _]) rfl zr133 rfl (fun b48 w48 fb48 g48 B48 => ⟨GS2.grow g48, ?_⟩)
      have lb48 := B48.lt
      replace RD := RD.grow g48
      replace G := G.grow g48
      replace GS2 := GS2.grow g48
      replace B1 := B1.grow g48
      replace B36 := B36.grow g48
      have zg48 := g48.size
      refine D_1 (i := 4) (by kernel_rfl) ?_
      obtain ⟨op, hop, hopr⟩ := Blk.pickR (l := [1, 1, 1, 2, 3, 3, 3, 4, 5, 6]) (lo := 1) (hi := 6) B36 (k := kA) (by decide) (by show kA < 10; omega)
      refine E_val (i := 4) rfl (Y_load Try.underlying3 rfl rfl hop) GS2 ?_
      refine Dq (i := 7) rfl GS2 (fun _ _ => Y_build (cs := [_, _, _, _]) zr133 pc133 rfl rfl) ?_
      refine D_1 (i := 9) (by kernel_rfl) ?_
      refine E_stM (pre := []) (old := [_, _, _, _]) (post := []) (vs := [_, _, _, _]) (i := 9) rfl sz133 rfl rfl rfl (by first | rfl | assumption) B48 rfl rfl ?_
      intro w50 m50 X50
      replace B48 := Blk.eq (ys := [_, _, _, _]) X50 rfl
      clear X50
      replace G := Mod.trans' G m50 (fun _ h _ => h) (fun i h hl => by first | exact h | omega | (dsimp only at h; omega))
      replace GS2 := GS2.abv m50
      replace RD := RD.md m50
      replace B1 := B1.md m50
      replace B36 := B36.md m50
      have zm50 := m50.size
      refine ⟨GS2, ?_⟩
      refine D_en (by kernel_rfl) rfl rfl ?_
      exact ⟨rfl, _, _, _, _, rfl, rfl, rfl, rfl, rfl, rfl, (Mod.of_grow g2).trans GS2, B48, RD, by omega, hopr, ⟨by omega, by omega⟩⟩
    · -- operation 8 comes up
     refine E_alloc (cs := [_, _, _, _]) rfl zr133 rfl (fun b51 w51 fb51 g51 B51 => ⟨GS2.grow g51, ?_⟩)
     have lb51 := B51.lt
     replace RD := RD.grow g51
     replace G := G.grow g51
     replace GS2 := GS2.grow g51
     replace B1 := B1.grow g51
     replace B36 := B36.grow g51
     have zg51 := g51.size
     refine D_2 (i := 4) (j := 6) (by kernel_rfl) ?_ ?_
     · -- operation 4 comes up
      obtain ⟨op, hop, hopr⟩ := Blk.pickR (l := [1, 1, 1, 2, 3, 3, 3, 4, 5, 6]) (lo := 1) (hi := 6) B36 (k := kA) (by decide) (by show kA < 10; omega)
      refine E_val (i := 4) rfl (Y_load Try.underlying3 rfl rfl hop) GS2 ?_
      refine D_1 (i := 6) (by kernel_rfl) ?_
      refine E_call rfl rfl en69 (spec_l20Rd_pick_c _ _ _ _ RD (by omega) (by omega)) ?_  -- k14 (*spec.l20Rd).pick
      rintro v53 w53 ⟨k53, rfl, hk53, RD53, m53⟩
      obtain ⟨kB, rfl⟩ : ∃ x, x = k53 := ⟨_, rfl⟩
      have hkB := hk53 (by decide)
      replace RD := RD53
      clear RD53
      replace G := Mod.trans' G m53 (fun _ h _ => h) (fun i h hl => by first | exact h | omega | (dsimp only at h; omega))
      replace GS2 := GS2.trn m53
      replace B1 := B1.md m53
      replace B36 := B36.md m53
      replace B51 := B51.md m53
      have zm53 := m53.size
      refine ⟨GS2, ?_⟩
      refine Dq (i := 7) rfl GS2 (fun _ _ => Y_build (cs := [_, _, _, _]) zr133 pc133 rfl rfl) ?_
      refine D_1 (i := 9) (by kernel_rfl) ?_
      refine E_stM (pre := []) (old := [_, _, _, _]) (post := []) (vs := [_, _, _, _]) (i := 9) rfl sz133 rfl rfl rfl (by first | rfl | assumption) B51 rfl rfl ?_
      intro w54 m54 X54
      replace B51 := Blk.eq (ys := [_, _, _, _]) X54 rfl
      clear X54
      replace G := Mod.trans' G m54 (fun _ h _ => h) (fun i h hl => by first | exact h | omega | (dsimp only at h; omega))
      replace GS2 := GS2.abv m54
      replace RD := RD.md m54
      replace B1 := B1.md m54
      replace B36 := B36.md m54
      have zm54 := m54.size
      refine ⟨GS2, ?_⟩
      refine D_en (by kernel_rfl) rfl rfl ?_
      exact ⟨rfl, _, _, _, _, rfl, rfl, rfl, rfl, rfl, rfl, (Mod.of_grow g2).trans GS2, B51, RD, by omega, hopr, ⟨by omega, by omega⟩⟩
     · -- operation 6 comes up
      refine E_call rfl rfl en69 (spec_l20Rd_pick_c _ _ _ _ RD (by omega) (by omega)) ?_  -- k15 (*spec.l20Rd).pick
      rintro v55 w55 ⟨k55, rfl, hk55, RD55, m55⟩
      obtain ⟨kB, rfl⟩ : ∃ x, x = k55 := ⟨_, rfl⟩
      have hkB := hk55 (by decide)
      replace RD := RD55
      clear RD55
      replace G := Mod.trans' G m55 (fun _ h _ => h) (fun i h hl => by first | exact h | omega | (dsimp only at h; omega))
      replace GS2 := GS2.trn m55
      replace B1 := B1.md m55
      replace B36 := B36.md m55
      replace B51 := B51.md m55
      have zm55 := m55.size
      refine ⟨GS2, ?_⟩
      refine D_1 (i := 4) (by kernel_rfl) ?_
      obtain ⟨op, hop, hopr⟩ := Blk.pickR (l := [1, 1, 1, 2, 3, 3, 3, 4, 5, 6]) (lo := 1) (hi := 6) B36 (k := kA) (by decide) (by show kA < 10; omega)
      refine E_val (i := 4) rfl (Y_load Try.underlying3 rfl rfl hop) GS2 ?_
      refine Dq (i := 7) rfl GS2 (fun _ _ => Y_build (cs := [_, _, _, _]) zr133 pc133 rfl rfl) ?_
      refine D_1 (i := 9) (by kernel_rfl) ?_
      refine E_stM (pre := []) (old := [_, _, _, _]) (post := []) (vs := [_, _, _, _]) (i := 9) rfl sz133 rfl rfl rfl (by first | rfl | assumption) B51 rfl rfl ?_
      intro w57 m57 X57
      replace B51 := Blk.eq (ys := [_, _, _, _]) X57 rfl
      clear X57
      replace G := Mod.trans' G m57 (fun _ h _ => h) (fun i h hl => by first | exact h | omega | (dsimp only at h; omega))
      replace GS2 := GS2.abv m57
      replace RD := RD.md m57
      replace B1 := B1.md m57
      replace B36 := B36.md m57
      have zm57 := m57.size
      refine ⟨GS2, ?_⟩
      refine D_en (by kernel_rfl) rfl rfl ?_
      exact ⟨rfl, _, _, _, _, rfl, rfl, rfl, rfl, rfl, rfl, (Mod.of_grow g2).trans GS2, B51, RD, by omega, hopr, ⟨by omega, by omega⟩⟩
   · -- operation 6 comes up
    refine E_call rfl rfl en69 (spec_l20Rd_pick_c _ _ _ _ RD (by omega) (by omega)) ?_  -- k16 (*spec.l20Rd).pick
    rintro v58 w58 ⟨k58, rfl, hk58, RD58, m58⟩
    obtain ⟨kB, rfl⟩ : ∃ x, x = k58 := ⟨_, rfl⟩
    have hkB := hk58 (by decide)
    replace RD := RD58
    clear RD58
    replace G := Mod.trans' G m58 (fun _ h _ => h) (fun i h hl => by first | exact h | omega | (dsimp only at h; omega))
    replace GS2 := GS2.trn m58
    replace B1 := B1.md m58
    have zm58 := m58.size
    refine ⟨GS2, ?_⟩
    refine D_2 (i := 0) (j := 8) (by kernel_rfl) ?_ ?_
    · -- operation 0 comes up
     refine E_bsN (cs := [_, _, _, _, _, _, _, _, _, _]) (i := 0) rfl Try.underlying23 zr3 sz3 rfl rfl ?_
     intro b59 w59 fb59 g59 B59
     refine ⟨GS2.grow g59, ?_⟩
     have lb59 := B59.lt
     replace RD := RD.grow g59
     replace G := G.grow g59
     replace GS2 := GS2.grow g59
     replace B1 := B1.grow g59
     have zg59 := g59.size
     refine Dq (i := 3) rfl GS2 (fun _ _ => Y_index Try.underlying23 sz3 rfl rfl (by first | assumption | omega)) ?_
     refine D_2 (i := 4) (j := 8) (by kernel_rfl) ?_ ?_
     · -- operation 4 comes up
      obtain ⟨op, hop, hopr⟩ := Blk.pickR (l := [1, 1, 1, 2, 3, 3, 3, 4, 5, 6]) (lo := 1) (hi := 6) B59 (k := kA) (by decide) (by show kA < 10; omega)
      refine E_val (i := 4) rfl (Y_load Try.underlying3 rfl rfl hop) GS2 ?_
      refine Dq (i := 7) rfl GS2 (fun _ _ => Y_build (cs := [_, _, _, _]) zr133 pc133 rfl rfl) ?_
      refine D_1 (i := 8) (by kernel_rfl) ?_
      refine E_alloc (cs := [_, _, _, _]) rfl zr133 rfl (fun b61 w61 fb61 g61 B61 => ⟨GS2.grow g61, ?_⟩)
      have lb61 := B61.lt
      replace RD := RD.grow g61
      replace G := G.grow g61
      replace GS2 := GS2.grow g61
      replace B1 := B1.grow g61
      replace B59 := B59.grow g61
      have zg61 := g61.size
      refine D_1 (i := 9) (by kernel_rfl) ?_
      refine E_stM (pre := []) (old := [_, _, _, _]) (post := []) (vs := [_, _, _, _]) (i := 9) rfl sz133 rfl rfl rfl (by first | rfl | assumption) B61 rfl rfl ?_
      intro w62 m62 X62
      replace B61 := Blk.eq (ys := [_, _, _, _]) X62 rfl
      clear X62
      replace G := Mod.trans' G m62 (fun _ h _ => h) (fun i h hl => by first | exact h | omega | (dsimp only at h; omega))
      replace GS2 := GS2.abv m62
      replace RD := RD.md m62
      replace B1 := B1.md m62
      replace B59 := B59.md m62
      have zm62 := m62.size
      refine ⟨GS2, ?_⟩
      refine D_en (by kernel_rfl) rfl rfl ?_
      exact ⟨rfl, _, _, _, _, rfl, rfl, rfl, rfl, rfl, rfl, (Mod.of_grow g2).trans GS2, B61, RD, by omega, hopr, ⟨by omega, by omega⟩⟩
     · -- operation 8 comes up
      refine E_alloc (cs := [_, _, _, _]) rfl zr133 rfl (fun b63 w63 fb63 g63 B63 => ⟨GS2.grow g63, ?_⟩)
      have lb63 := B63.lt
      replace RD := RD.grow g63
      replace G := G.grow g63
      replace GS2 := GS2.grow g63
      replace B1 := B1.grow g63
      replace B59 := B59.grow g63
      have zg63 := g63.size
      refine D_1 (i := 4) (by kernel_rfl) ?_
      obtain ⟨op, hop, hopr⟩ := Blk.pickR (l := [1, 1, 1, 2, 3, 3, 3, 4, 5, 6]) (lo := 1) (hi := 6) B59 (k := kA) (by decide) (by show kA < 10; omega)
      refine E_val (i := 4) rfl (Y_load Try.underlying3 rfl rfl hop) GS2 ?_
      refine Dq (i := 7) rfl GS2 (fun _ _ => Y_build (cs := [_, _, _, _]) zr133 pc133 rfl rfl) ?_
      refine D_1 (i := 9) (by kernel_rfl) ?_
      refine E_stM (pre := []) (old := [_, _, _, _]) (post := []) (vs := [_, _, _, _]) (i := 9) rfl sz133 rfl rfl rfl (by first | rfl | assumption) B63 rfl rfl ?_
      intro w65 m65 X65
      replace B63 := Blk.eq (ys := [_, _, _, _]) X65 rfl
      clear X65
      replace G := Mod.trans' G m65 (fun _ h _ => h) (fun i h hl => by first | exact h | omega | (dsimp only at h; omega))
      replace GS2 := GS2.abv m65
      replace RD := RD.md m65
      replace B1 := B1.md m65
      replace B59 := B59.md m65
      have zm65 := m65.size
      refine ⟨GS2, ?_⟩
      refine D_en (by kernel_rfl) rfl rfl ?_
      exact ⟨rfl, _, _, _, _, rfl, rfl, rfl, rfl, rfl, rfl, (Mod.of_grow g2).trans GS2, B63, RD, by omega, hopr, ⟨by omega, by omega⟩⟩
    · -- operation 8 comes up
     refine E_alloc (cs := [_, _, _, _]) rfl zr133 rfl (fun b66 w66 fb66 g66 B66 => ⟨GS2.grow g66, ?_⟩)
     have lb66 := B66.lt
     replace RD := RD.grow g66
     replace G := G.grow g66
     replace GS2 := GS2.grow g66
     replace B1 := B1.grow g66
     have zg66 := g66.size
     refine D_1 (i := 0) (by kernel_rfl) ?_
     refine E_bsN (cs := [_, _, _, _, _, _, _, _, _, _]) (i := 0) rfl Try.underlying23 zr3 sz3 rfl rfl ?_
     intro b67 w67 fb67 g67 B67
     refine ⟨GS2.grow g67, ?_⟩
     have lb67 := B67.lt
     replace RD := RD.grow g67
     replace G := G.grow g67
     replace GS2 := GS2.grow g67
     replace B1 := B1.grow g67
     replace B66 := B66.grow g67
     have zg67 := g67.size
     refine Dq (i := 3) rfl GS2 (fun _ _ => Y_index Try.underlying23 sz3 rfl rfl (by first | assumption | omega)) ?_
     refine D_1 (i := 4) (by kernel_rfl) ?_
     obtain ⟨op, hop, hopr⟩ := Blk.pickR (l := [1, 1, 1, 2, 3, 3, 3, 4, 5, 6]) (lo := 1) (hi := 6) B67 (k := kA) (by decide) (by show kA < 10; omega)
     refine E_val (i := 4) rfl (Y_load Try.underlying3 rfl rfl hop) GS2 ?_
     refine Dq (i := 7) rfl GS2 (fun _ _ => Y_build (cs := [_, _, _, _]) zr133 pc133 rfl rfl) ?_
     refine D_1 (i := 9) (by kernel_rfl) ?_
     refine E_stM (pre := []) (old := [_, _, _, _]) (post := []) (vs := [_, _, _, _]) (i := 9) rfl sz133 rfl rfl rfl (by first | rfl | assumption) B66 rfl rfl ?_
     intro w69 m69 X69
     replace B66 := Blk.eq (ys := [_, _, _, _]) X69 rfl
     clear X69
     replace G := Mod.trans' G m69 (fun _ h _ => h) (fun i h hl => by first | exact h | omega | (dsimp only at h; omega))
     replace GS2 := GS2.abv m69
     replace RD := RD.md m69
     replace B1 := B1.md m69
     replace B67 := B67.md m69
     have zm69 := m69.size
     refine ⟨GS2, ?_⟩
     refine D_en (by kernel_rfl) rfl rfl ?_
     exact ⟨rfl, _, _, _, _, rfl, rfl, rfl, rfl, rfl, rfl, (Mod.of_grow g2).trans GS2, B66, RD, by omega, hopr, ⟨by omega, by omega⟩⟩
   · -- operation 8 comes up
    refine E_alloc (cs := [_, _, _, _]) rfl zr133 rfl (fun b70 w70 fb70 g70 B70 => ⟨GS2.grow g70, ?_⟩)
    have lb70 := B70.lt
    replace RD := RD.grow g70
    replace G := G.grow g70
    replace GS2 := GS2.grow g70
    replace B1 := B1.grow g70
    have zg70 := g70.size
    refine D_2 (i := 0) (j := 6) (by kernel_rfl) ?_ ?_
    · -- operation 0 comes up
     refine E_bsN (cs := [_, _, _, _, _, _, _, _, _, _]) (i := 0) rfl Try.underlying23 zr3 sz3 rfl rfl ?_
     intro b71 w71 fb71 g71 B71
     refine ⟨GS2.grow g71, ?_⟩
     have lb71 := B71.lt
     replace RD := RD.grow g71
     replace G := G.grow g71
     replace GS2 := GS2.grow g71
     replace B1 := B1.grow g71
     replace B70 := B70.grow g71
     have zg71 := g71.size
     refine Dq (i := 3) rfl GS2 (fun _ _ => Y_index Try.underlying23 sz3 rfl rfl (by first | assumption | omega)) ?_
     refine D_2 (i := 4) (j := 6) (by kernel_rfl) ?_ ?_
     · -- operation 4 comes up
      obtain ⟨op, hop, hopr⟩ := Blk.pickR (l := [1, 1, 1, 2, 3, 3, 3, 4, 5, 6]) (lo := 1) (hi := 6) B71 (k := kA) (by decide) (by show kA < 10; omega)
      refine E_val (i := 4) rfl (Y_load Try.underlying3 rfl rfl hop) GS2 ?_
      refine D_1 (i := 6) (by kernel_rfl) ?_
      refine E_call rfl rfl en69 (spec_l20Rd_pick_c _ _ _ _ RD (by omega) (by omega)) ?_  -- k17 (*spec.l20Rd).pick
      rintro v73 w73 ⟨k73, rfl, hk73, RD73, m73⟩
      obtain ⟨kB, rfl⟩ : ∃ x, x = k73 := ⟨_, rfl⟩
      have hkB := hk73 (by decide)
      replace RD := RD73
      clear RD73
      replace G := Mod.trans' G m73 (fun _ h _ => h) (fun i h hl => by first | exact h | omega | (dsimp only at h; omega))
      replace GS2 := GS2.trn m73
      replace B1 := B1.md m73
      replace B70 := B70.md m73
      replace B71 := B71.md m73
      have zm73 := m73.size
      refine ⟨GS2, ?_⟩
      refine Dq (i := 7) rfl GS2 (fun _ _ => Y_build (cs := [_, _, _, _]) zr133 pc133 rfl rfl) ?_
      refine D_1 (i := 9) (by kernel_rfl) ?_
      refine E_stM (pre := []) (old := [_, _, _, _]) (post := []) (vs := [_, _, _, _]) (i := 9) rfl sz133 rfl rfl rfl (by first | rfl | assumption) B70 rfl rfl ?_
      intro w74 m74 X74
      replace B70 := Blk.eq (ys := [_, _, _, _]) X74 rfl
      clear X74
      replace G := Mod.trans' G m74 (fun _ h _ => h) (fun i h hl => by first | exact h | omega | (dsimp only at h; omega))
      replace GS2 := GS2.abv m74
      replace RD := RD.md m74
      replace B1 := B1.md m74
      replace B71 := B71.md m74
      have zm74 := m74.size
      refine ⟨GS2, ?_⟩
      refine D_en (by kernel_rfl) rfl rfl ?_
      exact ⟨rfl, _, _, _, _, rfl, rfl, rfl, rfl, rfl, rfl, (Mod.of_grow g2).trans GS2, B70, RD, by omega, hopr, ⟨by omega, by omega⟩⟩
     · -- operation 6 comes up
      refine E_call rfl rfl en69 (spec_l20Rd_pick_c _ _ _ _ RD (by omega) (by omega)) ?_  -- k18 (*spec.l20Rd).pick
      rintro v75 w75 ⟨k75, rfl, hk75, RD75, m75⟩
      obtain ⟨kB, rfl⟩ : ∃ x, x = k75 := ⟨_, rfl⟩
      have hkB := hk75 (by decide)
      replace RD := RD75
      clear RD75
      replace G := Mod.trans' G m75 (fun _ h _ => h) (fun i h hl => by first | exact h | omega | (dsimp only at h; omega))
      replace GS2 := GS2.trn m75
      replace B1 := B1.md m75
      replace B70 := B70.md m75
      replace B71 := B71.md m75
      have zm75 := m75.size
      refine ⟨GS2, ?_⟩
      refine D_1 (i := 4) (by kernel_rfl) ?_
      obtain ⟨op, hop, hopr⟩ := Blk.pickR (l := [1, 1, 1, 2, 3, 3, 3, 4, 5, 6]) (lo := 1) (hi := 6) B71 (k := kA) (by decide) (by show kA < 10; omega)
      refine E_val (i := 4) rfl (Y_load Try.underlying3 rfl rfl hop) GS2 ?_
      refine Dq (i := 7) rfl GS2 (fun _ _ => Y_build (cs := [_, _, _, _]) zr133 pc133 rfl rfl) ?_
      refine D_1 (i := 9) (by kernel_rfl) ?_
      refine E_stM (pre := []) (old := [_, _, _, _]) (post := []) (vs := [_, _, _, _]) (i := 9) rfl sz133 rfl rfl rfl (by first | rfl | assumption) B70 rfl rfl ?_
      intro w77 m77 X77
      replace B70 := Blk.eq (ys := [_, _, _, _]) X77 rfl
      clear X77
      replace G := Mod.trans' G m77 (fun _ h _ => h) (fun i h hl => by first | exact h | omega | (dsimp only at h; omega))
      replace GS2 := GS2.abv m77
      replace RD := RD.md m77
      replace B1 := B1.md m77
      replace B71 := B71.md m77
      have zm77 := m77.size
      refine ⟨GS2, ?_⟩
      refine D_en (by kernel_rfl) rfl rfl ?_
      exact ⟨rfl, _, _, _, _, rfl, rfl, rfl, rfl, rfl, rfl, (Mod.of_grow g2).trans GS2, B70, RD, by omega, hopr, ⟨by omega, by omega⟩⟩
    · -- operation 6 comes up
     refine E_call rfl rfl en69 (spec_l20Rd_pick_c _ _ _ _ RD (by omega) (by omega)) ?_  -- k19 (*spec.l20Rd).pick
     rintro v78 w78 ⟨k78, rfl, hk78, RD78, m78⟩
     obtain ⟨kB, rfl⟩ : ∃ x, x = k78 := ⟨_, rfl⟩
     have hkB := hk78 (by decide)
     replace RD := RD78
     clear RD78
     replace G := Mod.trans' G m78 (fun _ h _ => h) (fun i h hl => by first | exact h | omega | (dsimp only at h; omega))
     replace GS2 := GS2.trn m78
     replace B1 := B1.md m78
     replace B70 := B70.md m78
     have zm78 := m78.size
     refine ⟨GS2, ?_⟩
     refine D_1 (i := 0) (by kernel_rfl) ?_
     refine E_bsN (cs := [_, _, _, _, _, _, _, _, _, _]) (i := 0) rfl Try.underlying23 zr3 sz3 rfl rfl ?_
     intro b79 w79 fb79 g79 B79
     refine ⟨GS2.grow g79, ?_⟩
     have lb79 := B79.lt
     replace RD := RD.grow g79
     replace G := G.grow g79
     replace GS2 := GS2.grow g79
     replace B1 := B1.grow g79
     replace B70 := B70.grow g79
     have zg79 := g79.size
     refine Dq (i := 3) rfl GS2 (fun _ _ => Y_index Try.underlying23 sz3 rfl rfl (by first | assumption | omega)) ?_
     refine D_1 (i := 4) (by kernel_rfl) ?_
     obtain ⟨op, hop, hopr⟩ := Blk.pickR (l := [1, 1, 1, 2, 3, 3, 3, 4, 5, 6]) (lo := 1) (hi := 6) B79 (k := kA) (by decide) (by show kA < 10; omega)
     refine E_val (i := 4) rfl (Y_load Try.underlying3 rfl rfl hop) GS2 ?_
     refine Dq (i := 7) rfl GS2 (fun _ _ => Y_build (cs := [_, _, _, _]) zr133 pc133 rfl rfl) ?_
     refine D_1 (i := 9) (by kernel_rfl) ?_
     refine E_stM (pre := []) (old := [_, _, _, _]) (post := []) (vs := [_, _, _, _]) (i := 9) rfl sz133 rfl rfl rfl (by first | rfl | assumption) B70 rfl rfl ?_
     intro w81 m81 X81
     replace B70 := Blk.eq (ys := [_, _, _, _]) X81 rfl
     clear X81
     replace G := Mod.trans' G m81 (fun _ h _ => h) (fun i h hl => by first | exact h | omega | (dsimp only at h; omega))
     replace GS2 := GS2.abv m81
     replace RD := RD.md m81
     replace B1 := B1.md m81
     replace B79 := B79.md m81
     have zm81 := m81.size
     refine ⟨GS2, ?_⟩
     refine D_en (by kernel_rfl) rfl rfl ?_
     exact ⟨rfl, _, _, _, _, rfl, rfl, rfl, rfl, rfl, rfl, (Mod.of_grow g2).trans GS2, B70, RD, by omega, hopr, ⟨by omega, by omega⟩⟩
  · -- operation 8 comes up
   refine E_alloc (cs := [_, _, _, _]) rfl zr133 rfl (fun b82 w82 fb82 g82 B82 => ⟨GS2.grow g82, ?_⟩)
   have lb82 := B82.lt
   replace RD := RD.grow g82
   replace G := G.grow g82
   replace GS2 := GS2.grow g82
   replace B1 := B1.grow g82
   have zg82 := g82.size
   refine D_2 (i := 0) (j := 2) (by kernel_rfl) ?_ ?_
   · -- operation 0 comes up
    refine E_bsN (cs := [_, _, _, _, _, _, _, _, _, _]) (i := 0) rfl Try.underlying23 zr3 sz3 rfl rfl ?_
    intro b83 w83 fb83 g83 B83
    refine ⟨GS2.grow g83, ?_⟩
    have lb83 := B83.lt
    replace RD := RD.grow g83
    replace G := G.grow g83
    replace GS2 := GS2.grow g83
    replace B1 := B1.grow g83
    replace B82 := B82.grow g83
    have zg83 := g83.size
    refine D_1 (i := 2) (by kernel_rfl) ?_
    refine E_call rfl rfl en69 (spec_l20Rd_pick_c _ _ _ _ RD (by omega) (by omega)) ?_  -- k20 (*spec.l20Rd).pick
    rintro v84 w84 ⟨k84, rfl, hk84, RD84, m84⟩
    obtain ⟨kA, rfl⟩ : ∃ x, x = k84 := ⟨_, rfl⟩
    have hkA := hk84 (by decide)
    replace RD := RD84
    clear RD84
    replace G := Mod.trans' G m84 (fun _ h _ => h) (fun i h hl => by first | exact h | omega | (dsimp only at h; omega))
    replace GS2 := GS2.trn m84
    replace B1 := B1.md m84
    replace B82 := B82.md m84
    replace B83 := B83.md m84
    have zm84 := m84.size
    refine ⟨GS2, ?_⟩
    refine Dq (i := 3) rfl GS2 (fun _ _ => Y_index Try.underlying23 sz3 rfl rfl (by first | assumption | omega)) ?_
    refine D_2 (i := 4) (j := 6) (by kernel_rfl) ?_ ?_
    · -- operation 4 comes up
     obtain ⟨op, hop, hopr⟩ := Blk.pickR (l := [1, 1, 1, 2, 3, 3, 3, 4, 5, 6]) (lo := 1) (hi := 6) B83 (k := kA) (by decide) (by show kA < 10; omega)
     refine E_val (i := 4) rfl (Y_load Try.underlying3 rfl rfl hop) GS2 ?_
     refine D_1 (i := 6) (by kernel_rfl) ?_
     refine E_call rfl rfl en69 (spec_l20Rd_pick_c _ _ _ _ RD (by omega) (by omega)) ?_  -- k21 (*spec.l20Rd).pick
     rintro v86 w86 ⟨k86, rfl, hk86, RD86, m86⟩
     obtain ⟨kB, rfl⟩ : ∃ x, x = k86 := ⟨_, rfl⟩
     have hkB := hk86 (by decide)
     replace RD := RD86
     clear RD86
     replace G := Mod.trans' G m86 (fun _ h _ => h) (fun i h hl => by first | exact h | omega | (dsimp only at h; omega))
     replace GS2 := GS2.trn m86
     replace B1 := B1.md m86
     replace B82 := B82.md m86
     replace B83 := B83.md m86
     have zm86 := m86.size
     refine ⟨GS2, ?_⟩
     refine Dq (i := 7) rfl GS2 (fun _ _ => Y_build (cs := [_, _, _, _]) zr133 pc133 rfl rfl) ?_
     refine D_1 (i := 9) (by kernel_rfl) ?_
     refine E_stM (pre := []) (old := [_, _, _, _]) (post := []) (vs := [_, _, _, _]) (i := 9) rfl sz133 rfl rfl rfl (by first | rfl | assumption) B82 rfl rfl ?_
     intro w87 m87 X87
     replace B82 := Blk.eq (ys := [_, _, _, _]) X87 rfl
     clear X87
     replace G := Mod.trans' G m87 (fun _ h _ => h) (fun i h hl => by first | exact h | omega | (dsimp only at h; omega))
     replace GS2 := GS2.abv m87
     replace RD := RD.md m87
     replace B1 := B1.md m87
     replace B83 := B83.md m87
     have zm87 := m87.size
     refine ⟨GS2, ?_⟩
     refine D_en (by kernel_rfl) rfl rfl ?_
     exact ⟨rfl, _, _, _, _, rfl, rfl, rfl, rfl, rfl, rfl, (Mod.of_grow g2).trans GS2, B82, RD, by omega, hopr, ⟨by omega, by omega⟩⟩
    · -- operation 6 comes up
     refine E_call rfl rfl en69 (spec_l20Rd_pick_c _ _ _ _ RD (by omega) (by omega)) ?_  -- k22 (*spec.l20Rd).pick
     rintro v88 w88 ⟨k88, rfl, hk88, RD88, m88⟩
     obtain ⟨kB, rfl⟩ : ∃ x, x = k88 := ⟨_, rfl⟩
     have hkB := hk88 (by decide)
     replace RD := RD88
     clear RD88
     replace G := Mod.trans' G m88 (fun _ h _ => h) (fun i h hl => by first | exact h | omega | (dsimp only at h; omega))
     replace GS2 := GS2.trn m88
     replace B1 := B1.md m88
     replace B82 := B82.md m88
     replace B83 := B83.md m88
     have zm88 := m88.size
     refine ⟨GS2, ?_⟩
     refine D_1 (i := 4) (by kernel_rfl) ?_
     obtain ⟨op, hop, hopr⟩ := Blk.pickR (l := [1, 1, 1, 2, 3, 3, 3, 4, 5, 6]) (lo := 1) (hi := 6) B83 (k := kA) (by decide) (by show kA < 10; omega)
     refine E_val (i := 4) rfl (Y_load Try.underlying3 rfl rfl hop) GS2 ?_
     refine Dq (i := 7) rfl GS2 (fun _ _ => Y_build (cs := [_, _, _, _]) zr133 pc133 rfl rfl) ?_
     refine D_1 (i := 9) (by kernel_rfl) ?_
     refine E_stM (pre := []) (old := [_, _, _, _]) (post := []) (vs := [_, _, _, _]) (i := 9) rfl sz133 rfl rfl rfl (by first | rfl | assumption) B82 rfl rfl ?_
     intro w90 m90 X90
     replace B82 := Blk.eq (ys := [_, _, _, _]) X90 rfl
     clear X90
     replace G := Mod.trans' G m90 (fun _ h _ => h) (fun i h hl => by first | exact h | omega | (dsimp only at h; omega))
     replace GS2 := GS2.abv m90
     replace RD := RD.md m90
     replace B1 := B1.md m90
     replace B83 := B83.md m90
     have zm90 := m90.size
     refine ⟨GS2, ?_⟩
     refine D_en (by kernel_rfl) rfl rfl ?_
     exact ⟨rfl, _, _, _, _, rfl, rfl, rfl, rfl, rfl, rfl, (Mod.of_grow g2).trans GS2, B82, RD, by omega, hopr, ⟨by omega, by omega⟩⟩
   · -- operation 2 comes up
    refine E_call rfl rfl en69 (spec_l20Rd_pick_c _ _ _ _ RD (by omega) (by omega)) ?_  -- k23 (*spec.l20Rd).pick
    rintro v91 w91 ⟨k91, rfl, hk91, RD91, m91⟩
    obtain ⟨kA, rfl⟩ : ∃ x, x = k91 := ⟨_, rfl⟩
    have hkA := hk91 (by decide)
    replace RD := RD91
    clear RD91
    replace G := Mod.trans' G m91 (fun _ h _ => h) (fun i h hl => by first | exact h | omega | (dsimp only at h; omega))
    replace GS2 := GS2.trn m91
    replace B1 := B1.md m91
    replace B82 := B82.md m91
    have zm91 := m91.size
    refine ⟨GS2, ?_⟩
    refine D_2 (i := 0) (j := 6) (by kernel_rfl) ?_ ?_
    · -- operation 0 comes up
     refine E_bsN (cs := [_, _, _, _, _, _, _, _, _, _]) (i := 0) rfl Try.underlying23 zr3 sz3 rfl rfl ?_
     intro b92 w92 fb92 g92 B92
     refine ⟨GS2.grow g92, ?_⟩
     have lb92 := B92.lt
     replace RD := RD.grow g92
     replace G := G.grow g92
     replace GS2 := GS2.grow g92
     replace B1 := B1.grow g92
     replace B82 := B82.grow g92
     have zg92 := g92.size
     refine Dq (i := 3) rfl GS2 (fun _ _ => Y_index Try.underlying23 sz3 rfl rfl (by first | assumption | omega)) ?_
     refine D_2 (i := 4) (j := 6) (by kernel_rfl) ?_ ?_
     · -- operation 4 comes up
      obtain ⟨op, hop, hopr⟩ := Blk.pickR (l := [1, 1, 1, 2, 3, 3, 3, 4, 5, 6]) (lo := 1) (hi := 6) B92 (k := kA) (by decide) (by show kA < 10; omega)
      refine E_val (i := 4) rfl (Y_load Try.underlying3 rfl rfl hop) GS2 ?_
      refine D_1 (i := 6) (by kernel_rfl) ?_
      refine E_call rfl rfl en69 (spec_l20Rd_pick_c _ _ _ _ RD (by omega) (by omega)) ?_  -- k24 (*spec.l20Rd).pick
      rintro v94 w94 ⟨k94, rfl, hk94, RD94, m94⟩
      obtain ⟨kB, rfl⟩ : ∃ x, x = k94 := ⟨_, rfl⟩
      have hkB := hk94 (by decide)
      replace RD := RD94
      clear RD94
      replace G := Mod.trans' G m94 (fun _ h _ => h) (fun i h hl => by first | exact h | omega | (dsimp only at h; omega))
      replace GS2 := GS2.trn m94
      replace B1 := B1.md m94
      replace B82 := B82.md m94
      replace B92 := B92.md m94
      have zm94 := m94.size
      refine ⟨GS2, ?_⟩
      refine Dq (i := 7) rfl GS2 (fun _ _ => Y_build (cs := [_, _, _, _]) zr133 pc133 rfl rfl) ?_
      refine D_1 (i := 9) (by kernel_rfl) ?_
      refine E_stM (pre := []) (old := [_, _, _, _]) (post := []) (vs := [_, _, _, _]) (i := 9) rfl sz133 rfl rfl rfl (by first | rfl | assumption) B82 rfl rfl ?_
      intro w95 m95 X95
      replace B82 := Blk.eq (ys := [_, _, _, _]) X95 rfl
      clear X95
      replace G := Mod.trans' G m95 (fun _ h _ => h) (fun i h hl => by first | exact h | omega | (dsimp only at h; omega))
      replace GS2 := GS2.abv m95
      replace RD := RD.md m95
      replace B1 := B1.md m95
      replace B92 := B92.md m95
      have zm95 := m95.size
      refine ⟨GS2, ?_⟩
      refine D_en (by kernel_rfl) rfl rfl ?_
      exact ⟨rfl, _, _, _, _, rfl, rfl, rfl, rfl, rfl, rfl, (Mod.of_grow g2).trans GS2, B82, RD, by omega, hopr, ⟨by omega, by omega⟩⟩
     · -- operation 6 comes up
      refine E_call rfl rfl en69 (spec_l20Rd_pick_c _ _ _ _ RD (by omega) (by omega)) ?_  -- k25 (*spec.l20Rd).pick
      rintro v96 w96 ⟨k96, rfl, hk96, RD96, m96⟩
      obtain ⟨kB, rfl⟩ : ∃ x, x = k96 := ⟨_, rfl⟩
      have hkB := hk96 (by decide)
      replace RD := RD96
      clear RD96
      replace G := Mod.trans' G m96 (fun _ h _ => h) (fun i h hl => by first | exact h | omega | (dsimp only at h; omega))
      replace GS2 := GS2.trn m96
      replace B1 := B1.md m96
      replace B82 := B82.md m96
      replace B92 := B92.md m96
      have zm96 := m96.size
      refine ⟨GS2, ?_⟩
      refine D_1 (i := 4) (by kernel_rfl) ?_
      obtain ⟨op, hop, hopr⟩ := Blk.pickR (l := [1, 1, 1, 2, 3, 3, 3, 4, 5, 6]) (lo := 1) (hi := 6) B92 (k := kA) (by decide) (by show kA < 10; omega)
      refine E_val (i := 4) rfl (Y_load Try.underlying3 rfl rfl hop) GS2 ?_
      refine Dq (i := 7) rfl GS2 (fun _ _ => Y_build (cs := [_, _, _, _]) zr133 pc133 rfl rfl) ?_
      refine D_1 (i := 9) (by kernel_rfl) ?_
      refine E_stM (pre := []) (old := [_, _, _, _]) (post := []) (vs := [_, _, _, _]) (i := 9) rfl sz133 rfl rfl rfl (by first | rfl | assumption) B82 rfl rfl ?_
      intro w98 m98 X98
      replace B82 := Blk.eq (ys := [_, _, _, _]) X98 rfl
      clear X98
      replace G := Mod.trans' G m98 (fun _ h _ => h) (fun i h hl => by first | exact h | omega | (dsimp only at h; omega))
      replace GS2 := GS2.abv m98
      replace RD := RD.md m98
      replace B1 := B1.md m98
      replace B92 := B92.md m98
      have zm98 := m98.size
      refine ⟨GS2, ?_⟩
      refine D_en (by kernel_rfl) rfl rfl ?_
      exact ⟨rfl, _, _, _, _, rfl, rfl, rfl, rfl, rfl, rfl, (Mod.of_grow g2).trans GS2, B82, RD, by omega, hopr, ⟨by omega, by omega⟩⟩
    · -- operation 6 comes up
     refine E_call rfl rfl en69 (spec_l20Rd_pick_c _ _ _ _ RD (by omega) (by omega)) ?_  -- k26 (*spec.l20Rd).pick
     rintro v99 w99 ⟨k99, rfl, hk99, RD99, m99⟩
     obtain ⟨kB, rfl⟩ : ∃ x, x = k99 := ⟨_, rfl⟩
     have hkB := hk99 (by decide)
     replace RD := RD99
     clear RD99
     replace G := Mod.trans' G m99 (fun _ h _ => h) (fun i h hl => by first | exact h | omega | (dsimp only at h; omega))
     replace GS2 := GS2.trn m99
     replace B1 := B1.md m99
     replace B82 := B82.md m99
     have zm99 := m99.size
     refine ⟨GS2, ?_⟩
     refine D_1 (i := 0) (by kernel_rfl) ?_
     refine E_bsN (cs := [_, _, _, _, _, _, _, _, _, _]) (i := 0) rfl Try.underlying23 zr3 sz3 rfl rfl ?_
     intro b100 w100 fb100 g100 B100
     refine ⟨GS2.grow g100, ?_⟩
     have lb100 := B100.lt
     replace RD := RD.grow g100
     replace G := G.grow g100
     replace GS2 := GS2.grow g100
     replace B1 := B1.grow g100
     replace B82 := B82.grow g100
     have zg100 := g100.size
     refine Dq (i := 3) rfl GS2 (fun _ _ => Y_index Try.underlying23 sz3 rfl rfl (by first | assumption | omega)) ?_
     refine D_1 (i := 4) (by kernel_rfl) ?_
     obtain ⟨op, hop, hopr⟩ := Blk.pickR (l := [1, 1, 1, 2, 3, 3, 3, 4, 5, 6]) (lo := 1) (hi := 6) B100 (k := kA) (by decide) (by show kA < 10; omega)
     refine E_val (i := 4) rfl (Y_load Try.underlying3 rfl rfl hop) GS2 ?_
     refine Dq (i := 7) rfl GS2 (fun _ _ => Y_build (cs := [_, _, _, _]) zr133 pc133 rfl rfl) ?_
     refine D_1 (i := 9) (by kernel_rfl) ?_
     refine E_stM (pre := []) (old := [_, _, _, _]) (post := []) (vs := [_, _, _, _]) (i := 9) rfl sz133 rfl rfl rfl (by first | rfl | assumption) B82 rfl rfl ?_
     intro w102 m102 X102
     replace B82 := Blk.eq (ys := [_, _, _, _]) X102 rfl
     clear X102
     replace G := Mod.trans' G m102 (fun _ h _ => h) (fun i h hl => by first | exact h | omega | (dsimp only at h; omega))
     replace GS2 := GS2.abv m102
     replace RD := RD.md m102
     replace B1 := B1.md m102
     replace B100 := B100.md m102
     have zm102 := m102.size
     refine ⟨GS2, ?_⟩
     refine D_en (by kernel_rfl) rfl rfl ?_
     exact ⟨rfl, _, _, _, _, rfl, rfl, rfl, rfl, rfl, rfl, (Mod.of_grow g2).trans GS2, B82, RD, by omega, hopr, ⟨by omega, by omega⟩⟩
 · -- behind the cut
  rintro a' w3 ⟨b5, op, a, L, rfl, hL, hs0, hs1, hs4, hs5, gJ3, B5, RD, hb5, hop, ha⟩
  obtain ⟨x, rfl⟩ : ∃ x : Nat → Value, L = [(.pointer (some ⟨bR, 0, none⟩)), (.int .i64 n), x 2, x 3, (.pointer (some ⟨b1, 0, none⟩)), (.pointer (some ⟨b5, 0, none⟩)), x 6, x 7, x 8, x 9, x 10, x 11, x 12, x 13, x 14, x 15, x 16, x 17, x 18, x 19, x 20, x 21, x 22, x 23, x 24, x 25, x 26, x 27, x 28, x 29, x 30, x 31, x 32, x 33, x 34, x 35, x 36, x 37, x 38, x 39, x 40, x 41, x 42, x 43, x 44, x 45, x 46, x 47, x 48, x 49, x 50, x 51, x 52, x 53, x 54, x 55, x 56, x 57, x 58, x 59, x 60, x 61, x 62, x 63, x 64, x 65, x 66, x 67, x 68, x 69, x 70, x 71, x 72, x 73, x 74, x 75, x 76, x 77, x 78, x 79, x 80, x 81, x 82, x 83, x 84, x 85, x 86, x 87, x 88, x 89] := ⟨fun i => L.getD i undef, (slots_eta L 90 hL).trans (by show [L.getD 0 undef, L.getD 1 undef, L.getD 2 undef, L.getD 3 undef, L.getD 4 undef, L.getD 5 undef, L.getD 6 undef, L.getD 7 undef, L.getD 8 undef, L.getD 9 undef, L.getD 10 undef, L.getD 11 undef, L.getD 12 undef, L.getD 13 undef, L.getD 14 undef, L.getD 15 undef, L.getD 16 undef, L.getD 17 undef, L.getD 18 undef, L.getD 19 undef, L.getD 20 undef, L.getD 21 undef, L.getD 22 undef, L.getD 23 undef, L.getD 24 undef, L.getD 25 undef, L.getD 26 undef, L.getD 27 undef, L.getD 28 undef, L.getD 29 undef, L.getD 30 undef, L.getD 31 undef, L.getD 32 undef, L.getD 33 undef, L.getD 34 undef, L.getD 35 undef, L.getD 36 undef, L.getD 37 undef, L.getD 38 undef, L.getD 39 undef, L.getD 40 undef, L.getD 41 undef, L.getD 42 undef, L.getD 43 undef, L.getD 44 undef, L.getD 45 undef, L.getD 46 undef, L.getD 47 undef, L.getD 48 undef, L.getD 49 undef, L.getD 50 undef, L.getD 51 undef, L.getD 52 undef, L.getD 53 undef, L.getD 54 undef, L.getD 55 undef, L.getD 56 undef, L.getD 57 undef, L.getD 58 undef, L.getD 59 undef, L.getD 60 undef, L.getD 61 undef, L.getD 62 undef, L.getD 63 undef, L.getD 64 undef, L.getD 65 undef, L.getD 66 undef, L.getD 67 undef, L.getD 68 undef, L.getD 69 undef, L.getD 70 undef, L.getD 71 undef, L.getD 72 undef, L.getD 73 undef, L.getD 74 undef, L.getD 75 undef, L.getD 76 undef, L.getD 77 undef, L.getD 78 undef, L.getD 79 undef, L.getD 80 undef, L.getD 81 undef, L.getD 82 undef, L.getD 83 undef, L.getD 84 undef, L.getD 85 undef, L.getD 86 undef, L.getD 87 undef, L.getD 88 undef, L.getD 89 undef] = _; rw [slot_d hs0, slot_d hs1, slot_d hs4, slot_d hs5])⟩
  clear hL hs0 hs1 hs4 hs5
  replace G := Mod.trans' G gJ3 (fun _ h _ => h) (fun i h hl => by first | exact h | omega | (dsimp only at h; omega))
  replace B1 := B1.md gJ3
  have zgJ3 := gJ3.size
  have lb5 := B5.lt
  refine th_n (hK2 _ _ ?_)
  clear hK2 K2
  refine wp_seq_k fun K3 hK3 => ?_
  refine wp_seq_k fun K4 hK4 => ?_
  refine Sb 90 rfl ?_  -- 2
  refine S_val (Y_field Try.underlying133 rfl fz133_0 (by decide) rfl) ?_
  refine S_val (Y_load Try.underlying3 rfl rfl (B5.at (by rfl))) ?_  -- l1
  refine S_nl rfl rfl ?_
  refine th_n (hK4 _ _ ?_)
  clear hK4 K4
  refine D_cut (fun a' w' => ∃ (op2 a2 b2 c2 : Int) (p2 : Nat) (L : List Value), a' = ⟨L.toArray, []⟩ ∧ L.length = 90 ∧ L[0]? = some (.pointer (some ⟨bR, 0, none⟩)) ∧ L[1]? = some (.int .i64 n) ∧ L[4]? = some (.pointer (some ⟨b1, 0, none⟩)) ∧ L[5]? = some (.pointer (some ⟨b5, 0, none⟩)) ∧ Mod (fun i => i = bR ∨ i = b5) w3 w' ∧ (Blk w' b5 133 [.int .i64 op2, .int .i64 a2, .int .i64 b2, .int .i64 c2].toArray) ∧ (Rd w' bR p2) ∧ (cvB ⟨op2, a2, b2, c2⟩ = true) ∧ (p2 ≤ p + 10)) ?_ ?_
  · -- cut
   have GC103 := Mod.refl (fun i => i = bR ∨ i = b5) w3
   refine wp_block ?_
   refine wp_seq_k fun K5 hK5 => ?_
   refine Sb 90 rfl ?_  -- 3
   refine S_val (Y_eql rfl rfl) ?_
   refine S_val (Y_assign rfl) ?_
   refine S_nl rfl rfl ?_
   refine th_n (hK5 _ _ ?_)
   clear hK5 K5
   refine S_if rfl (fun hb1 => ?_) (fun hb1 => ?_)  -- c1
   · -- c1T
    replace hb1 := nb_tt hb1
    refine wp_seq_k fun K6 hK6 => ?_
    refine Sb 90 rfl ?_  -- 4
    refine S_val (Y_move rfl) ?_
    refine S_call rfl en69 (spec_l20Rd_pick_c _ _ _ _ RD (by omega) (by omega)) ?_  -- k27 (*spec.l20Rd).pick
    rintro v105 w105 ⟨k105, rfl, hk105, RD105, m105⟩
    obtain ⟨kC, rfl⟩ : ∃ x, x = k105 := ⟨_, rfl⟩
    have hkC := hk105 (by decide)
    replace RD := RD105
    clear RD105
    replace G := Mod.trans' G m105 (fun _ h _ => h) (fun i h hl => by first | exact h | omega | (dsimp only at h; omega))
    replace GC103 := GC103.trn m105
    replace B1 := B1.md m105
    replace B5 := B5.md m105
    have zm105 := m105.size
    refine S_val (Y_move rfl) ?_
    refine S_call rfl en69 (spec_l20Rd_pick_c _ _ _ _ RD (by omega) (by omega)) ?_  -- k28 (*spec.l20Rd).pick
    rintro v106 w106 ⟨k106, rfl, hk106, RD106, m106⟩
    obtain ⟨kD, rfl⟩ : ∃ x, x = k106 := ⟨_, rfl⟩
    have hkD := hk106 (by decide)
    replace RD := RD106
    clear RD106
    replace G := Mod.trans' G m106 (fun _ h _ => h) (fun i h hl => by first | exact h | omega | (dsimp only at h; omega))
    replace GC103 := GC103.trn m106
    replace B1 := B1.md m106
    replace B5 := B5.md m106
    have zm106 := m106.size
    refine S_val (Y_add rfl rfl rfl (by omega) (by omega)) ?_
    refine S_bsN (cs := [_, _]) Try.underlying23 zr3 sz3 rfl rfl ?_
    intro b107 w107 fb107 g107 B107
    have lb107 := B107.lt
    replace RD := RD.grow g107
    replace G := G.grow g107
    replace GC103 := GC103.grow g107
    replace B1 := B1.grow g107
    replace B5 := B5.grow g107
    have zg107 := g107.size
    refine S_val (Y_move rfl) ?_
    refine S_call rfl en69 (spec_l20Rd_pick_c _ _ _ _ RD (by omega) (by omega)) ?_  -- k29 (*spec.l20Rd).pick
    rintro v108 w108 ⟨k108, rfl, hk108, RD108, m108⟩
    obtain ⟨kE, rfl⟩ : ∃ x, x = k108 := ⟨_, rfl⟩
    have hkE := hk108 (by decide)
    replace RD := RD108
    clear RD108
    replace G := Mod.trans' G m108 (fun _ h _ => h) (fun i h hl => by first | exact h | omega | (dsimp only at h; omega))
    replace GC103 := GC103.trn m108
    replace B1 := B1.md m108
    replace B5 := B5.md m108
    replace B107 := B107.md m108
    have zm108 := m108.size
    obtain ⟨eB, heB, heBr⟩ := Blk.pickR (l := [(kC : Int), 1 + (kD : Int)]) (lo := 0) (hi := 3) B107 (k := kE) (by intro x hx; simp only [List.mem_cons, List.not_mem_nil, or_false] at hx; omega) (by show kE < 2; omega)
    refine S_val (Y_index Try.underlying23 sz3 rfl rfl (by first | assumption | omega)) ?_
    refine S_val (Y_load Try.underlying3 rfl rfl heB) ?_  -- l2
    refine S_val (Y_field Try.underlying133 rfl fz133_2 (by decide) rfl) ?_
    refine S_stM (pre := [_, _]) (old := [_]) (post := [_]) (vs := [_]) sz3 rfl rfl rfl (by first | rfl | assumption) B5 rfl rfl ?_
    intro w109 m109 X109
    replace B5 := Blk.eq (ys := [_, _, _, _]) X109 rfl
    clear X109
    replace G := Mod.trans' G m109 (fun _ h _ => h) (fun i h hl => by first | exact h | omega | (dsimp only at h; omega))
    replace GC103 := GC103.trn m109
    replace RD := RD.md m109
    replace B1 := B1.md m109
    replace B107 := B107.md m109
    have zm109 := m109.size
    refine S_nl rfl rfl ?_
    refine th_n (hK6 _ _ ?_)
    clear hK6 K6
    refine Sb 90 rfl ?_  -- 5
    refine S_val (Y_move rfl) ?_
    refine S_call rfl en69 (spec_l20Rd_pick_c _ _ _ _ RD (by omega) (by omega)) ?_  -- k30 (*spec.l20Rd).pick
    rintro v110 w110 ⟨k110, rfl, hk110, RD110, m110⟩
    obtain ⟨kF, rfl⟩ : ∃ x, x = k110 := ⟨_, rfl⟩
    have hkF := hk110 (by decide)
    replace RD := RD110
    clear RD110
    replace G := Mod.trans' G m110 (fun _ h _ => h) (fun i h hl => by first | exact h | omega | (dsimp only at h; omega))
    replace GC103 := GC103.trn m110
    replace B1 := B1.md m110
    replace B5 := B5.md m110
    replace B107 := B107.md m110
    have zm110 := m110.size
    refine S_val (Y_field Try.underlying133 rfl fz133_3 (by decide) rfl) ?_
    refine S_stM (pre := [_, _, _]) (old := [_]) (post := []) (vs := [_]) sz3 rfl rfl rfl (by first | rfl | assumption) B5 rfl rfl ?_
    intro w111 m111 X111
    replace B5 := Blk.eq (ys := [_, _, _, _]) X111 rfl
    clear X111
    replace G := Mod.trans' G m111 (fun _ h _ => h) (fun i h hl => by first | exact h | omega | (dsimp only at h; omega))
    replace GC103 := GC103.trn m111
    replace RD := RD.md m111
    replace B1 := B1.md m111
    replace B107 := B107.md m111
    have zm111 := m111.size
    refine S_nl rfl rfl ?_
    refine ib_n ?_
    exact ⟨rfl, _, _, _, _, _, _, rfl, rfl, rfl, rfl, rfl, rfl, GC103, B5, RD, decide_eq_true (by unfold cvP; dsimp only; omega), by omega⟩
   · -- c1F
    replace hb1 := nb_tf hb1
    refine wp_seq_k fun K7 hK7 => ?_
    refine wp_seq_k fun K8 hK8 => ?_
    refine Sb 90 rfl ?_  -- 6
    refine S_val (Y_eql rfl rfl) ?_
    refine S_val (Y_assign rfl) ?_
    refine S_nl rfl rfl ?_
    refine th_n (hK8 _ _ ?_)
    clear hK8 K8
    refine S_if rfl (fun hb2 => ?_) (fun hb2 => ?_)  -- c2
    · -- c2T
     replace hb2 := nb_tt hb2
     refine wp_skip ?_
     refine th_n (hK7 _ _ ?_)
     clear hK7 K7
     refine S_if rfl (fun hb3 => ?_) (fun hb3 => ?_)  -- c3
     · -- c3T
      replace hb3 := nb_tt hb3
      refine wp_seq_k fun K9 hK9 => ?_
      refine Sb 90 rfl ?_  -- 8
      refine S_val (Y_move rfl) ?_
      refine S_call rfl en69 (spec_l20Rd_pick_c _ _ _ _ RD (by omega) (by omega)) ?_  -- k31 (*spec.l20Rd).pick
      rintro v112 w112 ⟨k112, rfl, hk112, RD112, m112⟩
      obtain ⟨kG, rfl⟩ : ∃ x, x = k112 := ⟨_, rfl⟩
      have hkG := hk112 (by decide)
      replace RD := RD112
      clear RD112
      replace G := Mod.trans' G m112 (fun _ h _ => h) (fun i h hl => by first | exact h | omega | (dsimp only at h; omega))
      replace GC103 := GC103.trn m112
      replace B1 := B1.md m112
      replace B5 := B5.md m112
      have zm112 := m112.size
      refine S_val (Y_field Try.underlying133 rfl fz133_2 (by decide) rfl) ?_
      refine S_stM (pre := [_, _]) (old := [_]) (post := [_]) (vs := [_]) sz3 rfl rfl rfl (by first | rfl | assumption) B5 rfl rfl ?_
      intro w113 m113 X113
      replace B5 := Blk.eq (ys := [_, _, _, _]) X113 rfl
      clear X113
      replace G := Mod.trans' G m113 (fun _ h _ => h) (fun i h hl => by first | exact h | omega | (dsimp only at h; omega))
      replace GC103 := GC103.trn m113
      replace RD := RD.md m113
      replace B1 := B1.md m113
      have zm113 := m113.size
      refine S_nl rfl rfl ?_
      refine th_n (hK9 _ _ ?_)
      clear hK9 K9
      refine Sb 90 rfl ?_  -- 9
      refine S_val (Y_move rfl) ?_
      refine S_val (Y_move rfl) ?_
      refine S_call rfl en69 (spec_l20Rd_pick_c _ _ _ _ RD (by omega) (by omega)) ?_  -- k32 (*spec.l20Rd).pick
      rintro v114 w114 ⟨k114, rfl, hk114, RD114, m114⟩
      obtain ⟨kH, rfl⟩ : ∃ x, x = k114 := ⟨_, rfl⟩
      have hkH := hk114 (by decide)
      replace RD := RD114
      clear RD114
      replace G := Mod.trans' G m114 (fun _ h _ => h) (fun i h hl => by first | exact h | omega | (dsimp only at h; omega))
      replace GC103 := GC103.trn m114
      replace B1 := B1.md m114
      replace B5 := B5.md m114
      have zm114 := m114.size
      refine S_val (Y_add rfl rfl rfl (by omega) (by omega)) ?_
      refine S_call rfl en69 (spec_l20Rd_pick_c _ _ _ _ RD (by omega) (by omega)) ?_  -- k33 (*spec.l20Rd).pick
      rintro v115 w115 ⟨k115, rfl, hk115, RD115, m115⟩
      obtain ⟨kI, rfl⟩ : ∃ x, x = k115 := ⟨_, rfl⟩
      have hkI := hk115 (by omega)
      replace RD := RD115
      clear RD115
      replace G := Mod.trans' G m115 (fun _ h _ => h) (fun i h hl => by first | exact h | omega | (dsimp only at h; omega))
      replace GC103 := GC103.trn m115
      replace B1 := B1.md m115
      replace B5 := B5.md m115
      have zm115 := m115.size
      refine S_val (Y_field Try.underlying133 rfl fz133_3 (by decide) rfl) ?_
      refine S_stM (pre := [_, _, _]) (old := [_]) (post := []) (vs := [_]) sz3 rfl rfl rfl (by first | rfl | assumption) B5 rfl rfl ?_
      intro w116 m116 X116
      replace B5 := Blk.eq (ys := [_, _, _, _]) X116 rfl
      clear X116
      replace G := Mod.trans' G m116 (fun _ h _ => h) (fun i h hl => by first | exact h | omega | (dsimp only at h; omega))
      replace GC103 := GC103.trn m116
      replace RD := RD.md m116
      replace B1 := B1.md m116
      have zm116 := m116.size
      refine S_nl rfl rfl ?_
      refine ib_n ?_
      exact ⟨rfl, _, _, _, _, _, _, rfl, rfl, rfl, rfl, rfl, rfl, GC103, B5, RD, decide_eq_true (by unfold cvP; dsimp only; omega), by omega⟩
     · -- c3F
      replace hb3 := nb_tf hb3
      refine wp_seq_k fun K10 hK10 => ?_
      refine Sb 90 rfl ?_  -- 10
      refine S_val (Y_eql rfl rfl) ?_
      refine S_val (Y_assign rfl) ?_
      refine S_nl rfl rfl ?_
      refine th_n (hK10 _ _ ?_)
      clear hK10 K10
      refine S_if rfl (fun hb4 => ?_) (fun hb4 => ?_)  -- c4
      · -- c4T
       replace hb4 := nb_tt hb4
       refine Sb 90 rfl ?_  -- 11
       refine S_val (Y_move rfl) ?_
       refine S_call rfl en69 (spec_l20Rd_pick_c _ _ _ _ RD (by omega) (by omega)) ?_  -- k34 (*spec.l20Rd).pick
       rintro v117 w117 ⟨k117, rfl, hk117, RD117, m117⟩
       obtain ⟨kJ, rfl⟩ : ∃ x, x = k117 := ⟨_, rfl⟩
       have hkJ := hk117 (by decide)
       replace RD := RD117
       clear RD117
       replace G := Mod.trans' G m117 (fun _ h _ => h) (fun i h hl => by first | exact h | omega | (dsimp only at h; omega))
       replace GC103 := GC103.trn m117
       replace B1 := B1.md m117
       replace B5 := B5.md m117
       have zm117 := m117.size
       refine S_val (Y_field Try.underlying133 rfl fz133_2 (by decide) rfl) ?_
       refine S_stM (pre := [_, _]) (old := [_]) (post := [_]) (vs := [_]) sz3 rfl rfl rfl (by first | rfl | assumption) B5 rfl rfl ?_
       intro w118 m118 X118
       replace B5 := Blk.eq (ys := [_, _, _, _]) X118 rfl
       clear X118
       replace G := Mod.trans' G m118 (fun _ h _ => h) (fun i h hl => by first | exact h | omega | (dsimp only at h; omega))
       replace GC103 := GC103.trn m118
       replace RD := RD.md m118
       replace B1 := B1.md m118
       have zm118 := m118.size
       refine S_nl rfl rfl ?_
       refine ib_n ?_
       exact ⟨rfl, _, _, _, _, _, _, rfl, rfl, rfl, rfl, rfl, rfl, GC103, B5, RD, decide_eq_true (by unfold cvP; dsimp only; omega), by omega⟩
      · -- c4F
       replace hb4 := nb_tf hb4
       refine wp_seq_k fun K11 hK11 => ?_
       refine Sb 90 rfl ?_  -- 12
       refine S_val (Y_eql rfl rfl) ?_
       refine S_val (Y_assign rfl) ?_
       refine S_nl rfl rfl ?_
       refine th_n (hK11 _ _ ?_)
       clear hK11 K11
       refine S_if rfl (fun hb5 => ?_) (fun hb5 => ?_)  -- c5
       · -- c5T
        replace hb5 := nb_tt hb5
        refine Sb 90 rfl ?_  -- 13
        refine S_val (Y_move rfl) ?_
        refine S_call rfl en69 (spec_l20Rd_pick_c _ _ _ _ RD (by omega) (by omega)) ?_  -- k35 (*spec.l20Rd).pick
        rintro v119 w119 ⟨k119, rfl, hk119, RD119, m119⟩
        obtain ⟨kK, rfl⟩ : ∃ x, x = k119 := ⟨_, rfl⟩
        have hkK := hk119 (by decide)
        replace RD := RD119
        clear RD119
        replace G := Mod.trans' G m119 (fun _ h _ => h) (fun i h hl => by first | exact h | omega | (dsimp only at h; omega))
        replace GC103 := GC103.trn m119
        replace B1 := B1.md m119
        replace B5 := B5.md m119
        have zm119 := m119.size
        refine S_val (Y_field Try.underlying133 rfl fz133_2 (by decide) rfl) ?_
        refine S_stM (pre := [_, _]) (old := [_]) (post := [_]) (vs := [_]) sz3 rfl rfl rfl (by first | rfl | assumption) B5 rfl rfl ?_
        intro w120 m120 X120
        replace B5 := Blk.eq (ys := [_, _, _, _]) X120 rfl
        clear X120
        replace G := Mod.trans' G m120 (fun _ h _ => h) (fun i h hl => by first | exact h | omega | (dsimp only at h; omega))
        replace GC103 := GC103.trn m120
        replace RD := RD.md m120
        replace B1 := B1.md m120
        have zm120 := m120.size
        refine S_nl rfl rfl ?_
        refine ib_n ?_
        exact ⟨rfl, _, _, _, _, _, _, rfl, rfl, rfl, rfl, rfl, rfl, GC103, B5, RD, decide_eq_true (by unfold cvP; dsimp only; omega), by omega⟩
       · -- c5F
        replace hb5 := nb_tf hb5
        refine wp_skip ?_
        refine ib_n ?_
        exact ⟨rfl, _, _, _, _, _, _, rfl, rfl, rfl, rfl, rfl, rfl, GC103, B5, RD, decide_eq_true (by unfold cvP; dsimp only; omega), by omega⟩
    · -- c2F
     replace hb2 := nb_tf hb2
     refine Sb 90 rfl ?_  -- 7
     refine S_val (Y_eql rfl rfl) ?_
     refine S_val (Y_assign rfl) ?_
     refine S_nl rfl rfl ?_
     refine th_n (hK7 _ _ ?_)
     clear hK7 K7
     refine S_if rfl (fun hb3 => ?_) (fun hb3 => ?_)  -- c6
     · -- c6T
      replace hb3 := nb_tt hb3
      refine wp_seq_k fun K12 hK12 => ?_
      refine Sb 90 rfl ?_  -- 8
      refine S_val (Y_move rfl) ?_
      refine S_call rfl en69 (spec_l20Rd_pick_c _ _ _ _ RD (by omega) (by omega)) ?_  -- k36 (*spec.l20Rd).pick
      rintro v121 w121 ⟨k121, rfl, hk121, RD121, m121⟩
      obtain ⟨kG, rfl⟩ : ∃ x, x = k121 := ⟨_, rfl⟩
      have hkG := hk121 (by decide)
      replace RD := RD121
      clear RD121
      replace G := Mod.trans' G m121 (fun _ h _ => h) (fun i h hl => by first | exact h | omega | (dsimp only at h; omega))
      replace GC103 := GC103.trn m121
      replace B1 := B1.md m121
      replace B5 := B5.md m121
      have zm121 := m121.size
      refine S_val (Y_field Try.underlying133 rfl fz133_2 (by decide) rfl) ?_
      refine S_stM (pre := [_, _]) (old := [_]) (post := [_]) (vs := [_]) sz3 rfl rfl rfl (by first | rfl | assumption) B5 rfl rfl ?_
      intro w122 m122 X122
      replace B5 := Blk.eq (ys := [_, _, _, _]) X122 rfl
      clear X122
      replace G := Mod.trans' G m122 (fun _ h _ => h) (fun i h hl => by first | exact h | omega | (dsimp only at h; omega))
      replace GC103 := GC103.trn m122
      replace RD := RD.md m122
      replace B1 := B1.md m122
      have zm122 := m122.size
      refine S_nl rfl rfl ?_
      refine th_n (hK12 _ _ ?_)
      clear hK12 K12
      refine Sb 90 rfl ?_  -- 9
      refine S_val (Y_move rfl) ?_
      refine S_val (Y_move rfl) ?_
      refine S_call rfl en69 (spec_l20Rd_pick_c _ _ _ _ RD (by omega) (by omega)) ?_  -- k37 (*spec.l20Rd).pick
      rintro v123 w123 ⟨k123, rfl, hk123, RD123, m123⟩
      obtain ⟨kH, rfl⟩ : ∃ x, x = k123 := ⟨_, rfl⟩
      have hkH := hk123 (by decide)
      replace RD := RD123
      clear RD123
      replace G := Mod.trans' G m123 (fun _ h _ => h) (fun i h hl => by first | exact h | omega | (dsimp only at h; omega))
      replace GC103 := GC103.trn m123
      replace B1 := B1.md m123
      replace B5 := B5.md m123
      have zm123 := m123.size
      refine S_val (Y_add rfl rfl rfl (by omega) (by omega)) ?_
      refine S_call rfl en69 (spec_l20Rd_pick_c _ _ _ _ RD (by omega) (by omega)) ?_  -- k38 (*spec.l20Rd).pick
      rintro v124 w124 ⟨k124, rfl, hk124, RD124, m124⟩
      obtain ⟨kI, rfl⟩ : ∃ x, x = k124 := ⟨_, rfl⟩
      have hkI := hk124 (by omega)
      replace RD := RD124
      clear RD124
      replace G := Mod.trans' G m124 (fun _ h _ => h) (fun i h hl => by first | exact h | omega | (dsimp only at h; omega))
      replace GC103 := GC103.trn m124
      replace B1 := B1.md m124
      replace B5 := B5.md m124
      have zm124 := m124.size
      refine S_val (Y_field Try.underlying133 rfl fz133_3 (by decide) rfl) ?_
      refine S_stM (pre := [_, _, _]) (old := [_]) (post := []) (vs := [_]) sz3 rfl rfl rfl (by first | rfl | assumption) B5 rfl rfl ?_
      intro w125 m125 X125
      replace B5 := Blk.eq (ys := [_, _, _, _]) X125 rfl
      clear X125
      replace G := Mod.trans' G m125 (fun _ h _ => h) (fun i h hl => by first | exact h | omega | (dsimp only at h; omega))
      replace GC103 := GC103.trn m125
      replace RD := RD.md m125
      replace B1 := B1.md m125
      have zm125 := m125.size
      refine S_nl rfl rfl ?_
      refine ib_n ?_
      exact ⟨rfl, _, _, _, _, _, _, rfl, rfl, rfl, rfl, rfl, rfl, GC103, B5, RD, decide_eq_true (by unfold cvP; dsimp only; omega), by omega⟩
     · -- c6F
      replace hb3 := nb_tf hb3
      refine wp_seq_k fun K13 hK13 => ?_
      refine Sb 90 rfl ?_  -- 10
      refine S_val (Y_eql rfl rfl) ?_
      refine S_val (Y_assign rfl) ?_
      refine S_nl rfl rfl ?_
      refine th_n (hK13 _ _ ?_)
      clear hK13 K13
      refine S_if rfl (fun hb4 => ?_) (fun hb4 => ?_)  -- c7
      · -- c7T
       replace hb4 := nb_tt hb4
       refine Sb 90 rfl ?_  -- 11
       refine S_val (Y_move rfl) ?_
       refine S_call rfl en69 (spec_l20Rd_pick_c _ _ _ _ RD (by omega) (by omega)) ?_  -- k39 (*spec.l20Rd).pick
       rintro v126 w126 ⟨k126, rfl, hk126, RD126, m126⟩
       obtain ⟨kJ, rfl⟩ : ∃ x, x = k126 := ⟨_, rfl⟩
       have hkJ := hk126 (by decide)
       replace RD := RD126
       clear RD126
       replace G := Mod.trans' G m126 (fun _ h _ => h) (fun i h hl => by first | exact h | omega | (dsimp only at h; omega))
       replace GC103 := GC103.trn m126
       replace B1 := B1.md m126
       replace B5 := B5.md m126
       have zm126 := m126.size
       refine S_val (Y_field Try.underlying133 rfl fz133_2 (by decide) rfl) ?_
       refine S_stM (pre := [_, _]) (old := [_]) (post := [_]) (vs := [_]) sz3 rfl rfl rfl (by first | rfl | assumption) B5 rfl rfl ?_
       intro w127 m127 X127
       replace B5 := Blk.eq (ys := [_, _, _, _]) X127 rfl
       clear X127
       replace G := Mod.trans' G m127 (fun _ h _ => h) (fun i h hl => by first | exact h | omega | (dsimp only at h; omega))
       replace GC103 := GC103.trn m127
       replace RD := RD.md m127
       replace B1 := B1.md m127
       have zm127 := m127.size
       refine S_nl rfl rfl ?_
       refine ib_n ?_
       exact ⟨rfl, _, _, _, _, _, _, rfl, rfl, rfl, rfl, rfl, rfl, GC103, B5, RD, decide_eq_true (by unfold cvP; dsimp only; omega), by omega⟩
      · -- c7F
       replace hb4 := nb_tf hb4
       refine wp_seq_k fun K14 hK14 => ?_
       refine Sb 90 rfl ?_  -- 12
       refine S_val (Y_eql rfl rfl) ?_
       refine S_val (Y_assign rfl) ?_
       refine S_nl rfl rfl ?_
       refine th_n (hK14 _ _ ?_)
       clear hK14 K14
       refine S_if rfl (fun hb5 => ?_) (fun hb5 => ?_)  -- c8
       · -- c8T
        replace hb5 := nb_tt hb5
        refine Sb 90 rfl ?_  -- 13
        refine S_val (Y_move rfl) ?_
        refine S_call rfl en69 (spec_l20Rd_pick_c _ _ _ _ RD (by omega) (by omega)) ?_  -- k40 (*spec.l20Rd).pick
        rintro v128 w128 ⟨k128, rfl, hk128, RD128, m128⟩
        obtain ⟨kK, rfl⟩ : ∃ x, x = k128 := ⟨_, rfl⟩
        have hkK := hk128 (by decide)
        replace RD := RD128
        clear RD128
        replace G := Mod.trans' G m128 (fun _ h _ => h) (fun i h hl => by first | exact h | omega | (dsimp only at h; omega))
        replace GC103 := GC103.trn m128
        replace B1 := B1.md m128
        replace B5 := B5.md m128
        have zm128 := m128.size
        refine S_val (Y_field Try.underlying133 rfl fz133_2 (by decide) rfl) ?_
        refine S_stM (pre := [_, _]) (old := [_]) (post := [_]) (vs := [_]) sz3 rfl rfl rfl (by first | rfl | assumption) B5 rfl rfl ?_
        intro w129 m129 X129
        replace B5 := Blk.eq (ys := [_, _, _, _]) X129 rfl
        clear X129
        replace G := Mod.trans' G m129 (fun _ h _ => h) (fun i h hl => by first | exact h | omega | (dsimp only at h; omega))
        replace GC103 := GC103.trn m129
        replace RD := RD.md m129
        replace B1 := B1.md m129
        have zm129 := m129.size
        refine S_nl rfl rfl ?_
        refine ib_n ?_
        exact ⟨rfl, _, _, _, _, _, _, rfl, rfl, rfl, rfl, rfl, rfl, GC103, B5, RD, decide_eq_true (by unfold cvP; dsimp only; omega), by omega⟩
       · -- c8F
        replace hb5 := nb_tf hb5
        refine wp_skip ?_
        refine ib_n ?_
        exact ⟨rfl, _, _, _, _, _, _, rfl, rfl, rfl, rfl, rfl, rfl, GC103, B5, RD, decide_eq_true (by unfold cvP; dsimp only; omega), by omega⟩
  · -- behind the cut
   rintro a' w104 ⟨op2, a2, b2, c2, p2, L, rfl, hL, hs0, hs1, hs4, hs5, gJ104, B5, RD, hcv, hp2⟩
   obtain ⟨x, rfl⟩ : ∃ x : Nat → Value, L = [(.pointer (some ⟨bR, 0, none⟩)), (.int .i64 n), x 2, x 3, (.pointer (some ⟨b1, 0, none⟩)), (.pointer (some ⟨b5, 0, none⟩)), x 6, x 7, x 8, x 9, x 10, x 11, x 12, x 13, x 14, x 15, x 16, x 17, x 18, x 19, x 20, x 21, x 22, x 23, x 24, x 25, x 26, x 27, x 28, x 29, x 30, x 31, x 32, x 33, x 34, x 35, x 36, x 37, x 38, x 39, x 40, x 41, x 42, x 43, x 44, x 45, x 46, x 47, x 48, x 49, x 50, x 51, x 52, x 53, x 54, x 55, x 56, x 57, x 58, x 59, x 60, x 61, x 62, x 63, x 64, x 65, x 66, x 67, x 68, x 69, x 70, x 71, x 72, x 73, x 74, x 75, x 76, x 77, x 78, x 79, x 80, x 81, x 82, x 83, x 84, x 85, x 86, x 87, x 88, x 89] := ⟨fun i => L.getD i undef, (slots_eta L 90 hL).trans (by show [L.getD 0 undef, L.getD 1 undef, L.getD 2 undef, L.getD 3 undef, L.getD 4 undef, L.getD 5 undef, L.getD 6 undef, L.getD 7 undef, L.getD 8 undef, L.getD 9 undef, L.getD 10 undef, L.getD 11 undef, L.getD 12 undef, L.getD 13 undef, L.getD 14 undef, L.getD 15 undef, L.getD 16 undef, L.getD 17 undef, L.getD 18 undef, L.getD 19 undef, L.getD 20 undef, L.getD 21 undef, L.getD 22 undef, L.getD 23 undef, L.getD 24 undef, L.getD 25 undef, L.getD 26 undef, L.getD 27 undef, L.getD 28 undef, L.getD 29 undef, L.getD 30 undef, L.getD 31 undef, L.getD 32 undef, L.getD 33 undef, L.getD 34 undef, L.getD 35 undef, L.getD 36 undef, L.getD 37 undef, L.getD 38 undef, L.getD 39 undef, L.getD 40 undef, L.getD 41 undef, L.getD 42 undef, L.getD 43 undef, L.getD 44 undef, L.getD 45 undef, L.getD 46 undef, L.getD 47 undef, L.getD 48 undef, L.getD 49 undef, L.getD 50 undef, L.getD 51 undef, L.getD 52 undef, L.getD 53 undef, L.getD 54 undef, L.getD 55 undef, L.getD 56 undef, L.getD 57 undef, L.getD 58 undef, L.getD 59 undef, L.getD 60 undef, L.getD 61 undef, L.getD 62 undef, L.getD 63 undef, L.getD 64 undef, L.getD 65 undef, L.getD 66 undef, L.getD 67 undef, L.getD 68 undef, L.getD 69 undef, L.getD 70 undef, L.getD 71 undef, L.getD 72 undef, L.getD 73 undef, L.getD 74 undef, L.getD 75 undef, L.getD 76 undef, L.getD 77 undef, L.getD 78 undef, L.getD 79 undef, L.getD 80 undef, L.getD 81 undef, L.getD 82 undef, L.getD 83 undef, L.getD 84 undef, L.getD 85 undef, L.getD 86 undef, L.getD 87 undef, L.getD 88 undef, L.getD 89 undef] = _; rw [slot_d hs0, slot_d hs1, slot_d hs4, slot_d hs5])⟩
   clear hL hs0 hs1 hs4 hs5
   replace G := Mod.trans' G gJ104 (fun _ h _ => h) (fun i h hl => by first | exact h | omega | (dsimp only at h; omega))
   replace B1 := B1.md gJ104
   have zgJ104 := gJ104.size
   have lb5 := B5.lt
   refine th_n (hK3 _ _ ?_)
   clear hK3 K3
   refine wp_seq_k fun K15 hK15 => ?_
   refine wp_seq_k fun K16 hK16 => ?_
   refine Sb 90 rfl ?_  -- 14
   refine S_val (Y_move rfl) ?_
   refine S_val (Y_move rfl) ?_
   refine S_call rfl en73 (spec_l20Rd_odd_c _ _ _ _ RD (by omega) (by omega)) ?_  -- k41 (*spec.l20Rd).odd
   rintro v130 w130 ⟨r130, p130, rfl, hr130, hp130, RD130, m130⟩
   obtain ⟨r9, rfl⟩ : ∃ x, x = r130 := ⟨_, rfl⟩
   have hr9 := hr130
   replace RD := RD130
   clear RD130
   replace G := Mod.trans' G m130 (fun _ h _ => h) (fun i h hl => by first | exact h | omega | (dsimp only at h; omega))
   replace B1 := B1.md m130
   replace B5 := B5.md m130
   have zm130 := m130.size
   refine S_nl rfl rfl ?_
   refine th_n (hK16 _ _ ?_)
   clear hK16 K16
   refine S_if rfl (fun hb1 => ?_) (fun hb1 => ?_)  -- c9
   · -- c9T
    first | with_reducible (replace hb1 := nb_nt hb1) | with_reducible (replace hb1 := nb_tt hb1) | with_reducible (replace hb1 := nb_bt hb1) | skip
    refine wp_seq_k fun K17 hK17 => ?_
    refine Sb 90 rfl ?_  -- 15
    refine S_val (Y_move rfl) ?_
    refine S_call rfl en69 (spec_l20Rd_pick_c _ _ _ _ RD (by omega) (by omega)) ?_  -- k42 (*spec.l20Rd).pick
    rintro v131 w131 ⟨k131, rfl, hk131, RD131, m131⟩
    obtain ⟨kL, rfl⟩ : ∃ x, x = k131 := ⟨_, rfl⟩
    have hkL := hk131 (by decide)
    replace RD := RD131
    clear RD131
    replace G := Mod.trans' G m131 (fun _ h _ => h) (fun i h hl => by first | exact h | omega | (dsimp only at h; omega))
    replace B1 := B1.md m131
    replace B5 := B5.md m131
    have zm131 := m131.size
    refine S_nl rfl rfl ?_
    refine th_n (hK17 _ _ ?_)
    clear hK17 K17
    refine wp_block ?_
    refine wp_seq_k fun K18 hK18 => ?_
    refine Sb 90 rfl ?_  -- 17
    refine S_val (Y_eql rfl rfl) ?_
    refine S_val (Y_assign rfl) ?_
    refine S_nl rfl rfl ?_
    refine th_n (hK18 _ _ ?_)
    clear hK18 K18
    refine S_if rfl (fun hb2 => ?_) (fun hb2 => ?_)  -- c10
    · -- c10T
     replace hb2 := nb_tt hb2
     refine Sb 90 rfl ?_  -- 18
     refine S_bsN (cs := [_, _]) Try.underlying23 zr3 sz3 rfl rfl ?_
     intro b132 w132 fb132 g132 B132
     have lb132 := B132.lt
     replace RD := RD.grow g132
     replace G := G.grow g132
     replace B1 := B1.grow g132
     replace B5 := B5.grow g132
     have zg132 := g132.size
     refine S_val (Y_move rfl) ?_
     refine S_call rfl en69 (spec_l20Rd_pick_c _ _ _ _ RD (by omega) (by omega)) ?_  -- k43 (*spec.l20Rd).pick
     rintro v133 w133 ⟨k133, rfl, hk133, RD133, m133⟩
     obtain ⟨kZ, rfl⟩ : ∃ x, x = k133 := ⟨_, rfl⟩
     have hkZ := hk133 (by decide)
     replace RD := RD133
     clear RD133
     replace G := Mod.trans' G m133 (fun _ h _ => h) (fun i h hl => by first | exact h | omega | (dsimp only at h; omega))
     replace B1 := B1.md m133
     replace B5 := B5.md m133
     replace B132 := B132.md m133
     have zm133 := m133.size
     obtain ⟨eZ, heZ, heZr⟩ := Blk.pickR (l := [0, 7]) (lo := 0) (hi := 7) B132 (k := kZ) (by intro x hx; simp only [List.mem_cons, List.not_mem_nil, or_false] at hx; omega) (by show kZ < 2; omega)
     refine S_val (Y_index Try.underlying23 sz3 rfl rfl (by first | assumption | omega)) ?_
     refine S_val (Y_load Try.underlying3 rfl rfl heZ) ?_  -- l3
     refine S_val (Y_field Try.underlying133 rfl fz133_0 (by decide) rfl) ?_
     refine S_stM (pre := []) (old := [_]) (post := [_, _, _]) (vs := [_]) sz3 rfl rfl rfl (by first | rfl | assumption) B5 rfl rfl ?_
     intro w134 m134 X134
     replace B5 := Blk.eq (ys := [_, _, _, _]) X134 rfl
     clear X134
     replace G := Mod.trans' G m134 (fun _ h _ => h) (fun i h hl => by first | exact h | omega | (dsimp only at h; omega))
     replace RD := RD.md m134
     replace B1 := B1.md m134
     replace B132 := B132.md m134
     have zm134 := m134.size
     refine S_nl rfl rfl ?_
     refine ib_n ?_
     refine th_n (hK15 _ _ ?_)
     clear hK15 K15
     refine wp_seq_k fun K19 hK19 => ?_
     refine Sb 90 rfl ?_  -- 23
     refine S_val (Y_loadS Try.underlying133 rfl sz133 rfl (B5.row (by rfl))) ?_  -- l4
     refine S_stM (pre := []) (old := [_, _, _, _]) (post := []) (vs := [_, _, _, _]) sz133 rfl rfl rfl (by first | rfl | assumption) B1 rfl rfl ?_
     intro w135 m135 X135
     replace B1 := Blk.eq (ys := [_, _, _, _]) X135 rfl
     clear X135
     replace G := Mod.trans' G m135 (fun _ h _ => h) (fun i h hl => by first | exact h | omega | (dsimp only at h; omega))
     replace RD := RD.md m135
     replace B5 := B5.md m135
     replace B132 := B132.md m135
     have zm135 := m135.size
     refine S_nl rfl rfl ?_
     refine th_n (hK19 _ _ ?_)
     clear hK19 K19
     refine wp_ret ?_
     refine ret_rc (cs := [_, _, _, _]) Try.underlying133 rfl sz133 rfl rfl (B1.row (by rfl)) ?_  -- r1
     exact ⟨⟨_, _, _, _⟩, _, rfl, fun h => by first | exact hcv | (have h9 := hr9 h; rw [h9] at hb1; cases hb1), by omega, RD, G⟩
    · -- c10F
     replace hb2 := nb_tf hb2
     refine wp_seq_k fun K20 hK20 => ?_
     refine Sb 90 rfl ?_  -- 19
     refine S_val (Y_eql rfl rfl) ?_
     refine S_val (Y_assign rfl) ?_
     refine S_nl rfl rfl ?_
     refine th_n (hK20 _ _ ?_)
     clear hK20 K20
     refine S_if rfl (fun hb3 => ?_) (fun hb3 => ?_)  -- c11
     · -- c11T
      replace hb3 := nb_tt hb3
      refine Sb 90 rfl ?_  -- 20
      refine S_bsN (cs := [_, _]) Try.underlying23 zr3 sz3 rfl rfl ?_
      intro b136 w136 fb136 g136 B136
      have lb136 := B136.lt
      replace RD := RD.grow g136
      replace G := G.grow g136
      replace B1 := B1.grow g136
      replace B5 := B5.grow g136
      have zg136 := g136.size
      refine S_val (Y_move rfl) ?_
      refine S_call rfl en69 (spec_l20Rd_pick_c _ _ _ _ RD (by omega) (by omega)) ?_  -- k44 (*spec.l20Rd).pick
      rintro v137 w137 ⟨k137, rfl, hk137, RD137, m137⟩
      obtain ⟨kZ, rfl⟩ : ∃ x, x = k137 := ⟨_, rfl⟩
      have hkZ := hk137 (by decide)
      replace RD := RD137
      clear RD137
      replace G := Mod.trans' G m137 (fun _ h _ => h) (fun i h hl => by first | exact h | omega | (dsimp only at h; omega))
      replace B1 := B1.md m137
      replace B5 := B5.md m137
      replace B136 := B136.md m137
      have zm137 := m137.size
      obtain ⟨eZ, heZ, heZr⟩ := Blk.pickR (l := [-1, 4]) (lo := -1) (hi := 4) B136 (k := kZ) (by intro x hx; simp only [List.mem_cons, List.not_mem_nil, or_false] at hx; omega) (by show kZ < 2; omega)
      refine S_val (Y_index Try.underlying23 sz3 rfl rfl (by first | assumption | omega)) ?_
      refine S_val (Y_load Try.underlying3 rfl rfl heZ) ?_  -- l5
      refine S_val (Y_field Try.underlying133 rfl fz133_1 (by decide) rfl) ?_
      refine S_stM (pre := [_]) (old := [_]) (post := [_, _]) (vs := [_]) sz3 rfl rfl rfl (by first | rfl | assumption) B5 rfl rfl ?_
      intro w138 m138 X138
      replace B5 := Blk.eq (ys := [_, _, _, _]) X138 rfl
      clear X138
      replace G := Mod.trans' G m138 (fun _ h _ => h) (fun i h hl => by first | exact h | omega | (dsimp only at h; omega))
      replace RD := RD.md m138
      replace B1 := B1.md m138
      replace B136 := B136.md m138
      have zm138 := m138.size
      refine S_nl rfl rfl ?_
      refine ib_n ?_
      refine th_n (hK15 _ _ ?_)
      clear hK15 K15
      refine wp_seq_k fun K21 hK21 => ?_
      refine Sb 90 rfl ?_  -- 23
      refine S_val (Y_loadS Try.underlying133 rfl sz133 rfl (B5.row (by rfl))) ?_  -- l6
      refine S_stM (pre := []) (old := [_, _, _, _]) (post := []) (vs := [_, _, _, _]) sz133 rfl rfl rfl (by first | rfl | assumption) B1 rfl rfl ?_
      intro w139 m139 X139
      replace B1 := Blk.eq (ys := [_, _, _, _]) X139 rfl
      clear X139
      replace G := Mod.trans' G m139 (fun _ h _ => h) (fun i h hl => by first | exact h | omega | (dsimp only at h; omega))
      replace RD := RD.md m139
      replace B5 := B5.md m139
      replace B136 := B136.md m139
      have zm139 := m139.size
      refine S_nl rfl rfl ?_
      refine th_n (hK21 _ _ ?_)
      clear hK21 K21
      refine wp_ret ?_
      refine ret_rc (cs := [_, _, _, _]) Try.underlying133 rfl sz133 rfl rfl (B1.row (by rfl)) ?_  -- r2
      exact ⟨⟨_, _, _, _⟩, _, rfl, fun h => by first | exact hcv | (have h9 := hr9 h; rw [h9] at hb1; cases hb1), by omega, RD, G⟩
     · -- c11F
      replace hb3 := nb_tf hb3
      refine wp_seq_k fun K22 hK22 => ?_
      refine Sb 90 rfl ?_  -- 21
      refine S_val (Y_eql rfl rfl) ?_
      refine S_val (Y_assign rfl) ?_
      refine S_nl rfl rfl ?_
      refine th_n (hK22 _ _ ?_)
      clear hK22 K22
      refine S_if rfl (fun hb4 => ?_) (fun hb4 => ?_)  -- c12
      · -- c12T
       replace hb4 := nb_tt hb4
       refine Sb 90 rfl ?_  -- 22
       refine S_bsN (cs := [_, _]) Try.underlying23 zr3 sz3 rfl rfl ?_
       intro b140 w140 fb140 g140 B140
       have lb140 := B140.lt
       replace RD := RD.grow g140
       replace G := G.grow g140
       replace B1 := B1.grow g140
       replace B5 := B5.grow g140
       have zg140 := g140.size
       refine S_val (Y_move rfl) ?_
       refine S_call rfl en69 (spec_l20Rd_pick_c _ _ _ _ RD (by omega) (by omega)) ?_  -- k45 (*spec.l20Rd).pick
       rintro v141 w141 ⟨k141, rfl, hk141, RD141, m141⟩
       obtain ⟨kZ, rfl⟩ : ∃ x, x = k141 := ⟨_, rfl⟩
       have hkZ := hk141 (by decide)
       replace RD := RD141
       clear RD141
       replace G := Mod.trans' G m141 (fun _ h _ => h) (fun i h hl => by first | exact h | omega | (dsimp only at h; omega))
       replace B1 := B1.md m141
       replace B5 := B5.md m141
       replace B140 := B140.md m141
       have zm141 := m141.size
       obtain ⟨eZ, heZ, heZr⟩ := Blk.pickR (l := [-1, 100]) (lo := -1) (hi := 100) B140 (k := kZ) (by intro x hx; simp only [List.mem_cons, List.not_mem_nil, or_false] at hx; omega) (by show kZ < 2; omega)
       refine S_val (Y_index Try.underlying23 sz3 rfl rfl (by first | assumption | omega)) ?_
       refine S_val (Y_load Try.underlying3 rfl rfl heZ) ?_  -- l7
       refine S_val (Y_field Try.underlying133 rfl fz133_2 (by decide) rfl) ?_
       refine S_stM (pre := [_, _]) (old := [_]) (post := [_]) (vs := [_]) sz3 rfl rfl rfl (by first | rfl | assumption) B5 rfl rfl ?_
       intro w142 m142 X142
       replace B5 := Blk.eq (ys := [_, _, _, _]) X142 rfl
       clear X142
       replace G := Mod.trans' G m142 (fun _ h _ => h) (fun i h hl => by first | exact h | omega | (dsimp only at h; omega))
       replace RD := RD.md m142
       replace B1 := B1.md m142
       replace B140 := B140.md m142
       have zm142 := m142.size
       refine S_nl rfl rfl ?_
       refine ib_n ?_
       refine th_n (hK15 _ _ ?_)
       clear hK15 K15
       refine wp_seq_k fun K23 hK23 => ?_
       refine Sb 90 rfl ?_  -- 23
       refine S_val (Y_loadS Try.underlying133 rfl sz133 rfl (B5.row (by rfl))) ?_  -- l8
       refine S_stM (pre := []) (old := [_, _, _, _]) (post := []) (vs := [_, _, _, _]) sz133 rfl rfl rfl (by first | rfl | assumption) B1 rfl rfl ?_
       intro w143 m143 X143
       replace B1 := Blk.eq (ys := [_, _, _, _]) X143 rfl
       clear X143
       replace G := Mod.trans' G m143 (fun _ h _ => h) (fun i h hl => by first | exact h | omega | (dsimp only at h; omega))
       replace RD := RD.md m143
       replace B5 := B5.md m143
       replace B140 := B140.md m143
       have zm143 := m143.size
       refine S_nl rfl rfl ?_
       refine th_n (hK23 _ _ ?_)
       clear hK23 K23
       refine wp_ret ?_
       refine ret_rc (cs := [_, _, _, _]) Try.underlying133 rfl sz133 rfl rfl (B1.row (by rfl)) ?_  -- r3
       exact ⟨⟨_, _, _, _⟩, _, rfl, fun h => by first | exact hcv | (have h9 := hr9 h; rw [h9] at hb1; cases hb1), by omega, RD, G⟩
      · -- c12F
       replace hb4 := nb_tf hb4
       refine Sb 90 rfl ?_  -- 16
       refine S_bsN (cs := [_, _]) Try.underlying23 zr3 sz3 rfl rfl ?_
       intro b144 w144 fb144 g144 B144
       have lb144 := B144.lt
       replace RD := RD.grow g144
       replace G := G.grow g144
       replace B1 := B1.grow g144
       replace B5 := B5.grow g144
       have zg144 := g144.size
       refine S_val (Y_move rfl) ?_
       refine S_call rfl en69 (spec_l20Rd_pick_c _ _ _ _ RD (by omega) (by omega)) ?_  -- k46 (*spec.l20Rd).pick
       rintro v145 w145 ⟨k145, rfl, hk145, RD145, m145⟩
       obtain ⟨kZ, rfl⟩ : ∃ x, x = k145 := ⟨_, rfl⟩
       have hkZ := hk145 (by decide)
       replace RD := RD145
       clear RD145
       replace G := Mod.trans' G m145 (fun _ h _ => h) (fun i h hl => by first | exact h | omega | (dsimp only at h; omega))
       replace B1 := B1.md m145
       replace B5 := B5.md m145
       replace B144 := B144.md m145
       have zm145 := m145.size
       obtain ⟨eZ, heZ, heZr⟩ := Blk.pickR (l := [-1, 100]) (lo := -1) (hi := 100) B144 (k := kZ) (by intro x hx; simp only [List.mem_cons, List.not_mem_nil, or_false] at hx; omega) (by show kZ < 2; omega)
       refine S_val (Y_index Try.underlying23 sz3 rfl rfl (by first | assumption | omega)) ?_
       refine S_val (Y_load Try.underlying3 rfl rfl heZ) ?_  -- l9
       refine S_val (Y_field Try.underlying133 rfl fz133_3 (by decide) rfl) ?_
       refine S_stM (pre := [_, _, _]) (old := [_]) (post := []) (vs := [_]) sz3 rfl rfl rfl (by first | rfl | assumption) B5 rfl rfl ?_
       intro w146 m146 X146
       replace B5 := Blk.eq (ys := [_, _, _, _]) X146 rfl
       clear X146
       replace G := Mod.trans' G m146 (fun _ h _ => h) (fun i h hl => by first | exact h | omega | (dsimp only at h; omega))
       replace RD := RD.md m146
       replace B1 := B1.md m146
       replace B144 := B144.md m146
       have zm146 := m146.size
       refine S_nl rfl rfl ?_
       refine ib_n ?_
       refine th_n (hK15 _ _ ?_)
       clear hK15 K15
       refine wp_seq_k fun K24 hK24 => ?_
       refine Sb 90 rfl ?_  -- 23
       refine S_val (Y_loadS Try.underlying133 rfl sz133 rfl (B5.row (by rfl))) ?_  -- l10
       refine S_stM (pre := []) (old := [_, _, _, _]) (post := []) (vs := [_, _, _, _]) sz133 rfl rfl rfl (by first | rfl | assumption) B1 rfl rfl ?_
       intro w147 m147 X147
       replace B1 := Blk.eq (ys := [_, _, _, _]) X147 rfl
       clear X147
       replace G := Mod.trans' G m147 (fun _ h _ => h) (fun i h hl => by first | exact h | omega | (dsimp only at h; omega))
       replace RD := RD.md m147
       replace B5 := B5.md m147
       replace B144 := B144.md m147
       have zm147 := m147.size
       refine S_nl rfl rfl ?_
       refine th_n (hK24 _ _ ?_)
       clear hK24 K24
       refine wp_ret ?_
       refine ret_rc (cs := [_, _, _, _]) Try.underlying133 rfl sz133 rfl rfl (B1.row (by rfl)) ?_  -- r4
       exact ⟨⟨_, _, _, _⟩, _, rfl, fun h => by first | exact hcv | (have h9 := hr9 h; rw [h9] at hb1; cases hb1), by omega, RD, G⟩
   · -- c9F
    first | with_reducible (replace hb1 := nb_nf hb1) | with_reducible (replace hb1 := nb_tf hb1) | with_reducible (replace hb1 := nb_bf hb1) | skip
    refine wp_skip ?_
    refine th_n (hK15 _ _ ?_)
    clear hK15 K15
    refine wp_seq_k fun K25 hK25 => ?_
    refine Sb 90 rfl ?_  -- 23
    refine S_val (Y_loadS Try.underlying133 rfl sz133 rfl (B5.row (by rfl))) ?_  -- l11
    refine S_stM (pre := []) (old := [_, _, _, _]) (post := []) (vs := [_, _, _, _]) sz133 rfl rfl rfl (by first | rfl | assumption) B1 rfl rfl ?_
    intro w148 m148 X148
    replace B1 := Blk.eq (ys := [_, _, _, _]) X148 rfl
    clear X148
    replace G := Mod.trans' G m148 (fun _ h _ => h) (fun i h hl => by first | exact h | omega | (dsimp only at h; omega))
    replace RD := RD.md m148
    replace B5 := B5.md m148
    have zm148 := m148.size
    refine S_nl rfl rfl ?_
    refine th_n (hK25 _ _ ?_)
    clear hK25 K25
    refine wp_ret ?_
    refine ret_rc (cs := [_, _, _, _]) Try.underlying133 rfl sz133 rfl rfl (B1.row (by rfl)) ?_  -- r5
    exact ⟨⟨_, _, _, _⟩, _, rfl, fun h => by first | exact hcv | (have h9 := hr9 h; rw [h9] at hb1; cases hb1), by omega, RD, G⟩
end
/-! Put -/
section
open Go Go.RowKit
section
variable {P : Program} {F : Fr} {w : World} {t : TypeId} {x y : Operand} {Pr : Nat → Prop} {eC eI e : TypeId} {A B : Option Addr} {h : LH} {rs : List (Option Addr × Nat)} {us : List Value}
/-- An element of an owned row is written. -/
theorem Ys_row {b k : Nat} {v : Value} (hs : sz P t = some 1) (O : OI Pr w e (some ⟨b, 0, none⟩) us) (hk : k < us.length) (hx : ev F x = some (.pointer (some ⟨b, 0 + k * 1, none⟩))) (hy : ev F y = some v) (hv : v.cells = #[v]) (h1 : v.oneCell' = true) :
    ∃ w', Ys P F (.store t x y) w w' ∧ Mod (fun i => i = b) w w' ∧ Pr b ∧ OI Pr w' e (some ⟨b, 0, none⟩) (us.set k v) := by
  obtain ⟨b', post, hA, hp, hB⟩ := O (fun e0 => by rw [e0] at hk; simp at hk)
  cases hA
  have hsp : us ++ post = us.take k ++ [us[k]] ++ (us.drop (k + 1) ++ post) := by
    have h0 := split_at (List.getElem?_eq_getElem hk)
    have h9 : us ++ post = (us.take k ++ [us[k]] ++ us.drop (k + 1)) ++ post := by rw [← h0]
    rw [h9, List.append_assoc]
  rw [hsp] at hB
  have hy2 := Ys_M (P := P) (F := F) (t := t) (x := x) (y := y) (pre := us.take k) (old := [us[k]]) (post := us.drop (k + 1) ++ post) (vs := [v]) hs hx hy hv (by simp [oneL, h1]) hB (by rw [List.length_take]; omega) rfl
  refine ⟨_, hy2, mod_setRow w b _, hp, fun _ => ⟨b, post, rfl, hp, ?_⟩⟩
  have := hB.setRow ((us.take k ++ [v] ++ (us.drop (k + 1) ++ post)).toArray)
  have e2 : us.take k ++ [v] ++ (us.drop (k + 1) ++ post) = us.set k v ++ post := by
    rw [List.set_eq_take_append_cons_drop, if_pos hk]
    simp
  rw [e2] at this
  rw [e2]
  exact this
theorem ints_set {xs : List Int} {k : Nat} {v : Int} : (ints xs).set k (.int .i64 v) = ints (xs.set k v) := by
  unfold ints
  rw [List.map_set]
end
section
variable {Pr Pr' S : Nat → Prop} {w w' : World} {e eC eI : TypeId} {A B : Option Addr} {h : LH} {rs : List (Option Addr × Nat)} {us : List Value} {s n cap c d : Nat}
theorem OW.modT {b : Nat} {arr : Array Value} (O : OW Pr w eC s A n cap us) (hB : Blk w b eI arr) (hne : eC ≠ eI) (m : Mod (fun i => i = b) w w') : OW Pr w' eC s A n cap us := by
  refine ⟨O.1, ?_⟩
  rcases O.2 with a | ⟨g, cur, h1, h2, h3, h4⟩
  · exact .inl a
  · exact .inr ⟨g, cur, h1, h2, (m.block g (Blk.lt h3) (fun e0 => by
      have e1 : g = b := e0
      subst e1
      exact Blk.ne h3 hB hne rfl)).trans h3, h4⟩
/-- A heap that is owned whole, and whose rows may be made longer. -/
structure XH (Pr : Nat → Prop) (w : World) (eC eI : TypeId) (A B : Option Addr) (h : LH) (rs : List (Option Addr × Nat)) (c d : Nat) : Prop where
  rows : ORs Pr w eI h.cells rs
  row : OW Pr w eC 3 A h.cells.length c (flatC h.cells rs)
  roots : OI Pr w eI B (ints h.roots)
  far : ∀ (i : Nat) (c : LC) (r : Option Addr × Nat), h.cells[i]? = some c → rs[i]? = some r → c.refs ≠ [] → h.roots ≠ [] → r.1 ≠ B
  rd : h.roots.length ≤ d
theorem XH.mod (o : XH Pr w eC eI A B h rs c d) (m : Mod S w w') (hd : ∀ k, Pr k → ¬ S k) : XH Pr w' eC eI A B h rs c d := ⟨o.rows.mod m hd, o.row.mod m hd, o.roots.mod m hd, o.far, o.rd⟩
theorem XH.md (o : XH Pr w eC eI A B h rs c d) (m : Mod S w w') (hd : ∀ k, Pr k → ¬ S k := by intro k hk h; first | omega | (dsimp only at hk h; omega) | (dsimp only at hk; omega)) : XH Pr w' eC eI A B h rs c d := o.mod m hd
theorem XH.grow (o : XH Pr w eC eI A B h rs c d) (m : Grow w w') : XH Pr w' eC eI A B h rs c d := o.mod m (fun _ _ h => h)
theorem XH.weak (o : XH Pr w eC eI A B h rs c d) (hp : ∀ k, Pr k → Pr' k) : XH Pr' w eC eI A B h rs c d := ⟨o.rows.weak hp, o.row.weak hp, o.roots.weak hp, o.far, o.rd⟩
theorem XH.lt (o : XH Pr w eC eI A B h rs c d) : XH (fun k => Pr k ∧ k < w.heap.size) w eC eI A B h rs c d := ⟨o.rows.lt, o.row.lt, o.roots.lt, o.far, o.rd⟩
theorem XH.oc (o : XH Pr w eC eI A B h rs c d) : OC Pr w eC eI A h.cells rs := ⟨o.rows, fun hn => o.row.blk (fun e0 => by
  have h1 := o.row.1
  rw [e0] at h1
  exact hn (List.eq_nil_of_length_eq_zero (by simp at h1; omega)))⟩
theorem XH.rc (o : XH Pr w eC eI A B h rs c d) : RC Pr w A h.cells := o.oc.rc
theorem XH.r1 (o : XH Pr w eC eI A B h rs c d) : R1 Pr w B (ints h.roots) := o.roots.r1
theorem XH.nil (Pr : Nat → Prop) (w : World) (eC eI : TypeId) : XH Pr w eC eI none none nilH [] 0 0 := ⟨ORs.nil _ _ _, OW.nil _ _ _ _, OI.nil _ _ _ _, fun i c r h => by simp [nilH] at h, Nat.le_refl _⟩
theorem XH.cast {h2 : LH} (o : XH Pr w eC eI A B h rs c d) (e0 : h = h2) : XH Pr w eC eI A B h2 rs c d := e0 ▸ o
theorem XH.of_parts {P1 P2 : Nat → Prop} (hr : ORs P1 w eI h.cells rs) (hw : OW P1 w eC 3 A h.cells.length c (flatC h.cells rs)) (hR : OI P2 w eI B (ints h.roots)) (hrd : h.roots.length ≤ d) (hne : ∀ k b, P1 k → B = some ⟨b, 0, none⟩ → P2 b → k ≠ b) (h1 : ∀ k, P1 k → Pr k) (h2 : ∀ k, P2 k → Pr k) : XH Pr w eC eI A B h rs c d := by
  refine ⟨hr.weak h1, hw.weak h1, hR.weak h2, fun i x r h1 h2 h3 h4 e0 => ?_, hrd⟩
  obtain ⟨b, _, e1, hp1, _⟩ := hR (by simp [ints, h4])
  obtain ⟨g, _, e2, hp2, _⟩ := hr.own i x r h1 h2 (by simp [ints, h3])
  rw [e0, e1] at e2
  cases e2
  exact hne b b hp2 e1 hp1 rfl
/-- The rows of references lie elsewhere than the roots. -/
theorem XH.offRoots {b : Nat} (o : XH Pr w eC eI A (some ⟨b, 0, none⟩) h rs c d) (hr : h.roots ≠ []) (m : Mod (fun i => i = b) w w') : ORs Pr w' eI h.cells rs :=
  ⟨o.rows.len, fun i x r h1 h2 hn => by
    obtain ⟨b1, post, e1, p1, B1⟩ := o.rows.own i x r h1 h2 hn
    exact ⟨b1, post, e1, p1, B1.mod m (fun e0 => by
      have e2 : b1 = b := e0
      subst e2
      exact o.far i x r h1 h2 (ints_ne.1 hn) hr e1)⟩, o.rows.far⟩
theorem XH.cellAt (o : XH Pr w eC eI A B h rs c d) (hne : eC ≠ eI) {i : Nat} (hi : i < h.cells.length) : ∃ g R cap, A = some ⟨g, 0, none⟩ ∧ Pr g ∧ rs[i]? = some (R, cap) ∧ CellsAt w g (0 + i * 3) [.bool h.cells[i].used, .int .i64 h.cells[i].data, .slice R h.cells[i].refs.length cap] ∧ R1 Pr w R (ints h.cells[i].refs) ∧ (0 < h.cells[i].refs.length → ∃ b, R = some ⟨b, 0, none⟩ ∧ Pr b ∧ b ≠ g) := by
  obtain ⟨g, post, hA, hp, hB⟩ := o.oc.blk (fun e0 => by rw [e0] at hi; simp at hi)
  have hl := o.rows.len
  have hc : h.cells[i]? = some h.cells[i] := List.getElem?_eq_getElem hi
  have hr : rs[i]? = some (rs[i]'(by omega)) := List.getElem?_eq_getElem _
  have hown := o.rows.own i _ _ hc hr
  refine ⟨g, (rs[i]'(by omega)).1, (rs[i]'(by omega)).2, hA, hp, hr, ?_, hown.r1, fun h0 => ?_⟩
  · have hB2 := hB
    rw [flatC_at hl hc hr, List.append_assoc] at hB2
    rw [Nat.zero_add]
    exact CellsAt.of_blk hB2 (by rw [flatC_len (by simp [hl]), List.length_take]; omega)
  · obtain ⟨b, p2, e1, h2, hB2⟩ := hown (ints_ne.2 (fun e0 => by rw [e0] at h0; simp at h0))
    exact ⟨b, e1, h2, hB2.ne hB (fun e0 => hne e0.symm)⟩
end
section
variable {P : Program} {F : Fr} {w : World} {t : TypeId} {x y : Operand} {Pr : Nat → Prop} {eC eI e : TypeId} {A B : Option Addr} {h : LH} {rs : List (Option Addr × Nat)} {us : List Value} {c d : Nat}
/-- Cells in the middle of a row that may be made longer are written. -/
theorem Ys_ow {g o s n cap : Nat} {pre old mid vs : List Value} {v : Value} (hs : sz P t = some vs.length) (O : OW Pr w e s (some ⟨g, 0, none⟩) n cap (pre ++ old ++ mid)) (hx : ev F x = some (.pointer (some ⟨g, o, none⟩))) (hy : ev F y = some v) (hv : v.cells = vs.toArray) (h1 : oneL vs = true) (ho : pre.length = o) (hl : old.length = vs.length) (h0 : 0 < vs.length) :
    ∃ w', Ys P F (.store t x y) w w' ∧ Mod (fun i => i = g) w w' ∧ Pr g ∧ (∃ arr, Blk w g e arr) ∧ OW Pr w' e s (some ⟨g, 0, none⟩) n cap (pre ++ vs ++ mid) := by
  rcases O.2 with ⟨e0, _⟩ | ⟨g', cur, e1, hp, hB, h4, h5, h6, h7⟩
  · cases e0
  · cases e1
    have hcur : cur = (pre ++ old ++ (mid ++ cur.toList.drop (n * s))).toArray := by
      rw [← List.append_assoc, ← h7, List.take_append_drop]
    have hB1 : Blk w g e cur := hB
    have hB2 := hB1
    rw [hcur] at hB2
    have hy2 := Ys_M (P := P) (F := F) (t := t) (x := x) (y := y) hs hx hy hv h1 hB2 ho hl
    have hB3 := hB2.setRow (pre ++ vs ++ (mid ++ cur.toList.drop (n * s))).toArray
    refine ⟨_, hy2, mod_setRow w g _, hp, ⟨_, hB1⟩, ?_, .inr ⟨g, _, rfl, hp, hB3, h4, h5, ?_, ?_⟩⟩
    · have := O.1
      simp only [List.length_append] at this ⊢
      omega
    · have h8 := congrArg Array.size hcur
      rw [h6] at h8
      simp only [List.size_toArray, List.length_append] at h8 ⊢
      omega
    · have h8 := O.1
      have e3 : pre ++ vs ++ (mid ++ cur.toList.drop (n * s)) = (pre ++ vs ++ mid) ++ cur.toList.drop (n * s) := by simp
      show (pre ++ vs ++ (mid ++ cur.toList.drop (n * s))).take (n * s) = _
      rw [e3, List.take_left']
      simp only [List.length_append] at h8 ⊢
      omega
/-- A root is written. -/
theorem Ys_root {b k : Nat} {v : Int} (hs : sz P t = some 1) (o : XH Pr w eC eI A (some ⟨b, 0, none⟩) h rs c d) (hne : eC ≠ eI) (hk : k < h.roots.length) (hx : ev F x = some (.pointer (some ⟨b, 0 + k * 1, none⟩))) (hy : ev F y = some (.int .i64 v)) :
    ∃ w', Ys P F (.store t x y) w w' ∧ Mod (fun i => i = b) w w' ∧ Pr b ∧ XH Pr w' eC eI A (some ⟨b, 0, none⟩) ⟨h.cells, h.roots.set k v⟩ rs c d := by
  obtain ⟨w', hy2, m, hp, O⟩ := Ys_row (P := P) (F := F) (t := t) (x := x) (y := y) hs o.roots (by rw [ints_len]; exact hk) hx hy rfl rfl
  rw [ints_set] at O
  have hr : h.roots ≠ [] := fun e0 => by rw [e0] at hk; simp at hk
  obtain ⟨b', post, e1, _, hB⟩ := o.roots (ints_ne.2 hr)
  cases e1
  exact ⟨w', hy2, m, hp, o.offRoots hr m, o.row.modT hB hne m, O, fun i c r h1 h2 h3 h4 => o.far i c r h1 h2 h3 hr, by show (h.roots.set k v).length ≤ d; rw [List.length_set]; exact o.rd⟩
theorem flatC_ref {cs : List LC} {i : Nat} {c c' : LC} (hc : cs[i]? = some c) (h1 : c'.used = c.used) (h2 : c'.data = c.data) (h3 : c'.refs.length = c.refs.length) {rs : List (Option Addr × Nat)} : flatC (cs.set i c') rs = flatC cs rs := by
  induction cs generalizing i rs with
  | nil => rfl
  | cons a l ih =>
    cases rs with
    | nil => cases i <;> rfl
    | cons r rs =>
      cases i with
      | zero =>
        simp only [List.getElem?_cons_zero, Option.some.injEq] at hc
        subst hc
        simp only [List.set_cons_zero, flatC, h1, h2, h3]
      | succ i =>
        simp only [List.getElem?_cons_succ] at hc
        simp only [List.set_cons_succ, flatC, ih hc]
/-- A reference of a cell is written. -/
theorem Ys_ref {b i j cap : Nat} {v : Int} (hs : sz P t = some 1) (o : XH Pr w eC eI A B h rs c d) (hne : eC ≠ eI) (hi : i < h.cells.length) (hr : rs[i]? = some (some ⟨b, 0, none⟩, cap)) (hj : j < h.cells[i].refs.length) (hx : ev F x = some (.pointer (some ⟨b, 0 + j * 1, none⟩))) (hy : ev F y = some (.int .i64 v)) :
    ∃ w', Ys P F (.store t x y) w w' ∧ Mod (fun i => i = b) w w' ∧ Pr b ∧ XH Pr w' eC eI A B ⟨h.cells.set i ⟨h.cells[i].used, h.cells[i].data, h.cells[i].refs.set j v⟩, h.roots⟩ rs c d := by
  have hc : h.cells[i]? = some h.cells[i] := List.getElem?_eq_getElem hi
  have hown := o.rows.own i _ _ hc hr
  obtain ⟨w', hy2, m, hp, O⟩ := Ys_row (P := P) (F := F) (t := t) (x := x) (y := y) hs hown (by rw [ints_len]; exact hj) hx hy rfl rfl
  rw [ints_set] at O
  have hcn : h.cells[i].refs ≠ [] := fun e0 => by rw [e0] at hj; simp at hj
  obtain ⟨b2, p2, e4, _, hB2⟩ := hown (ints_ne.2 hcn)
  cases e4
  have hOR := o.rows.mark (c' := ⟨h.cells[i].used, h.cells[i].data, h.cells[i].refs.set j v⟩) hc hr (m.weak (T := fun k => 0 < h.cells[i].refs.length ∧ (some ⟨b, 0, none⟩ : Option Addr) = some ⟨k, 0, none⟩) (fun k e0 _ => by
    have e1 : k = b := e0
    subst e1
    exact ⟨by omega, rfl⟩)) O (by simp)
  refine ⟨w', hy2, m, hp, hOR, ?_, o.roots.keep m (fun b' e1 e2 e3 => ?_), fun k x r h1 h2 h3 h4 => ?_, o.rd⟩
  · show OW Pr w' eC 3 A (h.cells.set i ⟨h.cells[i].used, h.cells[i].data, h.cells[i].refs.set j v⟩).length c (flatC (h.cells.set i ⟨h.cells[i].used, h.cells[i].data, h.cells[i].refs.set j v⟩) rs)
    rw [flatC_ref (c' := ⟨h.cells[i].used, h.cells[i].data, h.cells[i].refs.set j v⟩) hc rfl rfl (by simp), List.length_set]
    exact o.row.modT hB2 hne m
  · have e4 : b' = b := e3
    subst e4
    exact o.far i _ _ hc hr hcn (ints_ne.1 e2) (by rw [e1])
  · rcases set_get h1 with ⟨rfl, rfl⟩ | ⟨_, h1⟩
    · exact o.far _ _ _ hc h2 hcn h4
    · exact o.far k x r h1 h2 h3 h4
/-- The data of a cell is written. -/
theorem Ys_data {g i : Nat} {v : Int} (hs : sz P t = some 1) (o : XH Pr w eC eI (some ⟨g, 0, none⟩) B h rs c d) (hne : eC ≠ eI) (hi : i < h.cells.length) (hx : ev F x = some (.pointer (some ⟨g, 0 + i * 3 + 1, none⟩))) (hy : ev F y = some (.int .i64 v)) :
    ∃ w', Ys P F (.store t x y) w w' ∧ Mod (fun i => i = g) w w' ∧ Pr g ∧ XH Pr w' eC eI (some ⟨g, 0, none⟩) B ⟨h.cells.set i ⟨h.cells[i].used, v, h.cells[i].refs⟩, h.roots⟩ rs c d := by
  have hl := o.rows.len
  have hc : h.cells[i]? = some h.cells[i] := List.getElem?_eq_getElem hi
  obtain ⟨r, hr⟩ : ∃ r, rs[i]? = some r := ⟨_, List.getElem?_eq_getElem (by omega)⟩
  have hpl := flat_pre (k := i) hl (by omega)
  have hone := flat_one (post := []) hl hc hr
  have hfs := flat_set hl hi hr (c := ⟨h.cells[i].used, v, h.cells[i].refs⟩) (post := [])
  rw [List.append_nil (flatC h.cells rs)] at hone
  replace hfs := hfs.trans (List.append_nil _)
  have hrow := o.row
  rw [hone, show flatC (h.cells.take i) (rs.take i) ++ [Value.bool h.cells[i].used] ++ ([Value.int .i64 h.cells[i].data, Value.slice r.1 h.cells[i].refs.length r.2] ++ (flatC (h.cells.drop (i + 1)) (rs.drop (i + 1)) ++ []))
      = (flatC (h.cells.take i) (rs.take i) ++ [.bool h.cells[i].used]) ++ [.int .i64 h.cells[i].data] ++ ([.slice r.1 h.cells[i].refs.length r.2] ++ (flatC (h.cells.drop (i + 1)) (rs.drop (i + 1)) ++ [])) by simp] at hrow
  obtain ⟨w', hy2, m, hp, ⟨arr, hB0⟩, O⟩ := Ys_ow (P := P) (F := F) (t := t) (x := x) (y := y) (vs := [.int .i64 v]) hs hrow hx hy rfl rfl (by rw [List.length_append, hpl]; simp) rfl (by simp)
  rw [hfs] at O
  have hOR := o.rows.modT hB0 hne m
  have hc2 : ∀ (k : Nat) (x : LC), (h.cells.set i ⟨h.cells[i].used, v, h.cells[i].refs⟩)[k]? = some x → ∃ c0, h.cells[k]? = some c0 ∧ c0.refs = x.refs := fun k x h1 => by
    rcases set_get h1 with ⟨rfl, rfl⟩ | ⟨_, h1⟩
    · exact ⟨_, hc, rfl⟩
    · exact ⟨x, h1, rfl⟩
  refine ⟨w', hy2, m, hp, ⟨by rw [List.length_set]; exact hl, fun k x q h1 h2 => ?_, fun k l x x' q q' h1 h2 h3 h4 h5 h6 h7 => ?_⟩, ?_, ?_, fun k x q h1 h2 h3 h4 => ?_, o.rd⟩
  · obtain ⟨c0, e1, e2⟩ := hc2 k x h1
    rw [← e2]
    exact hOR.own k c0 q e1 h2
  · obtain ⟨c0, e1, e2⟩ := hc2 k x h1
    obtain ⟨c1, e3, e4⟩ := hc2 l x' h2
    exact hOR.far k l c0 c1 q q' e1 e3 h3 h4 h5 (by rw [e2]; exact h6) (by rw [e4]; exact h7)
  · show OW Pr w' eC 3 _ (h.cells.set i ⟨h.cells[i].used, v, h.cells[i].refs⟩).length c _
    rw [List.length_set]
    exact O
  · exact o.roots.keep m (fun b hb hn e0 => by
      obtain ⟨b', _, e1, _, hB⟩ := o.roots hn
      rw [hb] at e1
      cases e1
      have e2 : b = g := e0
      subst e2
      exact hB0.ne hB hne rfl)
  · obtain ⟨c0, e1, e2⟩ := hc2 k x h1
    exact o.far k c0 q e1 h2 (by rw [e2]; exact h3) h4
section
variable {w' : World}
/-- What holds of the rows of references once a cell was put in its place. -/
theorem ORs.put {PR : Nat → Prop} {cs : List LC} {i cap : Nat} {x : LC} {R : Option Addr} (hOR : ORs Pr w eI cs rs) (hR : OI PR w eI R (ints x.refs)) (hd : ∀ k, PR k → ¬ Pr k) : ORs (fun k => Pr k ∨ PR k) w eI (cs.set i x) (rs.set i (R, cap)) := by
  have hl := hOR.len
  have hc2 : ∀ (k : Nat) (q : LC), (cs.set i x)[k]? = some q → (k = i ∧ q = x) ∨ (k ≠ i ∧ cs[k]? = some q) := fun k q h1 => by
    rcases set_get h1 with ⟨e1, e2⟩ | ⟨e1, h1⟩
    · exact .inl ⟨e1.symm, e2⟩
    · exact .inr ⟨fun e0 => e1 e0.symm, h1⟩
  have hr2 : ∀ (k : Nat) (q : Option Addr × Nat), (rs.set i (R, cap))[k]? = some q → (k = i ∧ q = (R, cap)) ∨ (k ≠ i ∧ rs[k]? = some q) := fun k q h1 => by
    rcases set_get h1 with ⟨e1, e2⟩ | ⟨e1, h1⟩
    · exact .inl ⟨e1.symm, e2⟩
    · exact .inr ⟨fun e0 => e1 e0.symm, h1⟩
  have apart : ∀ (k : Nat) (d : LC) (q : Option Addr × Nat), cs[k]? = some d → rs[k]? = some q → d.refs ≠ [] → x.refs ≠ [] → q.1 ≠ R := fun k d q h1 h2 h3 h4 e0 => by
    obtain ⟨b1, _, e1, p1, _⟩ := hOR.own k d q h1 h2 (ints_ne.2 h3)
    obtain ⟨b2, _, e2, p2, _⟩ := hR (ints_ne.2 h4)
    rw [e0, e2] at e1
    cases e1
    exact hd _ p2 p1
  refine ⟨by rw [List.length_set, List.length_set]; exact hl, fun k d q h1 h2 => ?_, fun k l d d' q q' h1 h2 h3 h4 h5 h6 h7 => ?_⟩
  · rcases hc2 k d h1 with ⟨e1, rfl⟩ | ⟨e1, h1⟩
    · rcases hr2 k q h2 with ⟨e2, rfl⟩ | ⟨e2, h2⟩
      · exact hR.weak (fun _ => .inr)
      · exact absurd e1 e2
    · rcases hr2 k q h2 with ⟨e2, rfl⟩ | ⟨e2, h2⟩
      · exact absurd e2 e1
      · exact (hOR.own k d q h1 h2).weak (fun _ => .inl)
  · rcases hc2 k d h1 with ⟨e1, rfl⟩ | ⟨e1, g1⟩
    · rcases hr2 k q h3 with ⟨e2, rfl⟩ | ⟨e2, h3⟩
      · rcases hc2 l d' h2 with ⟨e3, rfl⟩ | ⟨e3, h2⟩
        · exact absurd (e1.trans e3.symm) h5
        · rcases hr2 l q' h4 with ⟨e4, _⟩ | ⟨_, h4⟩
          · exact absurd e4 e3
          · exact fun e0 => apart l d' q' h2 h4 h7 h6 e0.symm
      · exact absurd e1 e2
    · rcases hr2 k q h3 with ⟨e2, rfl⟩ | ⟨e2, g3⟩
      · exact absurd e2 e1
      · rcases hc2 l d' h2 with ⟨e3, e5⟩ | ⟨e3, g2⟩
        · rcases hr2 l q' h4 with ⟨e4, e6⟩ | ⟨e4, _⟩
          · rw [e6]
            exact apart k d q g1 g3 h6 (by rw [← e5]; exact h7)
          · exact absurd e3 e4
        · rcases hr2 l q' h4 with ⟨e4, _⟩ | ⟨e4, g4⟩
          · exact absurd e4 e3
          · exact hOR.far k l d d' q q' g1 g2 g3 g4 h5 h6 h7
end
/-- A cell is written whole; its references lie in a row of their own. -/
theorem Ys_cell {g i cap : Nat} {z : LC} {R : Option Addr} {PR : Nat → Prop} (hs : sz P t = some 3) (o : XH Pr w eC eI (some ⟨g, 0, none⟩) B h rs c d) (hne : eC ≠ eI) (hi : i < h.cells.length) (hR : OI PR w eI R (ints z.refs)) (hd : ∀ k, PR k → ¬ Pr k) (hx : ev F x = some (.pointer (some ⟨g, 0 + i * 3, none⟩))) (hy : ev F y = some (.agg #[.bool z.used, .int .i64 z.data, .slice R z.refs.length cap])) :
    ∃ w', Ys P F (.store t x y) w w' ∧ Mod (fun i => i = g) w w' ∧ Pr g ∧ XH (fun k => Pr k ∨ PR k) w' eC eI (some ⟨g, 0, none⟩) B ⟨h.cells.set i z, h.roots⟩ (rs.set i (R, cap)) c d := by
  have hl := o.rows.len
  have hc : h.cells[i]? = some h.cells[i] := List.getElem?_eq_getElem hi
  obtain ⟨r, hr⟩ : ∃ r, rs[i]? = some r := ⟨_, List.getElem?_eq_getElem (by omega)⟩
  have hpl := flat_pre (k := i) hl (by omega)
  have hsp := flat_split (post := []) hl hc hr
  have hpu := flat_put (c := z) (r := (R, cap)) (post := []) hl hi
  rw [List.append_nil (flatC h.cells rs)] at hsp
  replace hpu := hpu.trans (List.append_nil _)
  have hrow := o.row
  rw [hsp] at hrow
  obtain ⟨w', hy2, m, hp, ⟨arr, hB0⟩, O⟩ := Ys_ow (P := P) (F := F) (t := t) (x := x) (y := y) (vs := [.bool z.used, .int .i64 z.data, .slice R z.refs.length cap]) hs hrow hx hy rfl rfl (by rw [hpl]; omega) rfl (by simp)
  have hOR := (o.rows.modT hB0 hne m).put (i := i) (cap := cap) (hR.modT hB0 hne m) hd
  have hrt := o.roots.modT hB0 hne m
  refine ⟨w', hy2, m, hp, hOR, ?_, hrt.weak (fun _ => .inl), fun k q r h1 h2 h3 h4 => ?_, o.rd⟩
  · show OW _ w' eC 3 _ (h.cells.set i z).length c _
    rw [List.length_set]
    have O2 := O.weak (Pr' := fun k => Pr k ∨ PR k) (fun _ => .inl)
    rw [← hpu]
    exact O2
  · rcases set_get h1 with ⟨e1, e2⟩ | ⟨e1, h1⟩
    · subst e1
      subst e2
      rcases set_get h2 with ⟨_, e3⟩ | ⟨e3, _⟩
      · subst e3
        intro e0
        obtain ⟨b1, _, e5, p1, _⟩ := o.roots (ints_ne.2 h4)
        obtain ⟨b2, _, e6, p2, _⟩ := hR (ints_ne.2 h3)
        have e7 : R = B := e0
        rw [e7, e5] at e6
        cases e6
        exact hd _ p2 p1
      · exact absurd rfl e3
    · rcases set_get h2 with ⟨e3, _⟩ | ⟨_, h2⟩
      · exact absurd e3 e1
      · exact o.far k q r h1 h2 h3 h4
end
section
variable {P : Program} {ops : Array Oper} {Q : Exit → Act → World → Prop} {S : World → Prop} {rest : List Oper} {fuel : Nat} {lst : List Bool} {F : Fr} {D : List Deferred} {w : World} {i : Nat}
  {ty : TypeId} {pos : String} {af : Array Edge} {t : TypeId} {x y : Operand} {R : World → Prop}
theorem S_of (h : ∃ w', Ys P F (.store t x y) w w' ∧ R w') (k : ∀ w', R w' → wpList P ops Q rest ⟨F.list.toArray, D⟩ w') : wpList P ops Q (⟨none, .store t x y, ty, pos, af, none⟩ :: rest) ⟨F.list.toArray, D⟩ w := by
  obtain ⟨w', h1, h2⟩ := h
  exact S_st h1 (k w' h2)
theorem E_of (hi : ops[i]? = some ⟨none, .store t x y, ty, pos, af, none⟩) (h : ∃ w', Ys P F (.store t x y) w w' ∧ R w') (k : ∀ w', R w' → S w' ∧ wpAnyH P .any ops Q S fuel (lst.set i true).toArray ⟨F.list.toArray, D⟩ w') : dOp P ops Q S fuel lst ⟨F.list.toArray, D⟩ w i := by
  obtain ⟨w', h1, h2⟩ := h
  exact E_st hi h1 (k w' h2).1 (k w' h2).2
end
section
variable {Pr Pr' PR : Nat → Prop} {w w' : World} {eC eI : TypeId} {A A' B R : Option Addr} {h : LH} {rs : List (Option Addr × Nat)} {c c' d bc q : Nat} {z : LC}
theorem ORs.snocD {cs : List LC} (h : ORs Pr w eI cs rs) (hR : OI PR w eI R (ints z.refs)) (hd : ∀ k, PR k → ¬ Pr k) (h1 : ∀ k, Pr k → Pr' k) (h2 : ∀ k, PR k → Pr' k) : ORs Pr' w eI (cs ++ [z]) (rs ++ [(R, bc)]) := by
  have hl := h.len
  have g1 : ∀ {i : Nat} {x : LC} {r : Option Addr × Nat}, (cs ++ [z])[i]? = some x → (rs ++ [(R, bc)])[i]? = some r → (cs[i]? = some x ∧ rs[i]? = some r) ∨ (i = cs.length ∧ x = z ∧ r = (R, bc)) := by
    intro i x r hx hr
    by_cases hi : i < cs.length
    · rw [List.getElem?_append_left hi] at hx
      rw [List.getElem?_append_left (by omega)] at hr
      exact .inl ⟨hx, hr⟩
    · have hlt := (List.getElem?_eq_some_iff.1 hx).1
      simp only [List.length_append, List.length_cons, List.length_nil] at hlt
      have e0 : i = cs.length := by omega
      subst e0
      rw [List.getElem?_append_right (Nat.le_refl _)] at hx
      rw [List.getElem?_append_right (by omega)] at hr
      simp at hx
      simp [hl] at hr
      exact .inr ⟨rfl, hx.symm, hr.symm⟩
  have apart : ∀ (k : Nat) (x : LC) (r : Option Addr × Nat), cs[k]? = some x → rs[k]? = some r → x.refs ≠ [] → z.refs ≠ [] → r.1 ≠ R := fun k x r a1 a2 a3 a4 e0 => by
    obtain ⟨b1, _, e1, p1, _⟩ := h.own k x r a1 a2 (ints_ne.2 a3)
    obtain ⟨b2, _, e2, p2, _⟩ := hR (ints_ne.2 a4)
    rw [e0, e2] at e1
    cases e1
    exact hd _ p2 p1
  refine ⟨by simp [hl], fun i x r hx hr => ?_, fun i j x y r r' hx hy hr hr' hij n1 n2 => ?_⟩
  · rcases g1 hx hr with ⟨a, b⟩ | ⟨_, rfl, rfl⟩
    · exact (h.own i x r a b).weak h1
    · exact hR.weak h2
  · rcases g1 hx hr with ⟨a, b⟩ | ⟨i1, e1, e2⟩
    · rcases g1 hy hr' with ⟨a', b'⟩ | ⟨i2, e3, e4⟩
      · exact h.far i j x y r r' a a' b b' hij n1 n2
      · rw [e4]
        exact apart i x r a b n1 (by rw [← e3]; exact n2)
    · rcases g1 hy hr' with ⟨a', b'⟩ | ⟨i2, _, _⟩
      · rw [e2]
        exact fun e0 => apart j y r' a' b' n2 (by rw [← e1]; exact n1) e0.symm
      · omega
/-- A cell was appended; its references lie in a row of their own. -/
theorem XH.add (o : XH Pr w eC eI A B h rs c d) (hne : eC ≠ eI) (hR : OI PR w eI R (ints z.refs)) (hd : ∀ k, PR k → ¬ Pr k) (m : Mod (fun i => A = some ⟨i, 0, none⟩) w w')
    (X : OW Pr' w' eC 3 A' (h.cells.length + 1) c' (flatC h.cells rs ++ [.bool z.used, .int .i64 z.data, .slice R z.refs.length bc])) (h1 : ∀ k, Pr k → Pr' k) (h2 : ∀ k, PR k → Pr' k) :
    XH Pr' w' eC eI A' B ⟨h.cells ++ [z], h.roots⟩ (rs ++ [(R, bc)]) c' d := by
  have hOR := o.rows.app o.row hne m
  have hRt := o.roots.app o.row hne m
  have hR2 := hR.app o.row hne m
  refine ⟨hOR.snocD hR2 hd h1 h2, ?_, hRt.weak h1, fun i x r hx hr hn h4 => ?_, o.rd⟩
  · have e0 : flatC (h.cells ++ [z]) (rs ++ [(R, bc)]) = flatC h.cells rs ++ [.bool z.used, .int .i64 z.data, .slice R z.refs.length bc] := (flat_more o.rows.len).symm
    show OW Pr' w' eC 3 A' (h.cells ++ [z]).length c' _
    rw [e0, List.length_append]
    exact X
  · by_cases hi : i < h.cells.length
    · have hx2 : (h.cells ++ [z])[i]? = some x := hx
      rw [List.getElem?_append_left hi] at hx2
      rw [List.getElem?_append_left (by rw [o.rows.len]; exact hi)] at hr
      exact o.far i x r hx2 hr hn h4
    · have hlt := (List.getElem?_eq_some_iff.1 hx).1
      have hlt2 : i < (h.cells ++ [z]).length := hlt
      rw [List.length_append] at hlt2
      simp only [List.length_cons, List.length_nil] at hlt2
      have e0 : i = h.cells.length := by omega
      subst e0
      have hx2 : (h.cells ++ [z])[h.cells.length]? = some x := hx
      rw [List.getElem?_append_right (Nat.le_refl _)] at hx2
      rw [List.getElem?_append_right (by rw [o.rows.len]; exact Nat.le_refl _), o.rows.len] at hr
      simp at hx2 hr
      subst hx2
      subst hr
      intro e1
      obtain ⟨b1, _, e5, p1, _⟩ := o.roots (ints_ne.2 h4)
      obtain ⟨b2, _, e6, p2, _⟩ := hR (ints_ne.2 hn)
      have e7 : R = B := e1
      rw [e7, e5] at e6
      cases e6
      exact hd _ p2 p1
theorem XH.bare {xs : List Int} {n : Nat} (r : OW Pr w eI 1 B n d (ints xs)) : XH Pr w eC eI none B ⟨[], xs⟩ [] 0 d := ⟨ORs.nil _ _ _, OW.nil _ _ _ _, r.oi, fun i c q h => by simp at h, by
  have h1 := r.1
  rw [ints_len] at h1
  have h2 := r.cap
  show xs.length ≤ d
  omega⟩
end
end
/-! Poss -/
section
open Go Go.RowKit
/-- The cell that root i leads to has a reference number c. -/
def placeB (h : LH) (i c : Int) : Bool := match h.roots[i.toNat]? with
  | some r => decide (0 ≤ r) && decide (c < ((refsOf h.cells r.toNat).length : Int))
  | none => false
def rootB (h : LH) (i : Int) : Bool := match h.roots[i.toNat]? with
  | some r => decide (0 ≤ r)
  | none => false
def effectB (h : LH) (o : LCmd) : Bool := if o.op = 2 then placeB h o.b o.c else if o.op = 3 then placeB h o.a o.c else if o.op = 6 then rootB h o.a else true
def possB (h : LH) (o : LCmd) : Bool := validB h && (cvB o && effectB h o)
theorem possB_f1 {h : LH} {o : LCmd} (hv : validB h = false) : possB h o = false := by simp [possB, hv]
theorem possB_f2 {h : LH} {o : LCmd} (hv : cvB o = false) : possB h o = false := by simp [possB, hv]
theorem possB_t {h : LH} {o : LCmd} (hv : validB h = true) (hc : cvB o = true) : possB h o = effectB h o := by simp [possB, hv, hc]
theorem placeB_at {h : LH} {n : Nat} {c : Int} (hn : n < h.roots.length) : placeB h (n : Int) c = (decide (0 ≤ h.roots[n]) && decide (c < ((refsOf h.cells h.roots[n].toNat).length : Int))) := by simp [placeB, hn]
theorem placeB_neg {h : LH} {n : Nat} {c : Int} (hn : n < h.roots.length) (h0 : h.roots[n] < 0) : placeB h (n : Int) c = false := by
  rw [placeB_at hn]
  have : ¬ 0 ≤ h.roots[n] := by omega
  simp [this]
theorem placeB_pos {h : LH} {n m : Nat} {c : Int} (hn : n < h.roots.length) (h0 : h.roots[n] = (m : Int)) (hm : m < h.cells.length) : placeB h (n : Int) c = decide (c < (h.cells[m].refs.length : Int)) := by
  rw [placeB_at hn, h0]
  simp [refsOf_at hm]
theorem rootB_at {h : LH} {n : Nat} (hn : n < h.roots.length) : rootB h (n : Int) = decide (0 ≤ h.roots[n]) := by simp [rootB, hn]
theorem cvB_d0 {o : LCmd} (h : cvB o = true) : cvP o := of_decide_eq_true h
theorem valid_root {h : LH} (v : Valid h) {n : Nat} (hn : n < h.roots.length) (h0 : 0 ≤ h.roots[n]) : ∃ m : Nat, h.roots[n] = (m : Int) ∧ m < h.cells.length := by
  have := leadsB_lt (v.roots _ (List.getElem_mem hn)) h0
  exact ⟨h.roots[n].toNat, by omega, by omega⟩
end
end Go.Proofs.Ytikgflhepclfgac
