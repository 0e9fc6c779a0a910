/-
  Walks: fresh copies of the arguments.
  Conditions: those that each theorem states.
-/
import Derived.Test.YtjmfdmndchoplaaTy
import Derived.Test.YtjmfdmndchoplaaWalkB
import Derived.Test.YtjmfdmndchoplaaOwn
namespace Go.Proofs.Ytjmfdmndchoplaa
open Go Go.RowKit
attribute [local irreducible] wpList wpAnyH Code.wp dOp

set_option maxHeartbeats 400000 in
set_option maxRecDepth 20000 in
theorem laws_toIntS_c (Pr : Nat → Prop) (A : Option Addr) (xs : List Int) (c : Nat) (w : World) (hA : R1 Pr w A (ints xs)) (hx : xs.length ≤ 1048576) :
    Calls Try.prog 11 #[.slice A xs.length c] w (Ret fun v w' => ∃ b, v = .slice (some ⟨b, 0, none⟩) xs.length xs.length ∧ w.heap.size ≤ b ∧ Blk w' b 3 (ints xs).toArray ∧ Grow w w') := by
 refine enter Try.func11 rfl Try.ntmps11 (L := [_,_,_,_,_,_,_,_,_,_,_,_,_,_,_,_,_,_,_,_,_,_]) rfl ?_
 have G := Mod.refl No w
 have hA0 := hA
 refine wp_seq_k fun K1 hK1 => ?_
 refine Sb 22 rfl ?_  -- 0
 refine S_val (Y_assign rfl) ?_
 refine S_nl rfl rfl ?_
 refine th_n (hK1 _ _ ?_)
 clear hK1 K1
 refine wp_seq_k fun K2 hK2 => ?_
 refine Sb 22 rfl ?_  -- 1
 refine S_val (Y_move rfl) ?_
 refine S_val (Y_len Try.underlying22 rfl) ?_
 refine S_make (z := [.int .i64 0]) Try.underlying22 zr3 sz3 by3 rfl rfl (by omega) (by omega) (by omega) ?_
 intro b1 w1 fb1 g1 B1
 have lb1 := B1.lt
 replace hA := hA.grow g1
 replace G := G.grow g1
 have zg1 := g1.size
 refine S_val (Y_assign rfl) ?_
 refine S_nl rfl rfl ?_
 refine th_n (hK2 _ _ ?_)
 clear hK2 K2
 refine wp_seq_k fun K3 hK3 => ?_
 refine wp_seq_k fun K4 hK4 => ?_
 refine Sb 22 rfl ?_  -- 2
 refine S_val (Y_assign rfl) ?_
 refine S_nl rfl rfl ?_
 refine th_n (hK4 _ _ ?_)
 clear hK4 K4
 refine wp_block ?_
 go_loopw [4] (fun u4 wr => (∃ k : Nat, u4 = .int .i64 k ∧ k ≤ xs.length ∧ Blk wr b1 3 (ints (xs.take k) ++ zeros [.int .i64 0] (xs.length - k)).toArray) ∧ Mod (fun i => i = b1) w1 wr) (fun u4 wr => xs.length - (intOf u4).toNat)  -- L1
 case atStart =>
  refine ⟨?_, Mod.refl _ _⟩
  exact ⟨0, rfl, by omega, by simpa [ints] using B1⟩
 case round =>
  obtain ⟨w2, rfl⟩ : ∃ x : World, x = wr := ⟨_, rfl⟩
  obtain ⟨hrel, g2⟩ := hrel
  clear B1
  replace G := G.abv g2
  replace hA := hA0.grow G
  have zg2 := g2.size
  obtain ⟨k, rfl, hk, B1⟩ := hrel
  have GL2 := g2
  refine wp_seq_k fun K5 hK5 => ?_
  refine wp_seq_k fun K6 hK6 => ?_
  refine Sb 22 rfl ?_  -- 3
  refine S_val (Y_move rfl) ?_
  refine S_val (Y_move rfl) ?_
  refine S_val (Y_len Try.underlying22 rfl) ?_
  refine S_val (Y_lss rfl rfl) ?_
  refine S_nl rfl rfl ?_
  refine th_n (hK6 _ _ ?_)
  clear hK6 K6
  refine S_if rfl (fun hb1 => ?_) (fun hb1 => ?_)  -- c1
  · -- c1T
   replace hb1 := nb_tt hb1
   have hk1 : k < xs.length := by omega
   obtain ⟨g1, o1, rfl, hp1, hc1⟩ := hA.int hk1
   rw [zeros_pos (by omega)] at B1
   refine wp_skip ?_
   refine th_n (hK5 _ _ ?_)
   clear hK5 K5
   refine wp_seq_k fun K7 hK7 => ?_
   refine wp_block ?_
   refine Sb 22 rfl ?_  -- 5
   refine S_val (Y_move rfl) ?_
   refine S_val (Y_move rfl) ?_
   refine S_val (Y_move rfl) ?_
   refine S_val (Y_move rfl) ?_
   refine S_val (Y_index Try.underlying22 sz3 rfl rfl (by first | assumption | omega)) ?_
   refine S_val (Y_load Try.underlying3 rfl rfl (by first | assumption | exact B1.at (by rfl))) ?_  -- l1
   refine S_val (Y_index Try.underlying22 sz3 rfl rfl (by first | assumption | omega)) ?_
   refine S_stM (pre := ints (xs.take k)) (old := [.int .i64 0]) (post := zeros [.int .i64 0] (xs.length - k - 1)) (vs := [_]) sz3 rfl rfl rfl rfl (by rw [List.append_assoc]; exact B1) (by simp [ints]; omega) rfl ?_
   intro w3 m3 X3
   replace B1 := Blk.eq X3 (ints_snoc hk1)
   clear X3
   replace G := G.abv m3
   replace GL2 := GL2.trn m3
   replace hA := hA0.grow G
   have zm3 := m3.size
   refine S_nl rfl rfl ?_
   refine ib_n ?_
   refine th_n (hK7 _ _ ?_)
   clear hK7 K7
   refine Sb 22 rfl ?_  -- 4
   refine S_val (Y_move rfl) ?_
   refine S_val (Y_inc rfl rfl (by omega)) ?_
   refine S_val (Y_assign rfl) ?_
   refine S_nl rfl rfl ?_
   refine th_n ?_
   go_roundw  -- e1 of L1
   case rel =>
    refine ⟨?_, GL2⟩
    exact ⟨k + 1, rfl, by omega, B1⟩
   case measure =>
    exact dec_nat (by omega)
  · -- c1F
   replace hb1 := nb_tf hb1
   refine wp_exit ?_
   refine th_x ?_
   clear GL2
   refine th_x ?_
   refine ib_e ?_
   refine th_n (hK3 _ _ ?_)
   clear hK5 K5 hK3 K3
   refine wp_seq_k fun K8 hK8 => ?_
   refine Sb 22 rfl ?_  -- 6
   refine S_val (Y_move rfl) ?_
   refine S_val (Y_assign rfl) ?_
   refine S_nl rfl rfl ?_
   refine th_n (hK8 _ _ ?_)
   clear hK8 K8
   refine wp_ret ?_
   refine ret_r1 rfl rfl ?_  -- r1
   have : k = xs.length := by omega
   subst this
   exact ⟨b1, rfl, fb1, Blk.eq B1 (by simp [zeros]), G⟩

set_option maxHeartbeats 400000 in
set_option maxRecDepth 20000 in
theorem laws_toCell_c (Pr : Nat → Prop) (x : LC) (A : Option Addr) (c : Nat) (w : World) (hA : R1 Pr w A (ints x.refs)) (hx : x.refs.length ≤ 1048576) :
    Calls Try.prog 94 #[.agg #[.bool x.used, .int .i64 x.data, .slice A x.refs.length c]] w (Ret fun v w' => ∃ b, v = .agg #[.bool x.used, .int .i64 x.data, .slice (some ⟨b, 0, none⟩) x.refs.length x.refs.length] ∧ w.heap.size ≤ b ∧ Blk w' b 3 (ints x.refs).toArray ∧ Grow w w') := by
 refine enter Try.func94 rfl Try.ntmps94 (L := [_,_,_,_,_,_,_,_,_,_,_,_,_,_,_]) rfl ?_
 have G := Mod.refl No w
 have hA0 := hA
 refine wp_seq_k fun K1 hK1 => ?_
 refine Sb 15 rfl ?_  -- 0
 refine S_box (cs := [_, _, _]) rfl rfl ?_
 intro b1 w1 fb1 g1 B1
 have lb1 := B1.lt
 replace hA := hA.grow g1
 replace G := G.grow g1
 have zg1 := g1.size
 refine S_alloc (cs := [_, _, _]) zr70 rfl ?_
 intro b2 w2 fb2 g2 B2
 have lb2 := B2.lt
 replace hA := hA.grow g2
 replace G := G.grow g2
 replace B1 := B1.grow g2
 have zg2 := g2.size
 refine S_nl rfl rfl ?_
 refine th_n (hK1 _ _ ?_)
 clear hK1 K1
 refine wp_seq_k fun K2 hK2 => ?_
 refine Sb 15 rfl ?_  -- 1
 refine S_alloc (cs := [_, _, _]) zr70 rfl ?_
 intro b3 w3 fb3 g3 B3
 have lb3 := B3.lt
 replace hA := hA.grow g3
 replace G := G.grow g3
 replace B1 := B1.grow g3
 replace B2 := B2.grow g3
 have zg3 := g3.size
 refine S_nl rfl rfl ?_
 refine th_n (hK2 _ _ ?_)
 clear hK2 K2
 refine wp_seq_k fun K3 hK3 => ?_
 refine Sb 15 rfl ?_  -- 2
 refine S_val (Y_field Try.underlying108 rfl fz108_0 (by decide) rfl) ?_
 refine S_val (Y_load Try.underlying4 rfl rfl (B1.at (by rfl))) ?_  -- l1
 refine S_val (Y_field Try.underlying70 rfl fz70_0 (by decide) rfl) ?_
 refine S_stM (pre := []) (old := [_]) (post := [_, _]) (vs := [_]) sz4 rfl rfl rfl (by first | rfl | assumption) B3 rfl rfl ?_
 intro w4 m4 X4
 replace B3 := Blk.eq (ys := [_, _, _]) X4 rfl
 clear X4
 replace G := G.abv m4
 replace hA := hA0.grow G
 replace B1 := B1.md m4
 replace B2 := B2.md m4
 have zm4 := m4.size
 refine S_nl rfl rfl ?_
 refine th_n (hK3 _ _ ?_)
 clear hK3 K3
 refine wp_seq_k fun K4 hK4 => ?_
 refine Sb 15 rfl ?_  -- 3
 refine S_val (Y_field Try.underlying108 rfl fz108_1 (by decide) rfl) ?_
 refine S_val (Y_load Try.underlying3 rfl rfl (B1.at (by rfl))) ?_  -- l2
 refine S_val (Y_field Try.underlying70 rfl fz70_1 (by decide) rfl) ?_
 refine S_stM (pre := [_]) (old := [_]) (post := [_]) (vs := [_]) sz3 rfl rfl rfl (by first | rfl | assumption) B3 rfl rfl ?_
 intro w5 m5 X5
 replace B3 := Blk.eq (ys := [_, _, _]) X5 rfl
 clear X5
 replace G := G.abv m5
 replace hA := hA0.grow G
 replace B1 := B1.md m5
 replace B2 := B2.md m5
 have zm5 := m5.size
 refine S_nl rfl rfl ?_
 refine th_n (hK4 _ _ ?_)
 clear hK4 K4
 refine wp_seq_k fun K5 hK5 => ?_
 refine Sb 15 rfl ?_  -- 4
 refine S_val (Y_field Try.underlying108 rfl fz108_2 (by decide) rfl) ?_
 refine S_val (Y_load Try.underlying22 rfl rfl (B1.at (by rfl))) ?_  -- l3
 refine S_call rfl en11 (laws_toIntS_c _ _ _ _ _ (by assumption) (by omega)) ?_  -- k1 laws.toIntS
 rintro v6 w6 ⟨b6, rfl, fb6, B6, g6⟩
 replace hA := hA.grow g6
 replace G := G.grow g6
 replace B1 := B1.grow g6
 replace B2 := B2.grow g6
 replace B3 := B3.grow g6
 have zg6 := g6.size
 have lb6 := B6.lt
 refine S_val (Y_field Try.underlying70 rfl fz70_2 (by decide) rfl) ?_
 refine S_stM (pre := [_, _]) (old := [_]) (post := []) (vs := [_]) sz22 rfl rfl rfl (by first | rfl | assumption) B3 rfl rfl ?_
 intro w7 m7 X7
 replace B3 := Blk.eq (ys := [_, _, _]) X7 rfl
 clear X7
 replace G := G.abv m7
 replace hA := hA0.grow G
 replace B1 := B1.md m7
 replace B2 := B2.md m7
 replace B6 := B6.md m7
 have zm7 := m7.size
 refine S_nl rfl rfl ?_
 refine th_n (hK5 _ _ ?_)
 clear hK5 K5
 refine wp_seq_k fun K6 hK6 => ?_
 refine Sb 15 rfl ?_  -- 5
 refine S_val (Y_loadS Try.underlying70 rfl sz70 rfl (B3.row (by rfl))) ?_  -- l4
 refine S_stM (pre := []) (old := [_, _, _]) (post := []) (vs := [_, _, _]) sz70 rfl rfl rfl (by first | rfl | assumption) B2 rfl rfl ?_
 intro w8 m8 X8
 replace B2 := Blk.eq (ys := [_, _, _]) X8 rfl
 clear X8
 replace G := G.abv m8
 replace hA := hA0.grow G
 replace B1 := B1.md m8
 replace B3 := B3.md m8
 replace B6 := B6.md m8
 have zm8 := m8.size
 refine S_nl rfl rfl ?_
 refine th_n (hK6 _ _ ?_)
 clear hK6 K6
 refine wp_ret ?_
 refine ret_rc (cs := [_, _, _]) Try.underlying70 rfl sz70 rfl rfl (B2.row (by rfl)) ?_  -- r1
 exact ⟨_, rfl, by omega, by assumption, G⟩

set_option maxHeartbeats 400000 in
set_option maxRecDepth 20000 in
theorem laws_toCellS_c (Pr : Nat → Prop) (A : Option Addr) (xs : List LC) (c : Nat) (w : World) (hA : RC Pr w A xs) (hx : xs.length ≤ 1048576) (hr : ∀ k (h : k < xs.length), xs[k].refs.length ≤ 1048576) :
    Calls Try.prog 60 #[.slice A xs.length c] w (Ret fun v w' => ∃ b rs, v = .slice (some ⟨b, 0, none⟩) xs.length xs.length ∧ OC (fun k => w.heap.size ≤ k) w' 70 3 (some ⟨b, 0, none⟩) xs rs ∧ Grow w w') := by
 refine enter Try.func60 rfl Try.ntmps60 (L := [_,_,_,_,_,_,_,_,_,_,_,_,_,_,_,_,_,_,_,_,_,_,_]) rfl ?_
 have G := Mod.refl No w
 have hA0 := hA
 refine wp_seq_k fun K1 hK1 => ?_
 refine Sb 23 rfl ?_  -- 0
 refine S_val (Y_assign rfl) ?_
 refine S_nl rfl rfl ?_
 refine th_n (hK1 _ _ ?_)
 clear hK1 K1
 refine wp_seq_k fun K2 hK2 => ?_
 refine Sb 23 rfl ?_  -- 1
 refine S_val (Y_move rfl) ?_
 refine S_val (Y_len Try.underlying34 rfl) ?_
 refine S_make (z := [.bool false, .int .i64 0, .slice none 0 0]) Try.underlying23 zr70 sz70 by70 rfl rfl (by omega) (by omega) (by omega) ?_
 intro b1 w1 fb1 g1 B1
 have lb1 := B1.lt
 replace hA := hA.grow g1
 replace G := G.grow g1
 have zg1 := g1.size
 refine S_val (Y_assign rfl) ?_
 refine S_nl rfl rfl ?_
 refine th_n (hK2 _ _ ?_)
 clear hK2 K2
 refine wp_seq_k fun K3 hK3 => ?_
 refine wp_seq_k fun K4 hK4 => ?_
 refine Sb 23 rfl ?_  -- 2
 refine S_val (Y_assign rfl) ?_
 refine S_nl rfl rfl ?_
 refine th_n (hK4 _ _ ?_)
 clear hK4 K4
 refine wp_block ?_
 go_loopw [4] (fun u4 wr => (∃ (k : Nat) (rs : List (Option Addr × Nat)), u4 = .int .i64 k ∧ k ≤ xs.length ∧ Blk wr b1 70 (flatC (xs.take k) rs ++ zeros [.bool false, .int .i64 0, .slice none 0 0] (xs.length - k)).toArray ∧ ORs (fun i => b1 < i) wr 3 (xs.take k) rs) ∧ Mod (fun i => i = b1) w1 wr) (fun u4 wr => xs.length - (intOf u4).toNat)  -- L1
 case atStart =>
  refine ⟨?_, Mod.refl _ _⟩
  exact ⟨0, [], rfl, by omega, by simpa [flatC] using B1, ORs.nil _ _ _⟩
 case round =>
  obtain ⟨w2, rfl⟩ : ∃ x : World, x = wr := ⟨_, rfl⟩
  obtain ⟨hrel, g2⟩ := hrel
  clear B1
  replace G := G.abv g2
  replace hA := hA0.grow G
  have zg2 := g2.size
  obtain ⟨k, rs, rfl, hk, B1, O1⟩ := hrel
  replace O1 := O1.lt
  have lb1b := B1.lt
  have GL2 := g2
  refine wp_seq_k fun K5 hK5 => ?_
  refine wp_seq_k fun K6 hK6 => ?_
  refine Sb 23 rfl ?_  -- 3
  refine S_val (Y_move rfl) ?_
  refine S_val (Y_move rfl) ?_
  refine S_val (Y_len Try.underlying34 rfl) ?_
  refine S_val (Y_lss rfl rfl) ?_
  refine S_nl rfl rfl ?_
  refine th_n (hK6 _ _ ?_)
  clear hK6 K6
  refine S_if rfl (fun hb1 => ?_) (fun hb1 => ?_)  -- c1
  · -- c1T
   replace hb1 := nb_tt hb1
   have hk1 : k < xs.length := by omega
   obtain ⟨g1, o1, E1, e1, rfl, hp1, cc10, hE10⟩ := hA0.cell hk1
   have cc1 := cc10.grow G
   have hE1 := hE10.grow G
   have hr1 := hr k hk1
   rw [zeros_pos (by omega)] at B1
   refine wp_skip ?_
   refine th_n (hK5 _ _ ?_)
   clear hK5 K5
   refine wp_seq_k fun K7 hK7 => ?_
   refine wp_block ?_
   refine Sb 23 rfl ?_  -- 5
   refine S_val (Y_move rfl) ?_
   refine S_val (Y_move rfl) ?_
   refine S_val (Y_move rfl) ?_
   refine S_val (Y_move rfl) ?_
   refine S_val (Y_index Try.underlying34 sz108 rfl rfl (by first | assumption | omega)) ?_
   refine S_val (Y_loadS Try.underlying108 rfl sz108 rfl (by first | assumption | exact B1.row (by rfl))) ?_  -- l1
   refine S_call rfl en94 (laws_toCell_c _ _ _ _ _ (by assumption) (by omega)) ?_  -- k1 laws.toCell
   rintro v3 w3 ⟨b3, rfl, fb3, B3, g3⟩
   replace hA := hA.grow g3
   replace cc1 := cc1.grow g3
   replace hE1 := hE1.grow g3
   replace O1 := O1.grow g3
   replace G := G.grow g3
   replace GL2 := GL2.grow g3
   replace B1 := B1.grow g3
   have zg3 := g3.size
   have lb3 := B3.lt
   refine S_val (Y_index Try.underlying23 sz70 rfl rfl (by first | assumption | omega)) ?_
   refine S_stM (pre := flatC (xs.take k) rs) (old := [.bool false, .int .i64 0, .slice none 0 0]) (post := zeros [.bool false, .int .i64 0, .slice none 0 0] (xs.length - k - 1)) (vs := [_, _, _]) sz70 rfl rfl rfl rfl (by rw [List.append_assoc]; exact B1) (by rw [O1.flat, List.length_take]; omega) rfl ?_
   intro w4 m4 X4
   replace B1 := Blk.eq X4 (flatC_snoc O1.len hk1)
   clear X4
   replace G := G.abv m4
   replace GL2 := GL2.trn m4
   replace hA := hA0.grow G
   replace cc1 := cc10.grow G
   replace hE1 := hE10.grow G
   replace O1 := O1.md m4
   replace B3 := B3.md m4
   have zm4 := m4.size
   refine S_nl rfl rfl ?_
   refine ib_n ?_
   refine th_n (hK7 _ _ ?_)
   clear hK7 K7
   refine Sb 23 rfl ?_  -- 4
   refine S_val (Y_move rfl) ?_
   refine S_val (Y_inc rfl rfl (by omega)) ?_
   refine S_val (Y_assign rfl) ?_
   refine S_nl rfl rfl ?_
   refine th_n ?_
   go_roundw  -- e1 of L1
   case rel =>
    refine ⟨?_, GL2⟩
    refine ⟨k + 1, _, rfl, by omega, B1, ?_⟩
    rw [List.take_succ_eq_append_getElem hk1]
    exact O1.snoc (OI.of_blk' B3 (by omega)) (fun i hi => hi.1) (fun i b hi e => by simp only [Option.some.injEq, Addr.mk.injEq, and_true] at e; omega)
   case measure =>
    exact dec_nat (by omega)
  · -- c1F
   replace hb1 := nb_tf hb1
   refine wp_exit ?_
   refine th_x ?_
   clear GL2
   refine th_x ?_
   refine ib_e ?_
   refine th_n (hK3 _ _ ?_)
   clear hK5 K5 hK3 K3
   refine wp_seq_k fun K8 hK8 => ?_
   refine Sb 23 rfl ?_  -- 6
   refine S_val (Y_move rfl) ?_
   refine S_val (Y_assign rfl) ?_
   refine S_nl rfl rfl ?_
   refine th_n (hK8 _ _ ?_)
   clear hK8 K8
   refine wp_ret ?_
   refine ret_r1 rfl rfl ?_  -- r1
   have : k = xs.length := by omega
   subst this
   rw [List.take_length] at O1 B1
   exact ⟨b1, rs, rfl, ⟨O1.weak (fun i hi => by omega), fun _ => ⟨b1, _, rfl, fb1, B1⟩⟩, G⟩

set_option maxHeartbeats 400000 in
set_option maxRecDepth 20000 in
theorem laws_toHeap_c (Pr : Nat → Prop) (A B : Option Addr) (h : LH) (c d : Nat) (w : World) (hA : RC Pr w A h.cells) (hB : R1 Pr w B (ints h.roots)) (hz : hsize h ≤ 1048576) :
    Calls Try.prog 20 #[.agg #[.slice A h.cells.length c, .slice B h.roots.length d]] w (Ret fun v w' => ∃ a b rs, v = .agg #[.slice (some ⟨a, 0, none⟩) h.cells.length h.cells.length, .slice (some ⟨b, 0, none⟩) h.roots.length h.roots.length] ∧ OH (fun k => w.heap.size ≤ k) w' 70 3 (some ⟨a, 0, none⟩) (some ⟨b, 0, none⟩) h rs ∧ Grow w w') := by
 have hz1 := hsize_cells h
 have hz2 := hsize_roots h
 have hz3 : ∀ k (hk : k < h.cells.length), h.cells[k].refs.length ≤ 1048576 := fun k hk => Nat.le_trans (hsize_refs h hk) hz
 refine enter Try.func20 rfl Try.ntmps20 (L := [_,_,_,_,_,_,_,_,_,_,_,_,_]) rfl ?_
 have G := Mod.refl No w
 have hA0 := hA
 have hB0 := hB
 refine wp_seq_k fun K1 hK1 => ?_
 refine Sb 13 rfl ?_  -- 0
 refine S_box (cs := [_, _]) rfl rfl ?_
 intro b1 w1 fb1 g1 B1
 have lb1 := B1.lt
 replace hA := hA.grow g1
 replace hB := hB.grow g1
 replace G := G.grow g1
 have zg1 := g1.size
 refine S_alloc (cs := [_, _]) zr25 rfl ?_
 intro b2 w2 fb2 g2 B2
 have lb2 := B2.lt
 replace hA := hA.grow g2
 replace hB := hB.grow g2
 replace G := G.grow g2
 replace B1 := B1.grow g2
 have zg2 := g2.size
 refine S_nl rfl rfl ?_
 refine th_n (hK1 _ _ ?_)
 clear hK1 K1
 refine wp_seq_k fun K2 hK2 => ?_
 refine Sb 13 rfl ?_  -- 1
 refine S_alloc (cs := [_, _]) zr25 rfl ?_
 intro b3 w3 fb3 g3 B3
 have lb3 := B3.lt
 replace hA := hA.grow g3
 replace hB := hB.grow g3
 replace G := G.grow g3
 replace B1 := B1.grow g3
 replace B2 := B2.grow g3
 have zg3 := g3.size
 refine S_nl rfl rfl ?_
 refine th_n (hK2 _ _ ?_)
 clear hK2 K2
 refine wp_seq_k fun K3 hK3 => ?_
 refine Sb 13 rfl ?_  -- 2
 refine S_val (Y_field Try.underlying36 rfl fz36_0 (by decide) rfl) ?_
 refine S_val (Y_load Try.underlying34 rfl rfl (B1.at (by rfl))) ?_  -- l1
 refine S_call rfl en60 (laws_toCellS_c _ _ _ _ _ (by assumption) (by omega) (by assumption)) ?_  -- k1 laws.toCellS
 rintro v4 w4 ⟨b4, rs4, rfl, O4, g4⟩
 replace hA := hA.grow g4
 replace hB := hB.grow g4
 replace G := G.grow g4
 replace B1 := B1.grow g4
 replace B2 := B2.grow g4
 replace B3 := B3.grow g4
 have zg4 := g4.size
 replace O4 := O4.lt
 refine S_val (Y_field Try.underlying25 rfl fz25_0 (by decide) rfl) ?_
 refine S_stM (pre := []) (old := [_]) (post := [_]) (vs := [_]) sz23 rfl rfl rfl (by first | rfl | assumption) B3 rfl rfl ?_
 intro w5 m5 X5
 replace B3 := Blk.eq (ys := [_, _]) X5 rfl
 clear X5
 replace G := G.abv m5
 replace hA := hA0.grow G
 replace hB := hB0.grow G
 replace O4 := O4.md m5
 replace B1 := B1.md m5
 replace B2 := B2.md m5
 have zm5 := m5.size
 refine S_nl rfl rfl ?_
 refine th_n (hK3 _ _ ?_)
 clear hK3 K3
 refine wp_seq_k fun K4 hK4 => ?_
 refine Sb 13 rfl ?_  -- 3
 refine S_val (Y_field Try.underlying36 rfl fz36_1 (by decide) rfl) ?_
 refine S_val (Y_load Try.underlying22 rfl rfl (B1.at (by rfl))) ?_  -- l2
 refine S_call rfl en11 (laws_toIntS_c _ _ _ _ _ (by assumption) (by omega)) ?_  -- k2 laws.toIntS
 rintro v6 w6 ⟨b6, rfl, fb6, B6, g6⟩
 replace hA := hA.grow g6
 replace hB := hB.grow g6
 replace O4 := O4.grow g6
 replace G := G.grow g6
 replace B1 := B1.grow g6
 replace B2 := B2.grow g6
 replace B3 := B3.grow g6
 have zg6 := g6.size
 have lb6 := B6.lt
 refine S_val (Y_field Try.underlying25 rfl fz25_1 (by decide) rfl) ?_
 refine S_stM (pre := [_]) (old := [_]) (post := []) (vs := [_]) sz22 rfl rfl rfl (by first | rfl | assumption) B3 rfl rfl ?_
 intro w7 m7 X7
 replace B3 := Blk.eq (ys := [_, _]) X7 rfl
 clear X7
 replace G := G.abv m7
 replace hA := hA0.grow G
 replace hB := hB0.grow G
 replace O4 := O4.md m7
 replace B1 := B1.md m7
 replace B2 := B2.md m7
 replace B6 := B6.md m7
 have zm7 := m7.size
 refine S_nl rfl rfl ?_
 refine th_n (hK4 _ _ ?_)
 clear hK4 K4
 refine wp_seq_k fun K5 hK5 => ?_
 refine Sb 13 rfl ?_  -- 4
 refine S_val (Y_loadS Try.underlying25 rfl sz25 rfl (B3.row (by rfl))) ?_  -- l3
 refine S_stM (pre := []) (old := [_, _]) (post := []) (vs := [_, _]) sz25 rfl rfl rfl (by first | rfl | assumption) B2 rfl rfl ?_
 intro w8 m8 X8
 replace B2 := Blk.eq (ys := [_, _]) X8 rfl
 clear X8
 replace G := G.abv m8
 replace hA := hA0.grow G
 replace hB := hB0.grow G
 replace O4 := O4.md m8
 replace B1 := B1.md m8
 replace B3 := B3.md m8
 replace B6 := B6.md m8
 have zm8 := m8.size
 refine S_nl rfl rfl ?_
 refine th_n (hK5 _ _ ?_)
 clear hK5 K5
 refine wp_ret ?_
 refine ret_rc (cs := [_, _]) Try.underlying25 rfl sz25 rfl rfl (B2.row (by rfl)) ?_  -- r1
 exact ⟨_, _, _, rfl, OH.of_parts O4 (OI.of_blk' (Pr := fun k => k = b6) B6 rfl) (fun k b h1 h2 h3 => by omega) (fun k hk => by omega) (fun k hk => by omega), G⟩

end Go.Proofs.Ytjmfdmndchoplaa
