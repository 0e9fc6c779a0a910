/-
  Walks: the order in which the program meets the cells.
  Conditions: those that each theorem states.
-/
import Derived.Test.YtjmfdmndchoplaaTy
import Derived.Test.YtjmfdmndchoplaaWalkF
namespace Go.Proofs.Ytjmfdmndchoplaa
open Go Go.RowKit
attribute [local irreducible] wpList wpAnyH Code.wp dOp

/-- The word m has the numbers of s. -/
def BitsOf (m : Nat) (s : List Int) : Prop := m < 2 ^ 64 ∧ ∀ n : Nat, m.testBit n = decide ((n : Int) ∈ s)
theorem BitsOf.zero : BitsOf 0 [] := ⟨by decide, fun n => by simp⟩
theorem BitsOf.add {m n : Nat} {s : List Int} (h : BitsOf m s) (hn : n < 64) : BitsOf (addN m n) (s ++ [(n : Int)]) :=
  ⟨addN_lt h.1 hn, fun j => by
    rw [addN_bit, h.2]
    by_cases hj : n = j
    · subst hj; simp
    · have : ¬ j = n := fun e => hj e.symm
      by_cases hs : (j : Int) ∈ s <;> simp [hj, hs]
      omega⟩


set_option maxHeartbeats 400000 in
set_option maxRecDepth 20000 in
theorem impl_metOrder_1_c (E : Option Addr) (xs : List Int) (e N lo bl bx bm bo m q cap : Nat) (A : Option Addr) (s : List Int) (w : World) (hE : R1 (fun k => k < lo) w E (ints xs)) (hx : xs.length ≤ 1048576) (Bm : Blk w bm 82 [.int .u64 (m : Int)].toArray) (Bo : Blk w bo 22 [.slice A q cap].toArray) (O : OW (fun i => i = bl ∨ bx < i) w 3 1 A q cap (ints s)) (hq : q = s.length) (hs : BitsOf m s) (hr : ∀ x ∈ xs, nn x = true → 0 ≤ x ∧ x < (N : Int)) (hN : N ≤ 64) (hb : Bnd N s) (h9 : lo ≤ bl ∧ lo ≤ bm ∧ lo ≤ bo ∧ bl ≤ bx ∧ bm ≤ bx ∧ bo ≤ bx ∧ bm ≠ bl ∧ bo ≠ bl ∧ bm ≠ bo ∧ bx < w.heap.size) :
    Calls Try.prog 101 #[.slice E xs.length e, .pointer (some ⟨bm, 0, none⟩), .pointer (some ⟨bo, 0, none⟩)] w (Ret fun _v w' => ∃ m q cap A, q = (meet nn s xs).length ∧ BitsOf m (meet nn s xs) ∧ Blk w' bm 82 [.int .u64 (m : Int)].toArray ∧ Blk w' bo 22 [.slice A q cap].toArray ∧ OW (fun i => i = bl ∨ bx < i) w' 3 1 A q cap (ints (meet nn s xs)) ∧ Mod (fun i => i = bm ∨ i = bo ∨ i = bl ∨ bx < i) w w') := by
 obtain ⟨p1, p2, p3, p4, p5, p6, p7, p8, p9, p10⟩ := h9
 refine enter Try.func101 rfl Try.ntmps101 (L := [_,_,_,_,_,_,_,_,_,_,_,_,_,_,_,_,_,_,_,_,_,_,_,_,_,_,_]) rfl ?_
 have G := Mod.refl (fun i => i = bm ∨ i = bo ∨ i = bl ∨ bx < i) w
 refine wp_seq_k fun K1 hK1 => ?_
 refine Sb 27 rfl ?_  -- 0
 refine S_val (Y_move rfl) ?_
 refine S_val (Y_len Try.underlying22 rfl) ?_
 refine S_val (Y_move rfl) ?_
 refine S_nl rfl rfl ?_
 refine th_n (hK1 _ _ ?_)
 clear hK1 K1
 refine wp_block ?_
 go_loopw [8] (fun u8 wr => (∃ (k m q cap : Nat) (A : Option Addr) (s1 : List Int), u8 = .int .i64 k ∧ k ≤ xs.length ∧ q = s1.length ∧ s1 = meet nn s (xs.take k) ∧ BitsOf m s1 ∧ Blk wr bm 82 [.int .u64 (m : Int)].toArray ∧ Blk wr bo 22 [.slice A q cap].toArray ∧ OW (fun i => i = bl ∨ bx < i) wr 3 1 A q cap (ints s1)) ∧ Mod (fun i => i = bm ∨ i = bo ∨ i = bl ∨ bx < i) w wr) (fun u8 wr => xs.length - (intOf u8).toNat)  -- L1
 case atStart =>
  refine ⟨?_, Mod.refl _ _⟩
  exact ⟨0, m, q, cap, A, s, rfl, by omega, hq, rfl, hs, Bm, Bo, O⟩
 case round =>
  obtain ⟨w1, rfl⟩ : ∃ x : World, x = wr := ⟨_, rfl⟩
  obtain ⟨hrel, g1⟩ := hrel
  clear Bm
  clear Bo
  clear O
  replace G := Mod.trans' G g1 (fun _ h _ => h) (fun i h _ => by first | exact h | omega | (dsimp only at h ⊢; omega))
  replace hE := hE.md g1
  have zg1 := g1.size
  obtain ⟨k, m1, q1, cap1, A1, s1, rfl, hk, hq1, hs1, ht1, Bm, Bo, O⟩ := hrel
  have hsl : s1.length ≤ N := by rw [hs1]; exact (hb.take hr).len
  have hm1 := ht1.1
  have GL1 := g1
  refine wp_seq_k fun K2 hK2 => ?_
  refine Sb 27 rfl ?_  -- 1
  refine S_val (Y_lss rfl rfl) ?_
  refine S_nl rfl rfl ?_
  refine th_n (hK2 _ _ ?_)
  clear hK2 K2
  refine wp_seq_k fun K3 hK3 => ?_
  refine S_if rfl (fun hb1 => ?_) (fun hb1 => ?_)  -- c1
  · -- c1T
   replace hb1 := nb_tt hb1
   have hk1 : k < xs.length := by omega
   obtain ⟨g1, o1, rfl, hp1, hc1⟩ := hE.int hk1
   refine wp_skip ?_
   refine th_n (hK3 _ _ ?_)
   clear hK3 K3
   refine wp_seq_k fun K4 hK4 => ?_
   refine wp_block ?_
   refine wp_seq_k fun K5 hK5 => ?_
   refine Sb 27 rfl ?_  -- 2
   refine S_val (Y_index Try.underlying22 sz3 rfl rfl (by first | assumption | omega)) ?_
   refine S_val (Y_load Try.underlying3 rfl rfl (by first | assumption | exact Bm.at (by rfl) | exact Bo.at (by rfl))) ?_  -- l1
   refine S_val (Y_assign rfl) ?_
   refine S_nl rfl rfl ?_
   refine th_n (hK5 _ _ ?_)
   clear hK5 K5
   refine wp_seq_k fun K6 hK6 => ?_
   refine Sb 27 rfl ?_  -- 3
   refine S_val (Y_move rfl) ?_
   refine S_val (Y_geq rfl rfl) ?_
   refine S_val (Y_move rfl) ?_
   refine S_g 14 rfl (fun hb2 => ?_) (fun hb2 => ?_)  -- g1
   · -- g1T
    replace hb2 := nb_tt hb2
    obtain ⟨n, hn, hnN⟩ := ref_at hr hk1 hb2
    rw [hn]
    refine S_on rfl rfl ?_
    refine S_val (Y_load Try.underlying82 rfl rfl (Bm.at (by rfl))) ?_  -- l2
    refine S_on rfl rfl ?_
    refine S_val (Y_move rfl) ?_
    refine S_on rfl rfl ?_
    refine S_call rfl en61 (impl_cellSet_has_c _ _ _ (by assumption)) ?_  -- k1 (impl.cellSet).has
    rintro v w' ⟨rfl, rfl⟩
    refine S_on rfl rfl ?_
    refine S_val (Y_not rfl) ?_
    refine S_val (Y_pickT rfl rfl) ?_
    refine S_nl rfl rfl ?_
    refine th_n (hK6 _ _ ?_)
    clear hK6 K6
    refine S_if rfl (fun hb3 => ?_) (fun hb3 => ?_)  -- c2
    · -- c2T
     first | with_reducible (replace hb3 := nb_nt hb3) | with_reducible (replace hb3 := nb_tt hb3) | with_reducible (replace hb3 := nb_bt hb3) | skip
     rw [hasB_nat, ht1.2] at hb3
     refine wp_seq_k fun K7 hK7 => ?_
     refine Sb 27 rfl ?_  -- 4
     refine S_val (Y_move rfl) ?_
     refine S_call rfl en62 (impl_cellSet_add_c _ _ _ _ (by assumption) (by assumption) (by omega)) ?_  -- k2 (*impl.cellSet).add
     rintro v3 w3 ⟨X3, m3⟩
     replace Bm := X3
     clear X3
     replace G := Mod.trans' G m3 (fun _ h _ => h) (fun i h _ => by first | exact h | omega | (dsimp only at h ⊢; omega))
     replace GL1 := GL1.trn m3
     replace hE := hE.md m3
     replace O := O.md m3
     replace Bo := Bo.md m3
     have zm3 := m3.size
     refine S_nl rfl rfl ?_
     refine th_n (hK7 _ _ ?_)
     clear hK7 K7
     refine Sb 27 rfl ?_  -- 5
     refine S_val (Y_load Try.underlying22 rfl rfl (Bo.at (by rfl))) ?_  -- l3
     refine S_val (Y_move rfl) ?_
     refine S_bs1 (cs := [_]) Try.underlying22 zr3 sz3 rfl rfl rfl ?_
     intro b4 w4 fb4 g4 B4
     have lb4 := B4.lt
     replace hE := hE.grow g4
     replace O := O.grow g4
     replace G := G.grow g4
     replace GL1 := GL1.grow g4
     replace Bm := Bm.grow g4
     replace Bo := Bo.grow g4
     have zg4 := g4.size
     refine S_app Try.underlying22 zr3 sz3 by3 rfl rfl O rfl (Src.blk B4) (by simp [Value.oneCell']) (by omega) (Pr' := fun i => i = bl ∨ bx < i) (fun i hi => hi) (by omega) ?_
     intro A5 cap5 w5 X5 m5
     replace O := X5
     rw [ints_app] at O
     clear X5
     replace G := Mod.trans' G m5 (fun _ h _ => h) (fun i h _ => by first | exact h | omega | (dsimp only at h ⊢; omega))
     replace GL1 := GL1.trn m5
     replace hE := hE.md m5
     replace Bm := Bm.md m5
     replace Bo := Bo.md m5
     have zm5 := m5.size
     refine S_stM (pre := []) (old := [_]) (post := []) (vs := [_]) sz22 rfl rfl rfl (by first | rfl | assumption) Bo rfl rfl ?_
     intro w6 m6 X6
     replace Bo := Blk.eq (ys := [_]) X6 rfl
     clear X6
     replace G := Mod.trans' G m6 (fun _ h _ => h) (fun i h _ => by first | exact h | omega | (dsimp only at h ⊢; omega))
     replace GL1 := GL1.trn m6
     replace hE := hE.md m6
     replace O := O.md m6
     replace Bm := Bm.md m6
     have zm6 := m6.size
     refine S_nl rfl rfl ?_
     refine ib_n ?_
     refine th_n (hK4 _ _ ?_)
     clear hK4 K4
     refine Sb 27 rfl ?_  -- 6
     refine S_val (Y_inc rfl rfl (by omega)) ?_
     refine S_val (Y_move rfl) ?_
     refine S_nl rfl rfl ?_
     refine th_n ?_
     go_roundw  -- e1 of L1
     case rel =>
      refine ⟨?_, GL1⟩
      exact ⟨k + 1, _, _, _, _, s1 ++ [(n : Int)], rfl, by omega, by simp; omega, by rw [meet_succ hk1, ← hs1, hn, meet1_new (nn_of (by omega)) (of_decide_eq_false hb3)], ht1.add (by omega), Bm, Bo, O⟩
     case measure =>
      exact dec_nat (by omega)
    · -- c2F
     first | with_reducible (replace hb3 := nb_nf hb3) | with_reducible (replace hb3 := nb_tf hb3) | with_reducible (replace hb3 := nb_bf hb3) | skip
     rw [hasB_nat, ht1.2] at hb3
     refine wp_skip ?_
     refine ib_n ?_
     refine th_n (hK4 _ _ ?_)
     clear hK4 K4
     refine Sb 27 rfl ?_  -- 6
     refine S_val (Y_inc rfl rfl (by omega)) ?_
     refine S_val (Y_move rfl) ?_
     refine S_nl rfl rfl ?_
     refine th_n ?_
     go_roundw  -- e2 of L1
     case rel =>
      refine ⟨?_, GL1⟩
      exact ⟨k + 1, _, _, _, _, s1, rfl, by omega, hq1, by rw [meet_succ hk1, ← hs1, hn, meet1_old (of_decide_eq_true hb3)], ht1, Bm, Bo, O⟩
     case measure =>
      exact dec_nat (by omega)
   · -- g1F
    replace hb2 := nb_tf hb2
    refine S_off rfl rfl ?_
    refine S_off rfl rfl ?_
    refine S_off rfl rfl ?_
    refine S_off rfl rfl ?_
    refine S_val (Y_pickF rfl rfl) ?_
    refine S_nl rfl rfl ?_
    refine th_n (hK6 _ _ ?_)
    clear hK6 K6
    refine S_ifF rfl ?_
    refine wp_skip ?_
    refine ib_n ?_
    refine th_n (hK4 _ _ ?_)
    clear hK4 K4
    refine Sb 27 rfl ?_  -- 6
    refine S_val (Y_inc rfl rfl (by omega)) ?_
    refine S_val (Y_move rfl) ?_
    refine S_nl rfl rfl ?_
    refine th_n ?_
    go_roundw  -- e3 of L1
    case rel =>
     refine ⟨?_, GL1⟩
     exact ⟨k + 1, _, _, _, _, s1, rfl, by omega, hq1, by rw [meet_succ hk1, ← hs1, meet1_not (nn_no hb2)], ht1, Bm, Bo, O⟩
    case measure =>
     exact dec_nat (by omega)
  · -- c1F
   replace hb1 := nb_tf hb1
   refine wp_exit ?_
   refine th_x ?_
   clear GL1
   refine th_x ?_
   refine ib_e ?_
   clear hK3 K3
   refine ret_n0 rfl ?_  -- r1
   rw [meet_all (by omega)] at hs1
   subst hs1
   exact ⟨_, _, _, _, hq1, ht1, Bm, Bo, O, G⟩

set_option maxHeartbeats 400000 in
set_option maxRecDepth 20000 in
theorem impl_metOrder_c (Pr : Nat → Prop) (A B : Option Addr) (h : LH) (c d : Nat) (w : World) (hA : RC Pr w A h.cells) (hB : R1 Pr w B (ints h.roots)) (hz : hsize h ≤ 1048576) (hl : Leads h.cells h.roots nn) (h40 : h.cells.length ≤ 64) :
    Calls Try.prog 88 #[.agg #[.slice A h.cells.length c, .slice B h.roots.length d]] w (Ret fun v w' => ∃ A1 q cap, v = .slice A1 q cap ∧ q = (orderL h.cells h.roots nn).length ∧ OW (fun i => w.heap.size ≤ i) w' 3 1 A1 q cap (ints (orderL h.cells h.roots nn)) ∧ Grow w w') := by
 have hz1 := hsize_cells h
 have hz2 := hsize_roots h
 have hz3 : ∀ k (hk : k < h.cells.length), h.cells[k].refs.length ≤ hsize h := fun k hk => hsize_refs h hk
 have hAl := hA.below
 have hBl := hB.below
 refine enter Try.func88 rfl Try.ntmps88 (L := [_,_,_,_,_,_,_,_,_,_,_,_,_,_,_,_,_,_,_,_,_,_,_,_,_,_,_,_,_,_,_]) rfl ?_
 have G := Mod.refl No w
 have hAl0 := hAl
 have hBl0 := hBl
 refine wp_seq_k fun K1 hK1 => ?_
 refine Sb 31 rfl ?_  -- 0
 refine S_box (cs := [_, _]) rfl rfl ?_
 intro b1 w1 fb1 g1 B1
 have lb1 := B1.lt
 replace hAl := hAl.grow g1
 replace hBl := hBl.grow g1
 replace G := G.grow g1
 have zg1 := g1.size
 refine S_val (Y_assign rfl) ?_
 refine S_nl rfl rfl ?_
 refine th_n (hK1 _ _ ?_)
 clear hK1 K1
 refine wp_seq_k fun K2 hK2 => ?_
 refine Sb 31 rfl ?_  -- 1
 refine S_bs0 Try.underlying22 sz3 ?_
 intro b2 w2 fb2 g2 B2
 have lb2 := B2.lt
 replace hAl := hAl.grow g2
 replace hBl := hBl.grow g2
 replace G := G.grow g2
 replace B1 := B1.grow g2
 have zg2 := g2.size
 refine S_alloc (cs := [_]) zr22 rfl ?_
 intro b3 w3 fb3 g3 B3
 have lb3 := B3.lt
 replace hAl := hAl.grow g3
 replace hBl := hBl.grow g3
 replace G := G.grow g3
 replace B1 := B1.grow g3
 replace B2 := B2.grow g3
 have zg3 := g3.size
 refine S_stM (pre := []) (old := [_]) (post := []) (vs := [_]) sz22 rfl rfl rfl (by first | rfl | assumption) B3 rfl rfl ?_
 intro w4 m4 X4
 replace B3 := Blk.eq (ys := [_]) X4 rfl
 clear X4
 replace G := G.abv m4
 replace hAl := hAl0.grow G
 replace hBl := hBl0.grow G
 replace B1 := B1.md m4
 replace B2 := B2.md m4
 have zm4 := m4.size
 refine S_nl rfl rfl ?_
 refine th_n (hK2 _ _ ?_)
 clear hK2 K2
 refine wp_seq_k fun K3 hK3 => ?_
 refine Sb 31 rfl ?_  -- 2
 refine S_alloc (cs := [_]) zr82 rfl ?_
 intro b5 w5 fb5 g5 B5
 have lb5 := B5.lt
 replace hAl := hAl.grow g5
 replace hBl := hBl.grow g5
 replace G := G.grow g5
 replace B1 := B1.grow g5
 replace B2 := B2.grow g5
 replace B3 := B3.grow g5
 have zg5 := g5.size
 have O2 : OW (fun i => i = b2 ∨ b5 < i) w5 3 1 (some ⟨b2, 0, none⟩) 0 0 (ints []) := OW.of_blk B2 rfl (by decide) (.inl rfl)
 refine S_nl rfl rfl ?_
 refine th_n (hK3 _ _ ?_)
 clear hK3 K3
 refine wp_seq_k fun K4 hK4 => ?_
 refine Sb 31 rfl ?_  -- 3
 refine S_val (Y_makeFunc rfl rfl) ?_
 refine S_val (Y_assign rfl) ?_
 refine S_nl rfl rfl ?_
 refine th_n (hK4 _ _ ?_)
 clear hK4 K4
 refine wp_seq_k fun K5 hK5 => ?_
 refine Sb 31 rfl ?_  -- 4
 refine S_val (Y_move rfl) ?_
 refine S_val (Y_field Try.underlying25 rfl fz25_1 (by decide) rfl) ?_
 refine S_val (Y_load Try.underlying22 rfl rfl (B1.at (by rfl))) ?_  -- l1
 refine S_callc rfl rfl en101 (impl_metOrder_1_c _ _ _ h.cells.length w.heap.size b2 b5 b5 b3 _ _ _ _ _ _ hBl (by omega) B5 B3 O2 rfl BitsOf.zero hl.1 (by omega) (Bnd.nil _) ⟨by omega, by omega, by omega, by omega, by omega, by omega, by omega, by omega, by omega, by omega⟩) ?_  -- k1
 rintro v6 w6 ⟨m1, q1, cap1, A1, hq1, ht1, X6, Y6, Z6, m6⟩
 replace B3 := Y6
 replace B5 := X6
 replace O2 := Z6
 clear X6 Y6 Z6
 replace G := G.abv m6
 replace hAl := hAl0.grow G
 replace hBl := hBl0.grow G
 replace B1 := B1.md m6
 have zm6 := m6.size
 refine S_nl rfl rfl ?_
 refine th_n (hK5 _ _ ?_)
 clear hK5 K5
 refine wp_seq_k fun K6 hK6 => ?_
 refine wp_seq_k fun K7 hK7 => ?_
 refine Sb 31 rfl ?_  -- 5
 refine S_val (Y_assign rfl) ?_
 refine S_nl rfl rfl ?_
 refine th_n (hK7 _ _ ?_)
 clear hK7 K7
 refine wp_block ?_
 go_loopw [6] (fun u6 wr => (∃ (k m q cap : Nat) (A1 : Option Addr) (s : List Int), u6 = .int .i64 k ∧ q = s.length ∧ BitsOf m s ∧ Ord h.cells h.roots nn k s ∧ bfs h.cells nn (h.cells.length - k) k s = orderL h.cells h.roots nn ∧ Blk wr b5 82 [.int .u64 (m : Int)].toArray ∧ Blk wr b3 22 [.slice A1 q cap].toArray ∧ OW (fun i => i = b2 ∨ b5 < i) wr 3 1 A1 q cap (ints s)) ∧ Mod (fun i => i = b5 ∨ i = b3 ∨ i = b2 ∨ b5 < i) w6 wr) (fun u6 wr => h.cells.length - (intOf u6).toNat)  -- L1
 case atStart =>
  refine ⟨?_, Mod.refl _ _⟩
  exact ⟨0, m1, q1, cap1, A1, meet nn [] h.roots, rfl, hq1, ht1, Ord.start _ _ _, rfl, B5, B3, O2⟩
 case round =>
  obtain ⟨w7, rfl⟩ : ∃ x : World, x = wr := ⟨_, rfl⟩
  obtain ⟨hrel, g7⟩ := hrel
  clear B3
  clear B5
  clear O2
  replace G := G.abv g7
  replace hAl := hAl0.grow G
  replace hBl := hBl0.grow G
  replace B1 := B1.md g7
  have zg7 := g7.size
  obtain ⟨k, m2, q2, cap2, A2, s, rfl, hq2, ht2, ho2, hbf, B5, B3, O2⟩ := hrel
  have hbd := ho2.bnd hl
  have hsl2 := hbd.len
  have GL7 := g7
  refine wp_seq_k fun K8 hK8 => ?_
  refine wp_seq_k fun K9 hK9 => ?_
  refine Sb 31 rfl ?_  -- 6
  refine S_val (Y_move rfl) ?_
  refine S_val (Y_load Try.underlying22 rfl rfl (B3.at (by rfl))) ?_  -- l2
  refine S_val (Y_len Try.underlying22 rfl) ?_
  refine S_val (Y_lss rfl rfl) ?_
  refine S_nl rfl rfl ?_
  refine th_n (hK9 _ _ ?_)
  clear hK9 K9
  refine S_if rfl (fun hb1 => ?_) (fun hb1 => ?_)  -- c1
  · -- c1T
   replace hb1 := nb_tt hb1
   refine wp_skip ?_
   refine th_n (hK8 _ _ ?_)
   clear hK8 K8
   refine wp_seq_k fun K10 hK10 => ?_
   refine wp_block ?_
   refine D_start 11 31 (fun w => Mod (fun i => i = b5 ∨ i = b3 ∨ i = b2 ∨ b5 < i) w) follows rfl rfl ?_  -- d1 r8
   intro w8 g8
   replace hAl := hAl.grow g8
   replace hBl := hBl.grow g8
   replace O2 := O2.grow g8
   replace G := G.grow g8
   replace GL7 := GL7.grow g8
   replace B1 := B1.grow g8
   replace B3 := B3.grow g8
   replace B5 := B5.grow g8
   have zg8 := g8.size
   have GS8 := Mod.refl (fun i => i = b5 ∨ i = b3 ∨ i = b2 ∨ b5 < i) w8
   have hk2 : k < s.length := by omega
   obtain ⟨n2, hn2, hnN2, hng2⟩ := bnd_at hbd hk2
   obtain ⟨g2, o2, rfl, hp2, hc2⟩ := O2.r1.int hk2
   rw [hn2] at hc2
   obtain ⟨g3, o3, E3, d3, rfl, hp3, cc30, hE30⟩ := hAl0.cell hnN2
   have hz4 := hz3 n2 hnN2
   have cc3 := cc30.grow G
   have hE3 := hE30.grow G
   refine Dq (i := 0) rfl GS8 (fun _ _ => Y_move rfl) ?_
   refine Dq (i := 1) rfl GS8 (fun _ _ => Y_field Try.underlying25 rfl fz25_0 (by decide) rfl) ?_
   refine Dq (i := 2) rfl GS8 (fun _ hs => Y_load Try.underlying23 rfl rfl (by first | exact hs.cell (B1.at (by rfl)) (by intro h; first | omega | (dsimp only at h; omega)))) ?_
   refine Dq (i := 4) rfl GS8 (fun _ _ => Y_move rfl) ?_
   refine D_1 (i := 3) (by kernel_rfl) ?_
   refine E_val (i := 3) rfl (Y_load Try.underlying22 rfl rfl (B3.at (by rfl))) GS8 ?_
   refine Dq (i := 5) rfl GS8 (fun _ _ => Y_index Try.underlying22 sz3 rfl rfl (by first | assumption | omega)) ?_
   refine D_1 (i := 6) (by kernel_rfl) ?_
   refine E_val (i := 6) rfl (Y_load Try.underlying3 rfl rfl (by assumption)) GS8 ?_
   refine Dq (i := 7) rfl GS8 (fun _ _ => Y_index Try.underlying23 sz70 rfl rfl (by first | assumption | omega)) ?_
   refine Dq (i := 8) rfl GS8 (fun _ _ => Y_field Try.underlying70 rfl fz70_2 (by decide) rfl) ?_
   refine Dq (i := 9) rfl GS8 (fun _ hs => Y_load Try.underlying22 rfl rfl (by first | exact hs.cell (by assumption) (by intro h; first | omega | (dsimp only at h; omega)) | exact hs.cell (cc3.at (by rfl)) (by intro h; first | omega | (dsimp only at h; omega)) | exact hs.cell (B1.at (by rfl)) (by intro h; first | omega | (dsimp only at h; omega)) | exact hs.cell (B3.at (by rfl)) (by intro h; first | omega | (dsimp only at h; omega)) | exact hs.cell (B5.at (by rfl)) (by intro h; first | omega | (dsimp only at h; omega)))) ?_
   refine D_1 (i := 10) (by kernel_rfl) ?_
   refine E_callc rfl rfl rfl en101 (impl_metOrder_1_c _ _ _ h.cells.length w.heap.size b2 b5 b5 b3 _ _ _ _ _ _ hE3 (by omega) B5 B3 O2 hq2 ht2 (hl.refs hnN2) (by omega) hbd ⟨by omega, by omega, by omega, by omega, by omega, by omega, by omega, by omega, by omega, by omega⟩) ?_  -- k2
   rintro v11 w11 ⟨m3, q3, cap3, A3, hq3, ht3, X11, Y11, Z11, m11⟩
   replace B3 := Y11
   replace B5 := X11
   replace O2 := Z11
   clear X11 Y11 Z11
   replace G := G.abv m11
   replace GL7 := GL7.trn m11
   replace GS8 := GS8.trn m11
   replace hAl := hAl0.grow G
   replace hBl := hBl0.grow G
   replace cc3 := cc30.grow G
   replace hE3 := hE30.grow G
   replace B1 := B1.md m11
   have zm11 := m11.size
   refine ⟨GS8, ?_⟩
   refine D_en (by kernel_rfl) rfl rfl ?_
   refine ib_n ?_
   refine th_n (hK10 _ _ ?_)
   clear hK10 K10
   refine Sb 31 rfl ?_  -- 7
   refine S_val (Y_move rfl) ?_
   refine S_val (Y_inc rfl rfl (by omega)) ?_
   refine S_val (Y_assign rfl) ?_
   refine S_nl rfl rfl ?_
   refine th_n ?_
   go_roundw  -- e1 of L1
   case rel =>
    refine ⟨?_, GL7⟩
    exact ⟨k + 1, _, _, _, _, meet nn s h.cells[n2].refs, rfl, hq3, ht3, by rw [← refsOf_at hnN2]; exact ho2.next hng2, by rw [← refsOf_at hnN2, ← bfs_go (by omega) hng2]; exact hbf, B5, B3, O2⟩
   case measure =>
    exact dec_nat (by omega)
  · -- c1F
   replace hb1 := nb_tf hb1
   refine wp_exit ?_
   refine th_x ?_
   clear GL7
   refine th_x ?_
   refine ib_e ?_
   refine th_n (hK6 _ _ ?_)
   clear hK8 K8 hK6 K6
   refine wp_seq_k fun K11 hK11 => ?_
   refine Sb 31 rfl ?_  -- 9
   refine S_val (Y_load Try.underlying22 rfl rfl (B3.at (by rfl))) ?_  -- l5
   refine S_val (Y_assign rfl) ?_
   refine S_nl rfl rfl ?_
   refine th_n (hK11 _ _ ?_)
   clear hK11 K11
   refine wp_ret ?_
   refine ret_r1 rfl rfl ?_  -- r1
   have he := hbf
   rw [bfs_end (by omega)] at he
   exact ⟨_, _, _, rfl, by rw [← he]; exact hq2, by rw [← he]; exact O2.weak (fun i hi => by first | omega | (dsimp only at hi; omega)), G⟩

end Go.Proofs.Ytjmfdmndchoplaa
