/-
  Walks: what the program says can be reached.
  Conditions: those that each theorem states.
-/
import Derived.Test.YtjmfdmndchoplaaTy
import Derived.Test.YtjmfdmndchoplaaWalkI
import Derived.Test.YtjmfdmndchoplaaDfs
namespace Go.Proofs.Ytjmfdmndchoplaa
open Go Go.RowKit
attribute [local irreducible] wpList wpAnyH Code.wp dOp

theorem has_at {m N : Nat} {x : Int} (hW : ∀ i, m.testBit i = true → i < N) (h : hasB m x = true) : ∃ n : Nat, x = (n : Int) ∧ n < N := by
  unfold hasB at h
  simp only [Bool.and_eq_true, decide_eq_true_eq] at h
  exact ⟨x.toNat, by omega, hW _ h.2⟩
theorem has_bnd {m N : Nat} (hW : ∀ i, m.testBit i = true → i < N) : ∀ x, hasB m x = true → 0 ≤ x ∧ x < (N : Int) := fun x h => by
  obtain ⟨n, rfl, hn⟩ := has_at hW h
  omega
theorem last_snoc {wk : List Int} {q n : Nat} (hq : q = wk.length) (h0 : 0 < q) (h : wk[q - 1]? = some (n : Int)) : wk = wk.take (q - 1) ++ [(n : Int)] := by
  obtain ⟨h1, h2⟩ := List.getElem?_eq_some_iff.1 h
  have := List.take_succ_eq_append_getElem h1
  rw [h2, show q - 1 + 1 = wk.length by omega, List.take_length] at this
  exact this


set_option maxHeartbeats 400000 in
set_option maxRecDepth 20000 in
theorem impl_closure_1_c (E : Option Addr) (xs : List Int) (e N lo bl bx bw bm bo wi m q cap : Nat) (A : Option Addr) (s wk : List Int) (w : World) (hE : R1 (fun k => k < lo) w E (ints xs)) (hx : xs.length ≤ 1048576) (hwk : wk.length ≤ 1048576) (Bw : Blk w bw 82 [.int .u64 (wi : Int)].toArray) (Bm : Blk w bm 82 [.int .u64 (m : Int)].toArray) (Bo : Blk w bo 22 [.slice A q cap].toArray) (O : OW (fun i => i = bl ∨ bx < i) w 3 1 A q cap (ints wk)) (hq : q = wk.length) (hs : BitsOf m s) (hwi : wi < 2 ^ 64) (hW : ∀ i, wi.testBit i = true → i < N) (hN : N ≤ 64) (hb : Bnd N s) (h9 : lo ≤ bl ∧ lo ≤ bm ∧ lo ≤ bo ∧ bl ≤ bx ∧ bm ≤ bx ∧ bo ≤ bx ∧ bm ≠ bl ∧ bo ≠ bl ∧ bm ≠ bo ∧ bx < w.heap.size ∧ bw ≤ bx ∧ bw ≠ bm ∧ bw ≠ bo ∧ bw ≠ bl) :
    Calls Try.prog 103 #[.slice E xs.length e, .pointer (some ⟨bw, 0, none⟩), .pointer (some ⟨bm, 0, none⟩), .pointer (some ⟨bo, 0, none⟩)] w (Ret fun _v w' => ∃ m q cap A, q = (wk ++ (meet (hasB wi) s xs).drop s.length).length ∧ BitsOf m (meet (hasB wi) s xs) ∧ Blk w' bm 82 [.int .u64 (m : Int)].toArray ∧ Blk w' bo 22 [.slice A q cap].toArray ∧ OW (fun i => i = bl ∨ bx < i) w' 3 1 A q cap (ints (wk ++ (meet (hasB wi) s xs).drop s.length)) ∧ Mod (fun i => i = bm ∨ i = bo ∨ i = bl ∨ bx < i) w w') := by
 obtain ⟨p1, p2, p3, p4, p5, p6, p7, p8, p9, p10, p11, p12, p13, p14⟩ := h9
 have hbo := has_bnd hW
 refine enter Try.func103 rfl Try.ntmps103 (L := [_,_,_,_,_,_,_,_,_,_,_,_,_,_,_,_,_,_,_,_,_,_,_,_,_,_,_,_,_]) rfl ?_
 have G := Mod.refl (fun i => i = bm ∨ i = bo ∨ i = bl ∨ bx < i) w
 refine wp_seq_k fun K1 hK1 => ?_
 refine Sb 29 rfl ?_  -- 0
 refine S_val (Y_move rfl) ?_
 refine S_val (Y_len Try.underlying22 rfl) ?_
 refine S_val (Y_move rfl) ?_
 refine S_nl rfl rfl ?_
 refine th_n (hK1 _ _ ?_)
 clear hK1 K1
 refine wp_block ?_
 go_loopw [9] (fun u9 wr => (∃ (k m q cap : Nat) (A : Option Addr) (s1 : List Int), u9 = .int .i64 k ∧ k ≤ xs.length ∧ q = (wk ++ s1.drop s.length).length ∧ s1 = meet (hasB wi) s (xs.take k) ∧ BitsOf m s1 ∧ Blk wr bm 82 [.int .u64 (m : Int)].toArray ∧ Blk wr bo 22 [.slice A q cap].toArray ∧ OW (fun i => i = bl ∨ bx < i) wr 3 1 A q cap (ints (wk ++ s1.drop s.length))) ∧ Mod (fun i => i = bm ∨ i = bo ∨ i = bl ∨ bx < i) w wr) (fun u9 wr => xs.length - (intOf u9).toNat)  -- L1
 case atStart =>
  refine ⟨?_, Mod.refl _ _⟩
  exact ⟨0, m, q, cap, A, s, rfl, by omega, by simpa using hq, rfl, hs, Bm, Bo, by simpa using O⟩
 case round =>
  obtain ⟨w1, rfl⟩ : ∃ x : World, x = wr := ⟨_, rfl⟩
  obtain ⟨hrel, g1⟩ := hrel
  clear Bm
  clear Bo
  clear O
  replace G := Mod.trans' G g1 (fun _ h _ => h) (fun i h _ => by first | exact h | omega | (dsimp only at h ⊢; omega))
  replace hE := hE.md g1
  replace Bw := Bw.md g1
  have zg1 := g1.size
  obtain ⟨k, m1, q1, cap1, A1, s1, rfl, hk, hq1, hs1, ht1, Bm, Bo, O⟩ := hrel
  have hsl : s1.length ≤ N := by rw [hs1]; exact (hb.meetO hbo).len
  have hsl0 : s.length ≤ s1.length := by rw [hs1]; exact meet_len _ _ _
  have hqb : q1 ≤ wk.length + 64 := by rw [hq1, List.length_append, List.length_drop]; omega
  have hm1 := ht1.1
  have GL1 := g1
  refine wp_seq_k fun K2 hK2 => ?_
  refine Sb 29 rfl ?_  -- 1
  refine S_val (Y_lss rfl rfl) ?_
  refine S_nl rfl rfl ?_
  refine th_n (hK2 _ _ ?_)
  clear hK2 K2
  refine wp_seq_k fun K3 hK3 => ?_
  refine S_if rfl (fun hb1 => ?_) (fun hb1 => ?_)  -- c1
  · -- c1T
   replace hb1 := nb_tt hb1
   have hk1 : k < xs.length := by omega
   obtain ⟨g1, o1, rfl, hp1, hc1⟩ := hE.int hk1
   refine wp_skip ?_
   refine th_n (hK3 _ _ ?_)
   clear hK3 K3
   refine wp_seq_k fun K4 hK4 => ?_
   refine wp_block ?_
   refine wp_seq_k fun K5 hK5 => ?_
   refine Sb 29 rfl ?_  -- 2
   refine S_val (Y_index Try.underlying22 sz3 rfl rfl (by first | assumption | omega)) ?_
   refine S_val (Y_load Try.underlying3 rfl rfl (by first | assumption | exact Bw.at (by rfl) | exact Bm.at (by rfl) | exact Bo.at (by rfl))) ?_  -- l1
   refine S_val (Y_assign rfl) ?_
   refine S_nl rfl rfl ?_
   refine th_n (hK5 _ _ ?_)
   clear hK5 K5
   refine wp_seq_k fun K6 hK6 => ?_
   refine Sb 29 rfl ?_  -- 3
   refine S_val (Y_load Try.underlying82 rfl rfl (Bw.at (by rfl))) ?_  -- l2
   refine S_val (Y_move rfl) ?_
   refine S_call rfl en61 (impl_cellSet_has_c _ _ _ (by assumption)) ?_  -- k1 (impl.cellSet).has
   rintro v w' ⟨rfl, rfl⟩
   refine S_val (Y_move rfl) ?_
   refine S_g 16 rfl (fun hb2 => ?_) (fun hb2 => ?_)  -- g1
   · -- g1T
    first | with_reducible (replace hb2 := nb_nt hb2) | with_reducible (replace hb2 := nb_tt hb2) | with_reducible (replace hb2 := nb_bt hb2) | skip
    obtain ⟨n, hn, hnN⟩ := has_at hW hb2
    rw [hn]
    refine S_on rfl rfl ?_
    refine S_val (Y_load Try.underlying82 rfl rfl (Bm.at (by rfl))) ?_  -- l3
    refine S_on rfl rfl ?_
    refine S_val (Y_move rfl) ?_
    refine S_on rfl rfl ?_
    refine S_call rfl en61 (impl_cellSet_has_c _ _ _ (by assumption)) ?_  -- k2 (impl.cellSet).has
    rintro v w' ⟨rfl, rfl⟩
    refine S_on rfl rfl ?_
    refine S_val (Y_not rfl) ?_
    refine S_val (Y_pickT rfl rfl) ?_
    refine S_nl rfl rfl ?_
    refine th_n (hK6 _ _ ?_)
    clear hK6 K6
    refine S_if rfl (fun hb3 => ?_) (fun hb3 => ?_)  -- c2
    · -- c2T
     first | with_reducible (replace hb3 := nb_nt hb3) | with_reducible (replace hb3 := nb_tt hb3) | with_reducible (replace hb3 := nb_bt hb3) | skip
     rw [hasB_nat, ht1.2] at hb3
     refine wp_seq_k fun K7 hK7 => ?_
     refine Sb 29 rfl ?_  -- 4
     refine S_val (Y_move rfl) ?_
     refine S_call rfl en62 (impl_cellSet_add_c _ _ _ _ (by assumption) (by assumption) (by omega)) ?_  -- k3 (*impl.cellSet).add
     rintro v4 w4 ⟨X4, m4⟩
     replace Bm := X4
     clear X4
     replace G := Mod.trans' G m4 (fun _ h _ => h) (fun i h _ => by first | exact h | omega | (dsimp only at h ⊢; omega))
     replace GL1 := GL1.trn m4
     replace hE := hE.md m4
     replace O := O.md m4
     replace Bw := Bw.md m4
     replace Bo := Bo.md m4
     have zm4 := m4.size
     refine S_nl rfl rfl ?_
     refine th_n (hK7 _ _ ?_)
     clear hK7 K7
     refine Sb 29 rfl ?_  -- 5
     refine S_val (Y_load Try.underlying22 rfl rfl (Bo.at (by rfl))) ?_  -- l4
     refine S_val (Y_move rfl) ?_
     refine S_bs1 (cs := [_]) Try.underlying22 zr3 sz3 rfl rfl rfl ?_
     intro b5 w5 fb5 g5 B5
     have lb5 := B5.lt
     replace hE := hE.grow g5
     replace O := O.grow g5
     replace G := G.grow g5
     replace GL1 := GL1.grow g5
     replace Bw := Bw.grow g5
     replace Bm := Bm.grow g5
     replace Bo := Bo.grow g5
     have zg5 := g5.size
     refine S_app Try.underlying22 zr3 sz3 by3 rfl rfl O rfl (Src.blk B5) (by simp [Value.oneCell']) (by omega) (Pr' := fun i => i = bl ∨ bx < i) (fun i hi => hi) (by omega) ?_
     intro A6 cap6 w6 X6 m6
     replace O := X6
     rw [ints_app] at O
     clear X6
     replace G := Mod.trans' G m6 (fun _ h _ => h) (fun i h _ => by first | exact h | omega | (dsimp only at h ⊢; omega))
     replace GL1 := GL1.trn m6
     replace hE := hE.md m6
     replace Bw := Bw.md m6
     replace Bm := Bm.md m6
     replace Bo := Bo.md m6
     have zm6 := m6.size
     refine S_stM (pre := []) (old := [_]) (post := []) (vs := [_]) sz22 rfl rfl rfl (by first | rfl | assumption) Bo rfl rfl ?_
     intro w7 m7 X7
     replace Bo := Blk.eq (ys := [_]) X7 rfl
     clear X7
     replace G := Mod.trans' G m7 (fun _ h _ => h) (fun i h _ => by first | exact h | omega | (dsimp only at h ⊢; omega))
     replace GL1 := GL1.trn m7
     replace hE := hE.md m7
     replace O := O.md m7
     replace Bw := Bw.md m7
     replace Bm := Bm.md m7
     have zm7 := m7.size
     refine S_nl rfl rfl ?_
     refine ib_n ?_
     refine th_n (hK4 _ _ ?_)
     clear hK4 K4
     refine Sb 29 rfl ?_  -- 6
     refine S_val (Y_inc rfl rfl (by omega)) ?_
     refine S_val (Y_move rfl) ?_
     refine S_nl rfl rfl ?_
     refine th_n ?_
     go_roundw  -- e1 of L1
     case rel =>
      refine ⟨?_, GL1⟩
      refine ⟨k + 1, _, _, _, _, s1 ++ [(n : Int)], rfl, by omega, ?_, by rw [meet_succ hk1, ← hs1, hn, meet1_new (by rw [← hn]; exact hb2) (of_decide_eq_false hb3)], ht1.add (by omega), Bm, Bo, ?_⟩
      · rw [drop_snoc hsl0, ← List.append_assoc, List.length_append, ← hq1]
        rfl
      · rw [drop_snoc hsl0, ← List.append_assoc]
        exact O
     case measure =>
      exact dec_nat (by omega)
    · -- c2F
     first | with_reducible (replace hb3 := nb_nf hb3) | with_reducible (replace hb3 := nb_tf hb3) | with_reducible (replace hb3 := nb_bf hb3) | skip
     rw [hasB_nat, ht1.2] at hb3
     refine wp_skip ?_
     refine ib_n ?_
     refine th_n (hK4 _ _ ?_)
     clear hK4 K4
     refine Sb 29 rfl ?_  -- 6
     refine S_val (Y_inc rfl rfl (by omega)) ?_
     refine S_val (Y_move rfl) ?_
     refine S_nl rfl rfl ?_
     refine th_n ?_
     go_roundw  -- e2 of L1
     case rel =>
      refine ⟨?_, GL1⟩
      exact ⟨k + 1, _, _, _, _, s1, rfl, by omega, hq1, by rw [meet_succ hk1, ← hs1, hn, meet1_old (of_decide_eq_true hb3)], ht1, Bm, Bo, O⟩
     case measure =>
      exact dec_nat (by omega)
   · -- g1F
    first | with_reducible (replace hb2 := nb_nf hb2) | with_reducible (replace hb2 := nb_tf hb2) | with_reducible (replace hb2 := nb_bf hb2) | skip
    refine S_off rfl rfl ?_
    refine S_off rfl rfl ?_
    refine S_off rfl rfl ?_
    refine S_off rfl rfl ?_
    refine S_val (Y_pickF rfl rfl) ?_
    refine S_nl rfl rfl ?_
    refine th_n (hK6 _ _ ?_)
    clear hK6 K6
    refine S_ifF rfl ?_
    refine wp_skip ?_
    refine ib_n ?_
    refine th_n (hK4 _ _ ?_)
    clear hK4 K4
    refine Sb 29 rfl ?_  -- 6
    refine S_val (Y_inc rfl rfl (by omega)) ?_
    refine S_val (Y_move rfl) ?_
    refine S_nl rfl rfl ?_
    refine th_n ?_
    go_roundw  -- e3 of L1
    case rel =>
     refine ⟨?_, GL1⟩
     exact ⟨k + 1, _, _, _, _, s1, rfl, by omega, hq1, by rw [meet_succ hk1, ← hs1, meet1_not hb2], ht1, Bm, Bo, O⟩
    case measure =>
     exact dec_nat (by omega)
  · -- c1F
   replace hb1 := nb_tf hb1
   refine wp_exit ?_
   refine th_x ?_
   clear GL1
   refine th_x ?_
   refine ib_e ?_
   clear hK3 K3
   refine ret_n0 rfl ?_  -- r1
   rw [meet_all (by omega)] at hs1
   subst hs1
   exact ⟨_, _, _, _, hq1, ht1, Bm, Bo, O, G⟩

set_option maxHeartbeats 400000 in
set_option maxRecDepth 20000 in
theorem impl_closure_c (Pr PF : Nat → Prop) (A B E : Option Addr) (h : LH) (fr : List Int) (c d e wi : Nat) (w : World) (hA : RC Pr w A h.cells) (hF : R1 PF w E (ints fr)) (hz : hsize h ≤ 1048576) (hfz : fr.length ≤ 1048576) (hwi : wi < 2 ^ 64) (hW : ∀ i, wi.testBit i = true → i < h.cells.length) (hN : h.cells.length ≤ 64) :
    Calls Try.prog 98 #[.agg #[.slice A h.cells.length c, .slice B h.roots.length d], .slice E fr.length e, .int .u64 (wi : Int)] w (Ret fun v w' => ∃ m : Nat, v = .int .u64 (m : Int) ∧ m < 2 ^ 64 ∧ (∀ n, m.testBit n = true ↔ Rch h.cells fr (hasB wi) n) ∧ Grow w w') := by
 have hz1 := hsize_cells h
 have hz3 : ∀ k (hk : k < h.cells.length), h.cells[k].refs.length ≤ hsize h := fun k hk => hsize_refs h hk
 have hAl := hA.below
 have hFl := hF.below
 have hbo := has_bnd hW
 refine enter Try.func98 rfl Try.ntmps98 (L := [_,_,_,_,_,_,_,_,_,_,_,_,_,_,_,_,_,_,_,_,_,_,_,_,_,_,_,_,_,_,_,_,_,_,_,_,_,_,_]) rfl ?_
 have G := Mod.refl No w
 have hAl0 := hAl
 have hFl0 := hFl
 refine wp_seq_k fun K1 hK1 => ?_
 refine Sb 39 rfl ?_  -- 0
 refine S_box (cs := [_, _]) rfl rfl ?_
 intro b1 w1 fb1 g1 B1
 have lb1 := B1.lt
 replace hAl := hAl.grow g1
 replace hFl := hFl.grow g1
 replace G := G.grow g1
 have zg1 := g1.size
 refine S_box (cs := [_]) rfl rfl ?_
 intro b2 w2 fb2 g2 B2
 have lb2 := B2.lt
 replace hAl := hAl.grow g2
 replace hFl := hFl.grow g2
 replace G := G.grow g2
 replace B1 := B1.grow g2
 have zg2 := g2.size
 refine S_val (Y_assign rfl) ?_
 refine S_nl rfl rfl ?_
 refine th_n (hK1 _ _ ?_)
 clear hK1 K1
 refine wp_seq_k fun K2 hK2 => ?_
 refine Sb 39 rfl ?_  -- 1
 refine S_alloc (cs := [_]) zr82 rfl ?_
 intro b3 w3 fb3 g3 B3
 have lb3 := B3.lt
 replace hAl := hAl.grow g3
 replace hFl := hFl.grow g3
 replace G := G.grow g3
 replace B1 := B1.grow g3
 replace B2 := B2.grow g3
 have zg3 := g3.size
 refine S_nl rfl rfl ?_
 refine th_n (hK2 _ _ ?_)
 clear hK2 K2
 refine wp_seq_k fun K3 hK3 => ?_
 refine Sb 39 rfl ?_  -- 2
 refine S_bs0 Try.underlying22 sz3 ?_
 intro b4 w4 fb4 g4 B4
 have lb4 := B4.lt
 replace hAl := hAl.grow g4
 replace hFl := hFl.grow g4
 replace G := G.grow g4
 replace B1 := B1.grow g4
 replace B2 := B2.grow g4
 replace B3 := B3.grow g4
 have zg4 := g4.size
 refine S_alloc (cs := [_]) zr22 rfl ?_
 intro b5 w5 fb5 g5 B5
 have lb5 := B5.lt
 replace hAl := hAl.grow g5
 replace hFl := hFl.grow g5
 replace G := G.grow g5
 replace B1 := B1.grow g5
 replace B2 := B2.grow g5
 replace B3 := B3.grow g5
 replace B4 := B4.grow g5
 have zg5 := g5.size
 have O4 : OW (fun i => i = b4 ∨ b5 < i) w5 3 1 (some ⟨b4, 0, none⟩) 0 0 (ints []) := OW.of_blk B4 rfl (by decide) (.inl rfl)
 refine S_stM (pre := []) (old := [_]) (post := []) (vs := [_]) sz22 rfl rfl rfl (by first | rfl | assumption) B5 rfl rfl ?_
 intro w6 m6 X6
 replace B5 := Blk.eq (ys := [_]) X6 rfl
 clear X6
 replace G := G.abv m6
 replace hAl := hAl0.grow G
 replace hFl := hFl0.grow G
 replace O4 := O4.md m6
 replace B1 := B1.md m6
 replace B2 := B2.md m6
 replace B3 := B3.md m6
 have zm6 := m6.size
 refine S_nl rfl rfl ?_
 refine th_n (hK3 _ _ ?_)
 clear hK3 K3
 refine wp_seq_k fun K4 hK4 => ?_
 refine Sb 39 rfl ?_  -- 3
 refine S_val (Y_makeFunc rfl rfl) ?_
 refine S_val (Y_assign rfl) ?_
 refine S_nl rfl rfl ?_
 refine th_n (hK4 _ _ ?_)
 clear hK4 K4
 refine wp_seq_k fun K5 hK5 => ?_
 refine Sb 39 rfl ?_  -- 4
 refine S_val (Y_move rfl) ?_
 refine S_val (Y_move rfl) ?_
 refine S_callc rfl rfl en103 (impl_closure_1_c _ _ _ h.cells.length w.heap.size b4 b5 b2 b3 b5 wi _ _ _ _ [] [] _ hFl (by omega) (by simp) B2 B3 B5 O4 rfl BitsOf.zero hwi hW (by omega) (Bnd.nil _) ⟨by omega, by omega, by omega, by omega, by omega, by omega, by omega, by omega, by omega, by omega, by omega, by omega, by omega, by omega⟩) ?_  -- k1
 rintro v7 w7 ⟨m1, q1, cap1, A1, hq1, ht1, X7, Y7, Z7, m7⟩
 replace B3 := X7
 replace B5 := Y7
 replace O4 := Z7
 clear X7 Y7 Z7
 replace G := G.abv m7
 replace hAl := hAl0.grow G
 replace hFl := hFl0.grow G
 replace B1 := B1.md m7
 replace B2 := B2.md m7
 have zm7 := m7.size
 rw [List.nil_append, List.length_nil, List.drop_zero] at hq1 O4
 refine S_nl rfl rfl ?_
 refine th_n (hK5 _ _ ?_)
 clear hK5 K5
 refine wp_seq_k fun K6 hK6 => ?_
 refine wp_block ?_
 go_loopw [10] (fun u10 wr => (∃ (m q cap : Nat) (A1 : Option Addr) (s wk : List Int), q = wk.length ∧ wk.length ≤ s.length ∧ BitsOf m s ∧ Dfs h.cells fr (hasB wi) s wk ∧ Blk wr b3 82 [.int .u64 (m : Int)].toArray ∧ Blk wr b5 22 [.slice A1 q cap].toArray ∧ OW (fun i => i = b4 ∨ b5 < i) wr 3 1 A1 q cap (ints wk)) ∧ Mod (fun i => i = b3 ∨ i = b5 ∨ i = b4 ∨ b5 < i) w7 wr) (fun u10 wr => 2 * (h.cells.length - popc h.cells.length (natAt wr b3)) + lenAt wr b5)  -- L1
 case atStart =>
  refine ⟨?_, Mod.refl _ _⟩
  exact ⟨m1, q1, cap1, A1, _, _, hq1, Nat.le_refl _, ht1, Dfs.start _ _ _, B3, B5, O4⟩
 case round =>
  obtain ⟨w8, rfl⟩ : ∃ x : World, x = wr := ⟨_, rfl⟩
  obtain ⟨hrel, g8⟩ := hrel
  clear B3
  clear B5
  clear O4
  replace G := G.abv g8
  replace hAl := hAl0.grow G
  replace hFl := hFl0.grow G
  replace B1 := B1.md g8
  replace B2 := B2.md g8
  have zg8 := g8.size
  obtain ⟨m2, q2, cap2, A2, s, wk, hq2, hws, ht2, ho2, B3, B5, O4⟩ := hrel
  have hbd : Bnd h.cells.length s := ⟨ho2.nodup, fun x hx => hbo x (ho2.okay x hx)⟩
  have hsl := hbd.len
  have hM := natAt_blk B3
  have hL := lenAt_blk B5
  have hP := popc_eq ht2.2 hbd
  have GL8 := g8
  refine wp_seq_k fun K7 hK7 => ?_
  refine wp_seq_k fun K8 hK8 => ?_
  refine Sb 39 rfl ?_  -- 5
  refine S_val (Y_load Try.underlying22 rfl rfl (B5.at (by rfl))) ?_  -- l1
  refine S_val (Y_len Try.underlying22 rfl) ?_
  refine S_val (Y_gtr rfl rfl) ?_
  refine S_nl rfl rfl ?_
  refine th_n (hK8 _ _ ?_)
  clear hK8 K8
  refine S_if rfl (fun hb1 => ?_) (fun hb1 => ?_)  -- c1
  · -- c1T
   replace hb1 := nb_tt hb1
   have hcap := O4.cap
   have h0 : 0 < q2 := by omega
   have hkk : q2 - 1 < wk.length := by omega
   obtain ⟨n, hn, hnN⟩ := has_at hW (ho2.okay _ (ho2.sub _ (List.getElem_mem hkk)))
   obtain ⟨g2, o2, rfl, hp2, hc2⟩ := O4.r1.int hkk
   rw [hn] at hc2
   have hw := last_snoc hq2 h0 (by rw [List.getElem?_eq_getElem hkk, hn])
   obtain ⟨g3, o3, E3, d3, rfl, hp3, cc30, hE30⟩ := hAl0.cell hnN
   have hz4 := hz3 n hnN
   have cc3 := cc30.grow G
   have hE3 := hE30.grow G
   have P4 : OW (fun i => i = b4 ∨ b5 < i) w8 3 1 (some ⟨g2, o2, none⟩) (q2 - 1) cap2 (ints (wk.take (q2 - 1))) := by simpa [ints, List.map_take] using O4.pop (m := q2 - 1) (by omega)
   refine wp_skip ?_
   refine th_n (hK7 _ _ ?_)
   clear hK7 K7
   refine wp_block ?_
   refine wp_seq_k fun K9 hK9 => ?_
   refine Sb 39 rfl ?_  -- 6
   refine S_val (Y_load Try.underlying22 rfl rfl (B5.at (by rfl))) ?_  -- l2
   refine S_val (Y_load Try.underlying22 rfl rfl (B5.at (by rfl))) ?_  -- l3
   refine S_val (Y_len Try.underlying22 rfl) ?_
   refine S_val (Y_sub (c := ((q2 - 1 : Nat) : Int)) rfl rfl (by omega) (by omega) (by omega)) ?_
   refine S_val (Y_index Try.underlying22 sz3 rfl rfl (by first | assumption | omega)) ?_
   refine S_val (Y_load Try.underlying3 rfl rfl (by first | assumption | exact cc3.at (by rfl) | exact B1.at (by rfl) | exact B2.at (by rfl) | exact B3.at (by rfl) | exact B5.at (by rfl))) ?_  -- l4
   refine S_val (Y_assign rfl) ?_
   refine S_nl rfl rfl ?_
   refine th_n (hK9 _ _ ?_)
   clear hK9 K9
   refine wp_seq_k fun K10 hK10 => ?_
   refine Sb 39 rfl ?_  -- 7
   refine S_val (Y_load Try.underlying22 rfl rfl (B5.at (by rfl))) ?_  -- l5
   refine S_val (Y_load Try.underlying22 rfl rfl (B5.at (by rfl))) ?_  -- l6
   refine S_val (Y_len Try.underlying22 rfl) ?_
   refine S_val (Y_sub (c := ((q2 - 1 : Nat) : Int)) rfl rfl (by omega) (by omega) (by omega)) ?_
   refine S_val (Y_sliceH Try.underlying22 sz3 rfl rfl (by omega)) ?_
   refine S_stM (pre := []) (old := [_]) (post := []) (vs := [_]) sz22 rfl rfl rfl (by first | rfl | assumption) B5 rfl rfl ?_
   intro w9 m9 X9
   replace B5 := Blk.eq (ys := [_]) X9 rfl
   clear X9
   replace G := G.abv m9
   replace GL8 := GL8.trn m9
   replace hAl := hAl0.grow G
   replace hFl := hFl0.grow G
   replace cc3 := cc30.grow G
   replace hE3 := hE30.grow G
   replace P4 := P4.md m9
   replace B1 := B1.md m9
   replace B2 := B2.md m9
   replace B3 := B3.md m9
   have zm9 := m9.size
   refine S_nl rfl rfl ?_
   refine th_n (hK10 _ _ ?_)
   clear hK10 K10
   refine Sb 39 rfl ?_  -- 8
   refine S_val (Y_move rfl) ?_
   refine S_val (Y_field Try.underlying25 rfl fz25_0 (by decide) rfl) ?_
   refine S_val (Y_load Try.underlying23 rfl rfl (B1.at (by rfl))) ?_  -- l7
   refine S_val (Y_move rfl) ?_
   refine S_val (Y_index Try.underlying23 sz70 rfl rfl (by first | assumption | omega)) ?_
   refine S_val (Y_field Try.underlying70 rfl fz70_2 (by decide) rfl) ?_
   refine S_val (Y_load Try.underlying22 rfl rfl (by first | assumption | exact cc3.at (by rfl) | exact B1.at (by rfl) | exact B2.at (by rfl) | exact B3.at (by rfl) | exact B5.at (by rfl))) ?_  -- l8
   refine S_callc rfl rfl en103 (impl_closure_1_c _ _ _ h.cells.length w.heap.size b4 b5 b2 b3 b5 wi _ _ _ _ s (wk.take (q2 - 1)) _ hE3 (by omega) (by rw [List.length_take]; omega) B2 B3 B5 P4 (by rw [List.length_take]; omega) ht2 hwi hW (by omega) hbd ⟨by omega, by omega, by omega, by omega, by omega, by omega, by omega, by omega, by omega, by omega, by omega, by omega, by omega, by omega⟩) ?_  -- k2
   rintro v10 w10 ⟨m3, q3, cap3, A3, hq3, ht3, X10, Y10, Z10, m10⟩
   replace B3 := X10
   replace B5 := Y10
   have O4 := Z10
   clear X10 Y10 Z10
   replace G := G.abv m10
   replace GL8 := GL8.trn m10
   replace hAl := hAl0.grow G
   replace hFl := hFl0.grow G
   replace cc3 := cc30.grow G
   replace hE3 := hE30.grow G
   replace B1 := B1.md m10
   replace B2 := B2.md m10
   have zm10 := m10.size
   have hbd3 : Bnd h.cells.length (meet (hasB wi) s h.cells[n].refs) := hbd.meetO hbo
   have hml := meet_len (hasB wi) s h.cells[n].refs
   have hbl3 := hbd3.len
   refine S_nl rfl rfl ?_
   refine ib_n ?_
   refine th_n ?_
   go_roundw  -- e1 of L1
   case rel =>
    refine ⟨?_, GL8⟩
    exact ⟨_, _, _, _, _, _, hq3, by rw [List.length_append, List.length_drop, List.length_take]; omega, ht3, by rw [← refsOf_at hnN]; rw [hw] at ho2; exact ho2.next, B3, B5, O4⟩
   case measure =>
    rw [hM, hL, natAt_blk B3, lenAt_blk B5, hP, popc_eq ht3.2 hbd3, hq3, List.length_append, List.length_drop, List.length_take]
    omega
  · -- c1F
   replace hb1 := nb_tf hb1
   refine wp_exit ?_
   refine th_x ?_
   clear GL8
   refine th_x ?_
   refine ib_e ?_
   refine th_n (hK6 _ _ ?_)
   clear hK7 K7 hK6 K6
   refine wp_seq_k fun K11 hK11 => ?_
   refine Sb 39 rfl ?_  -- 9
   refine S_val (Y_load Try.underlying82 rfl rfl (B3.at (by rfl))) ?_  -- l9
   refine S_val (Y_assign rfl) ?_
   refine S_nl rfl rfl ?_
   refine th_n (hK11 _ _ ?_)
   clear hK11 K11
   refine wp_ret ?_
   refine ret_r1 rfl rfl ?_  -- r1
   have hwk : wk = [] := List.eq_nil_of_length_eq_zero (by omega)
   subst hwk
   exact ⟨_, rfl, ht2.1, fun i => by rw [ht2.2, decide_eq_true_eq]; exact ho2.all, G⟩

end Go.Proofs.Ytjmfdmndchoplaa
