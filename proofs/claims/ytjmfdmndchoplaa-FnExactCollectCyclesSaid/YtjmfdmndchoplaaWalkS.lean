/-
  Walks: new numbers of cells.
  Conditions: those that each theorem states.
-/
import Derived.Test.YtjmfdmndchoplaaTy
import Derived.Test.YtjmfdmndchoplaaWalkG
import Derived.Test.YtjmfdmndchoplaaName
namespace Go.Proofs.Ytjmfdmndchoplaa
open Go Go.RowKit
attribute [local irreducible] wpList wpAnyH Code.wp dOp

set_option maxHeartbeats 400000 in
set_option maxRecDepth 20000 in
theorem impl_numbersIn_c (Pr : Nat → Prop) (E : Option Addr) (o : List Int) (e N : Nat) (w : World) (hE : R1 Pr w E (ints o)) (hb : Bnd N o) (hN : N ≤ 1048576) :
    Calls Try.prog 89 #[.slice E o.length e, .int .i64 (N : Int)] w (Ret fun v w' => ∃ b, v = .slice (some ⟨b, 0, none⟩) N N ∧ w.heap.size ≤ b ∧ Blk w' b 3 (ints (namesL N o)).toArray ∧ Grow w w') := by
 have hlen := hb.len
 refine enter Try.func89 rfl Try.ntmps89 (L := [_,_,_,_,_,_,_,_,_,_,_,_,_,_,_,_,_,_,_,_,_,_,_,_,_,_,_,_,_,_,_,_,_]) rfl ?_
 have G := Mod.refl No w
 have hE0 := hE
 refine wp_seq_k fun K1 hK1 => ?_
 refine Sb 33 rfl ?_  -- 0
 refine S_val (Y_assign rfl) ?_
 refine S_nl rfl rfl ?_
 refine th_n (hK1 _ _ ?_)
 clear hK1 K1
 refine wp_seq_k fun K2 hK2 => ?_
 refine Sb 33 rfl ?_  -- 1
 refine S_val (Y_move rfl) ?_
 refine S_make (z := [.int .i64 0]) Try.underlying22 zr3 sz3 by3 rfl rfl (by omega) (by omega) (by omega) ?_
 intro b1 w1 fb1 g1 B1
 have lb1 := B1.lt
 replace hE := hE.grow g1
 replace G := G.grow g1
 have zg1 := g1.size
 refine S_val (Y_assign rfl) ?_
 refine S_nl rfl rfl ?_
 refine th_n (hK2 _ _ ?_)
 clear hK2 K2
 refine wp_seq_k fun K3 hK3 => ?_
 refine wp_seq_k fun K4 hK4 => ?_
 refine Sb 33 rfl ?_  -- 2
 refine S_val (Y_move rfl) ?_
 refine S_val (Y_len Try.underlying22 rfl) ?_
 refine S_val (Y_move rfl) ?_
 refine S_nl rfl rfl ?_
 refine th_n (hK4 _ _ ?_)
 clear hK4 K4
 refine wp_block ?_
 go_loopw [13] (fun u13 wr => (∃ k : Nat, u13 = .int .i64 k ∧ k ≤ N ∧ Blk wr b1 3 (List.replicate k (Value.int .i64 (-1)) ++ zeros [.int .i64 0] (N - k)).toArray) ∧ Mod (fun i => i = b1) w1 wr) (fun u13 wr => N - (intOf u13).toNat)  -- L1
 case atStart =>
  refine ⟨?_, Mod.refl _ _⟩
  exact ⟨0, rfl, by omega, by simpa using B1⟩
 case round =>
  obtain ⟨w2, rfl⟩ : ∃ x : World, x = wr := ⟨_, rfl⟩
  obtain ⟨hrel, g2⟩ := hrel
  clear B1
  replace G := G.abv g2
  replace hE := hE0.grow G
  have zg2 := g2.size
  obtain ⟨k, rfl, hk, B1⟩ := hrel
  have GL2 := g2
  refine wp_seq_k fun K5 hK5 => ?_
  refine Sb 33 rfl ?_  -- 3
  refine S_val (Y_lss rfl rfl) ?_
  refine S_nl rfl rfl ?_
  refine th_n (hK5 _ _ ?_)
  clear hK5 K5
  refine wp_seq_k fun K6 hK6 => ?_
  refine S_if rfl (fun hb1 => ?_) (fun hb1 => ?_)  -- c1
  · -- c1T
   replace hb1 := nb_tt hb1
   have hk1 : k < N := by omega
   rw [zeros_pos (by omega)] at B1
   refine wp_skip ?_
   refine th_n (hK6 _ _ ?_)
   clear hK6 K6
   refine wp_seq_k fun K7 hK7 => ?_
   refine wp_block ?_
   refine wp_seq_k fun K8 hK8 => ?_
   refine Sb 33 rfl ?_  -- 4
   refine S_val (Y_move rfl) ?_
   refine S_val (Y_assign rfl) ?_
   refine S_nl rfl rfl ?_
   refine th_n (hK8 _ _ ?_)
   clear hK8 K8
   refine Sb 33 rfl ?_  -- 5
   refine S_val (Y_move rfl) ?_
   refine S_val (Y_move rfl) ?_
   refine S_val (Y_index Try.underlying22 sz3 rfl rfl (by first | assumption | omega)) ?_
   refine S_stM (pre := List.replicate k (Value.int .i64 (-1))) (old := [.int .i64 0]) (post := zeros [.int .i64 0] (N - k - 1)) (vs := [_]) sz3 rfl rfl rfl rfl (by rw [List.append_assoc]; exact B1) (by simp) rfl ?_
   intro w3 m3 X3
   replace B1 := Blk.eq X3 (fill_step hk1)
   clear X3
   replace G := G.abv m3
   replace GL2 := GL2.trn m3
   replace hE := hE0.grow G
   have zm3 := m3.size
   refine S_nl rfl rfl ?_
   refine ib_n ?_
   refine th_n (hK7 _ _ ?_)
   clear hK7 K7
   refine Sb 33 rfl ?_  -- 6
   refine S_val (Y_inc rfl rfl (by omega)) ?_
   refine S_val (Y_move rfl) ?_
   refine S_nl rfl rfl ?_
   refine th_n ?_
   go_roundw  -- e1 of L1
   case rel =>
    refine ⟨?_, GL2⟩
    exact ⟨k + 1, rfl, by omega, B1⟩
   case measure =>
    exact dec_nat (by omega)
  · -- c1F
   replace hb1 := nb_tf hb1
   refine wp_exit ?_
   refine th_x ?_
   clear GL2
   refine th_x ?_
   refine ib_e ?_
   refine th_n (hK3 _ _ ?_)
   clear hK6 K6 hK3 K3
   refine wp_seq_k fun K9 hK9 => ?_
   refine wp_seq_k fun K10 hK10 => ?_
   refine Sb 33 rfl ?_  -- 7
   refine S_val (Y_move rfl) ?_
   refine S_val (Y_len Try.underlying22 rfl) ?_
   refine S_val (Y_move rfl) ?_
   refine S_nl rfl rfl ?_
   refine th_n (hK10 _ _ ?_)
   clear hK10 K10
   refine wp_block ?_
   have hkN : k = N := by omega
   rw [hkN, Nat.sub_self] at B1
   replace B1 := Blk.eq B1 (show _ = ints (namesL N []) by rw [namesL_nil, ints_rep]; simp [zeros])
   go_loopw [22] (fun u22 wr => (∃ k : Nat, u22 = .int .i64 k ∧ k ≤ o.length ∧ Blk wr b1 3 (ints (namesL N (o.take k))).toArray) ∧ Mod (fun i => i = b1) w2 wr) (fun u22 wr => o.length - (intOf u22).toNat)  -- L2
   case atStart =>
    refine ⟨?_, Mod.refl _ _⟩
    exact ⟨0, rfl, by omega, by simpa using B1⟩
   case round =>
    obtain ⟨w4, rfl⟩ : ∃ x : World, x = wr := ⟨_, rfl⟩
    obtain ⟨hrel, g4⟩ := hrel
    clear B1
    replace G := G.abv g4
    replace hE := hE0.grow G
    have zg4 := g4.size
    obtain ⟨k, rfl, hk, B1⟩ := hrel
    have GL4 := g4
    refine wp_seq_k fun K11 hK11 => ?_
    refine Sb 33 rfl ?_  -- 8
    refine S_val (Y_lss rfl rfl) ?_
    refine S_nl rfl rfl ?_
    refine th_n (hK11 _ _ ?_)
    clear hK11 K11
    refine wp_seq_k fun K12 hK12 => ?_
    refine S_if rfl (fun hb2 => ?_) (fun hb2 => ?_)  -- c2
    · -- c2T
     replace hb2 := nb_tt hb2
     have hk1 : k < o.length := by omega
     obtain ⟨n, hn, hnN, hng⟩ := bnd_at hb hk1
     obtain ⟨g2, o2, rfl, hp2, hc2⟩ := hE.int hk1
     rw [hn] at hc2
     have hnot := take_notMem hb hk1 hn
     have htk := List.take_succ_eq_append_getElem hk1
     rw [hn] at htk
     refine wp_skip ?_
     refine th_n (hK12 _ _ ?_)
     clear hK12 K12
     refine wp_seq_k fun K13 hK13 => ?_
     refine wp_block ?_
     refine wp_seq_k fun K14 hK14 => ?_
     refine Sb 33 rfl ?_  -- 9
     refine S_val (Y_move rfl) ?_
     refine S_val (Y_index Try.underlying22 sz3 rfl rfl (by first | assumption | omega)) ?_
     refine S_val (Y_load Try.underlying3 rfl rfl (by first | assumption | exact B1.at (by rfl))) ?_  -- l1
     refine S_val (Y_assign rfl) ?_
     refine S_val (Y_assign rfl) ?_
     refine S_nl rfl rfl ?_
     refine th_n (hK14 _ _ ?_)
     clear hK14 K14
     refine Sb 33 rfl ?_  -- 10
     refine S_val (Y_move rfl) ?_
     refine S_val (Y_move rfl) ?_
     refine S_val (Y_move rfl) ?_
     refine S_val (Y_index Try.underlying22 sz3 rfl rfl (by first | assumption | omega)) ?_
     refine S_stM (pre := (ints (namesL N (o.take k))).take n) (old := [.int .i64 (nameIn (o.take k) (n : Int))]) (post := (ints (namesL N (o.take k))).drop (n + 1)) (vs := [_]) sz3 rfl rfl rfl rfl (by rw [← namesL_split hnN]; exact B1) (by rw [List.length_take, ints_len, namesL_len]; omega) rfl ?_
     intro w5 m5 X5
     replace B1 := Blk.eq X5 (show _ = ints (namesL N (o.take k ++ [(n : Int)])) by have hns := namesL_set hnN hnot; rw [List.length_take, Nat.min_eq_left hk] at hns; exact hns)
     clear X5
     replace G := G.abv m5
     replace GL4 := GL4.trn m5
     replace hE := hE0.grow G
     have zm5 := m5.size
     refine S_nl rfl rfl ?_
     refine ib_n ?_
     refine th_n (hK13 _ _ ?_)
     clear hK13 K13
     refine Sb 33 rfl ?_  -- 11
     refine S_val (Y_inc rfl rfl (by omega)) ?_
     refine S_val (Y_move rfl) ?_
     refine S_nl rfl rfl ?_
     refine th_n ?_
     go_roundw  -- e2 of L2
     case rel =>
      refine ⟨?_, GL4⟩
      exact ⟨k + 1, rfl, by omega, by rw [htk]; exact B1⟩
     case measure =>
      exact dec_nat (by omega)
    · -- c2F
     replace hb2 := nb_tf hb2
     refine wp_exit ?_
     refine th_x ?_
     clear GL4
     refine th_x ?_
     refine ib_e ?_
     refine th_n (hK9 _ _ ?_)
     clear hK12 K12 hK9 K9
     refine wp_seq_k fun K15 hK15 => ?_
     refine Sb 33 rfl ?_  -- 12
     refine S_val (Y_move rfl) ?_
     refine S_val (Y_assign rfl) ?_
     refine S_nl rfl rfl ?_
     refine th_n (hK15 _ _ ?_)
     clear hK15 K15
     refine wp_ret ?_
     refine ret_r1 rfl rfl ?_  -- r1
     rw [List.take_of_length_le (by omega)] at B1
     exact ⟨b1, rfl, by omega, B1, G⟩

set_option maxHeartbeats 400000 in
set_option maxRecDepth 20000 in
theorem impl_renamed_c (Pr Pr2 : Nat → Prop) (E F : Option Addr) (xs o : List Int) (e f N : Nat) (w : World) (hE : R1 Pr w E (ints xs)) (hF : R1 Pr2 w F (ints (namesL N o))) (hx : xs.length ≤ 1048576) (hr : ∀ x ∈ xs, x = -1 ∨ (0 ≤ x ∧ x < (N : Int))) (ho : ∀ x ∈ o, 0 ≤ x) :
    Calls Try.prog 90 #[.slice E xs.length e, .slice F N f] w (Ret fun v w' => ∃ A q cap, v = .slice A q cap ∧ q = xs.length ∧ OW (fun i => w.heap.size ≤ i) w' 3 1 A q cap (ints (xs.map (nameIn o))) ∧ Grow w w') := by
 refine enter Try.func90 rfl Try.ntmps90 (L := [_,_,_,_,_,_,_,_,_,_,_,_,_,_,_,_,_,_,_,_,_,_,_,_,_,_,_]) rfl ?_
 have G := Mod.refl No w
 have hE0 := hE
 have hF0 := hF
 refine wp_seq_k fun K1 hK1 => ?_
 refine Sb 27 rfl ?_  -- 0
 refine S_val (Y_assign rfl) ?_
 refine S_nl rfl rfl ?_
 refine th_n (hK1 _ _ ?_)
 clear hK1 K1
 refine wp_seq_k fun K2 hK2 => ?_
 refine Sb 27 rfl ?_  -- 1
 refine S_bs0 Try.underlying22 sz3 ?_
 intro b1 w1 fb1 g1 B1
 have lb1 := B1.lt
 replace hE := hE.grow g1
 replace hF := hF.grow g1
 replace G := G.grow g1
 have zg1 := g1.size
 refine S_val (Y_assign rfl) ?_
 refine S_nl rfl rfl ?_
 refine th_n (hK2 _ _ ?_)
 clear hK2 K2
 refine wp_seq_k fun K3 hK3 => ?_
 refine wp_seq_k fun K4 hK4 => ?_
 refine Sb 27 rfl ?_  -- 2
 refine S_val (Y_move rfl) ?_
 refine S_val (Y_len Try.underlying22 rfl) ?_
 refine S_val (Y_move rfl) ?_
 refine S_nl rfl rfl ?_
 refine th_n (hK4 _ _ ?_)
 clear hK4 K4
 refine wp_block ?_
 have O1 : OW (fun i => w.heap.size ≤ i) w1 3 1 (some ⟨b1, 0, none⟩) 0 0 (ints []) := OW.of_blk B1 rfl (by decide) (by omega)
 go_loopw [5, 11] (fun u5 u11 wr => (∃ (k q cap : Nat) (A1 : Option Addr), u11 = .int .i64 k ∧ u5 = .slice A1 q cap ∧ k ≤ xs.length ∧ q = k ∧ OW (fun i => w.heap.size ≤ i) wr 3 1 A1 q cap (ints ((xs.take k).map (nameIn o)))) ∧ Mod (fun i => w.heap.size ≤ i) w1 wr) (fun u5 u11 wr => xs.length - (intOf u11).toNat)  -- L1
 case atStart =>
  refine ⟨?_, Mod.refl _ _⟩
  exact ⟨0, 0, 0, _, rfl, rfl, by omega, rfl, O1⟩
 case round =>
  obtain ⟨w2, rfl⟩ : ∃ x : World, x = wr := ⟨_, rfl⟩
  obtain ⟨hrel, g2⟩ := hrel
  clear O1
  replace G := G.abv g2
  replace hE := hE0.grow G
  replace hF := hF0.grow G
  have zg2 := g2.size
  obtain ⟨k, q1, cap1, A1, rfl, rfl, hk, hq1, O1⟩ := hrel
  have GL2 := g2
  refine wp_seq_k fun K5 hK5 => ?_
  refine Sb 27 rfl ?_  -- 3
  refine S_val (Y_lss rfl rfl) ?_
  refine S_nl rfl rfl ?_
  refine th_n (hK5 _ _ ?_)
  clear hK5 K5
  refine wp_seq_k fun K6 hK6 => ?_
  refine S_if rfl (fun hb1 => ?_) (fun hb1 => ?_)  -- c1
  · -- c1T
   replace hb1 := nb_tt hb1
   have hk1 : k < xs.length := by omega
   obtain ⟨g2, o2, rfl, hp2, hc2⟩ := hE.int hk1
   have htk := List.take_succ_eq_append_getElem hk1
   refine wp_skip ?_
   refine th_n (hK6 _ _ ?_)
   clear hK6 K6
   refine wp_seq_k fun K7 hK7 => ?_
   refine wp_block ?_
   refine wp_seq_k fun K8 hK8 => ?_
   refine Sb 27 rfl ?_  -- 4
   refine S_val (Y_index Try.underlying22 sz3 rfl rfl (by first | assumption | omega)) ?_
   refine S_val (Y_load Try.underlying3 rfl rfl (by first | assumption)) ?_  -- l1
   refine S_val (Y_assign rfl) ?_
   refine S_nl rfl rfl ?_
   refine th_n (hK8 _ _ ?_)
   clear hK8 K8
   refine wp_seq_k fun K9 hK9 => ?_
   refine wp_seq_k fun K10 hK10 => ?_
   refine Sb 27 rfl ?_  -- 5
   refine S_val (Y_move rfl) ?_
   refine S_val (Y_geq rfl rfl) ?_
   refine S_nl rfl rfl ?_
   refine th_n (hK10 _ _ ?_)
   clear hK10 K10
   refine S_if rfl (fun hb2 => ?_) (fun hb2 => ?_)  -- c2
   · -- c2T
    replace hb2 := nb_tt hb2
    obtain ⟨n, hn⟩ := Int.eq_ofNat_of_zero_le hb2
    have hnN : n < N := by have := hr _ (List.getElem_mem hk1); omega
    rw [hn]
    rw [hn] at htk
    obtain ⟨g3, o3, rfl, hp3, hc3⟩ := hF.int (k := n) (by rw [namesL_len]; exact hnN)
    rw [namesL_at] at hc3
    refine Sb 27 rfl ?_  -- 6
    refine S_val (Y_move rfl) ?_
    refine S_val (Y_move rfl) ?_
    refine S_val (Y_index Try.underlying22 sz3 rfl rfl (by first | assumption | omega)) ?_
    refine S_val (Y_load Try.underlying3 rfl rfl (by first | assumption)) ?_  -- l2
    refine S_val (Y_assign rfl) ?_
    refine S_nl rfl rfl ?_
    refine th_n (hK9 _ _ ?_)
    clear hK9 K9
    refine Sb 27 rfl ?_  -- 7
    refine S_val (Y_move rfl) ?_
    refine S_val (Y_move rfl) ?_
    refine S_bs1 (cs := [_]) Try.underlying22 zr3 sz3 rfl rfl rfl ?_
    intro b3 w3 fb3 g3 B3
    have lb3 := B3.lt
    replace hE := hE.grow g3
    replace hF := hF.grow g3
    replace O1 := O1.grow g3
    replace G := G.grow g3
    replace GL2 := GL2.grow g3
    have zg3 := g3.size
    refine S_app Try.underlying22 zr3 sz3 by3 rfl rfl O1 rfl (Src.blk B3) (by simp [Value.oneCell']) (by omega) (Pr' := fun i => w.heap.size ≤ i) (fun i hi => hi) (by omega) ?_
    intro A4 cap4 w4 X4 m4
    replace O1 := X4
    rw [ints_app] at O1
    clear X4
    replace G := G.abv m4
    replace GL2 := GL2.trn m4
    replace hE := hE0.grow G
    replace hF := hF0.grow G
    have zm4 := m4.size
    refine S_val (Y_assign rfl) ?_
    refine S_nl rfl rfl ?_
    refine ib_n ?_
    refine th_n (hK7 _ _ ?_)
    clear hK7 K7
    refine Sb 27 rfl ?_  -- 8
    refine S_val (Y_inc rfl rfl (by omega)) ?_
    refine S_val (Y_move rfl) ?_
    refine S_nl rfl rfl ?_
    refine th_n ?_
    go_roundw  -- e1 of L1
    case rel =>
     refine ⟨?_, GL2⟩
     exact ⟨k + 1, _, _, _, rfl, rfl, by omega, by omega, by rw [htk, List.map_append]; exact O1⟩
    case measure =>
     exact dec_nat (by omega)
   · -- c2F
    replace hb2 := nb_tf hb2
    have hm1 : xs[k] = -1 := by have := hr _ (List.getElem_mem hk1); omega
    have hno : nameIn o (-1) = -1 := nameIn_no (fun hm => by have := ho _ hm; omega)
    rw [hm1]
    rw [hm1] at htk
    refine wp_skip ?_
    refine th_n (hK9 _ _ ?_)
    clear hK9 K9
    refine Sb 27 rfl ?_  -- 7
    refine S_val (Y_move rfl) ?_
    refine S_val (Y_move rfl) ?_
    refine S_bs1 (cs := [_]) Try.underlying22 zr3 sz3 rfl rfl rfl ?_
    intro b5 w5 fb5 g5 B5
    have lb5 := B5.lt
    replace hE := hE.grow g5
    replace hF := hF.grow g5
    replace O1 := O1.grow g5
    replace G := G.grow g5
    replace GL2 := GL2.grow g5
    have zg5 := g5.size
    refine S_app Try.underlying22 zr3 sz3 by3 rfl rfl O1 rfl (Src.blk B5) (by simp [Value.oneCell']) (by omega) (Pr' := fun i => w.heap.size ≤ i) (fun i hi => hi) (by omega) ?_
    intro A6 cap6 w6 X6 m6
    replace O1 := X6
    rw [ints_app] at O1
    clear X6
    replace G := G.abv m6
    replace GL2 := GL2.trn m6
    replace hE := hE0.grow G
    replace hF := hF0.grow G
    have zm6 := m6.size
    refine S_val (Y_assign rfl) ?_
    refine S_nl rfl rfl ?_
    refine ib_n ?_
    refine th_n (hK7 _ _ ?_)
    clear hK7 K7
    refine Sb 27 rfl ?_  -- 8
    refine S_val (Y_inc rfl rfl (by omega)) ?_
    refine S_val (Y_move rfl) ?_
    refine S_nl rfl rfl ?_
    refine th_n ?_
    go_roundw  -- e2 of L1
    case rel =>
     refine ⟨?_, GL2⟩
     exact ⟨k + 1, _, _, _, rfl, rfl, by omega, by omega, by rw [htk, List.map_append, List.map_singleton, hno]; exact O1⟩
    case measure =>
     exact dec_nat (by omega)
  · -- c1F
   replace hb1 := nb_tf hb1
   refine wp_exit ?_
   refine th_x ?_
   clear GL2
   refine th_x ?_
   refine ib_e ?_
   refine th_n (hK3 _ _ ?_)
   clear hK6 K6 hK3 K3
   refine wp_seq_k fun K11 hK11 => ?_
   refine Sb 27 rfl ?_  -- 9
   refine S_val (Y_move rfl) ?_
   refine S_val (Y_assign rfl) ?_
   refine S_nl rfl rfl ?_
   refine th_n (hK11 _ _ ?_)
   clear hK11 K11
   refine wp_ret ?_
   refine ret_r1 rfl rfl ?_  -- r1
   have : k = xs.length := by omega
   subst this
   rw [List.take_length] at O1
   exact ⟨_, _, _, rfl, hq1, O1, G⟩

set_option maxHeartbeats 400000 in
set_option maxRecDepth 20000 in
theorem spec_l9Name_c (Pr : Nat → Prop) (E : Option Addr) (o : List Int) (e : Nat) (x : Int) (w : World) (hE : R1 Pr w E (ints o)) (ho : o.length ≤ 1048576) :
    Calls Try.prog 85 #[.slice E o.length e, .int .i64 x] w (Ret fun v w' => v = .int .i64 (nameIn o x) ∧ Grow w w') := by
 refine enter Try.func85 rfl Try.ntmps85 (L := [_,_,_,_,_,_,_,_,_,_,_,_,_,_,_,_,_,_,_]) rfl ?_
 have G := Mod.refl No w
 have hE0 := hE
 refine wp_seq_k fun K1 hK1 => ?_
 refine Sb 19 rfl ?_  -- 0
 refine S_val (Y_assign rfl) ?_
 refine S_nl rfl rfl ?_
 refine th_n (hK1 _ _ ?_)
 clear hK1 K1
 refine wp_seq_k fun K2 hK2 => ?_
 refine wp_seq_k fun K3 hK3 => ?_
 refine Sb 19 rfl ?_  -- 1
 refine S_val (Y_assign rfl) ?_
 refine S_nl rfl rfl ?_
 refine th_n (hK3 _ _ ?_)
 clear hK3 K3
 refine wp_block ?_
 go_loopw [5] (fun u5 wr => (∃ k : Nat, u5 = .int .i64 k ∧ k ≤ o.length ∧ x ∉ o.take k) ∧ Mod No w wr) (fun u5 wr => o.length - (intOf u5).toNat)  -- L1
 case atStart =>
  refine ⟨?_, Mod.refl _ _⟩
  exact ⟨0, rfl, by omega, by simp⟩
 case round =>
  obtain ⟨w1, rfl⟩ : ∃ x : World, x = wr := ⟨_, rfl⟩
  obtain ⟨hrel, g1⟩ := hrel
  replace hE := hE.grow g1
  replace G := G.grow g1
  have zg1 := g1.size
  obtain ⟨k, rfl, hk, hs⟩ := hrel
  have GL1 := g1
  refine wp_seq_k fun K4 hK4 => ?_
  refine wp_seq_k fun K5 hK5 => ?_
  refine Sb 19 rfl ?_  -- 2
  refine S_val (Y_move rfl) ?_
  refine S_val (Y_move rfl) ?_
  refine S_val (Y_len Try.underlying22 rfl) ?_
  refine S_val (Y_lss rfl rfl) ?_
  refine S_nl rfl rfl ?_
  refine th_n (hK5 _ _ ?_)
  clear hK5 K5
  refine S_if rfl (fun hb1 => ?_) (fun hb1 => ?_)  -- c1
  · -- c1T
   replace hb1 := nb_tt hb1
   have hk1 : k < o.length := by omega
   obtain ⟨g2, o2, rfl, hp2, hc2⟩ := hE.int hk1
   refine wp_skip ?_
   refine th_n (hK4 _ _ ?_)
   clear hK4 K4
   refine wp_seq_k fun K6 hK6 => ?_
   refine wp_block ?_
   refine wp_seq_k fun K7 hK7 => ?_
   refine Sb 19 rfl ?_  -- 4
   refine S_val (Y_move rfl) ?_
   refine S_val (Y_move rfl) ?_
   refine S_val (Y_index Try.underlying22 sz3 rfl rfl (by first | assumption | omega)) ?_
   refine S_val (Y_load Try.underlying3 rfl rfl (by first | assumption)) ?_  -- l1
   refine S_val (Y_move rfl) ?_
   refine S_val (Y_eql rfl rfl) ?_
   refine S_nl rfl rfl ?_
   refine th_n (hK7 _ _ ?_)
   clear hK7 K7
   refine S_if rfl (fun hb2 => ?_) (fun hb2 => ?_)  -- c2
   · -- c2T
    replace hb2 := nb_tt hb2
    refine wp_seq_k fun K8 hK8 => ?_
    refine Sb 19 rfl ?_  -- 5
    refine S_val (Y_move rfl) ?_
    refine S_val (Y_assign rfl) ?_
    refine S_nl rfl rfl ?_
    refine th_n (hK8 _ _ ?_)
    clear hK8 K8
    refine wp_ret ?_
    refine ib_r ?_
    refine th_r ?_
    clear GL1
    refine th_r ?_
    refine ib_r ?_
    refine th_r ?_
    clear hK6 K6 hK2 K2
    refine ret_r1 rfl rfl ?_  -- r1
    exact ⟨by rw [nameIn_at hk1 hs hb2], G⟩
   · -- c2F
    replace hb2 := nb_tf hb2
    refine wp_skip ?_
    refine ib_n ?_
    refine th_n (hK6 _ _ ?_)
    clear hK6 K6
    refine Sb 19 rfl ?_  -- 3
    refine S_val (Y_move rfl) ?_
    refine S_val (Y_inc rfl rfl (by omega)) ?_
    refine S_val (Y_assign rfl) ?_
    refine S_nl rfl rfl ?_
    refine th_n ?_
    go_roundw  -- e1 of L1
    case rel =>
     refine ⟨?_, GL1⟩
     exact ⟨k + 1, rfl, by omega, notMem_take hk1 hs hb2⟩
    case measure =>
     exact dec_nat (by omega)
  · -- c1F
   replace hb1 := nb_tf hb1
   refine wp_exit ?_
   refine th_x ?_
   clear GL1
   refine th_x ?_
   refine ib_e ?_
   refine th_n (hK2 _ _ ?_)
   clear hK4 K4 hK2 K2
   refine wp_seq_k fun K9 hK9 => ?_
   refine Sb 19 rfl ?_  -- 6
   refine S_val (Y_assign rfl) ?_
   refine S_nl rfl rfl ?_
   refine th_n (hK9 _ _ ?_)
   clear hK9 K9
   refine wp_ret ?_
   refine ret_r1 rfl rfl ?_  -- r2
   rw [List.take_of_length_le (by omega)] at hs
   exact ⟨by rw [nameIn_no hs], G⟩

set_option maxHeartbeats 400000 in
set_option maxRecDepth 20000 in
theorem impl_sameInts_c (P1 P2 : Nat → Prop) (A B : Option Addr) (xs ys : List Int) (c d : Nat) (w : World) (hA : R1 P1 w A (ints xs)) (hB : R1 P2 w B (ints ys)) (hx : xs.length ≤ 9223372036854775807) :
    Calls Try.prog 48 #[.slice A xs.length c, .slice B ys.length d] w (Ret fun v w' => v = .bool (decide (xs = ys)) ∧ Grow w w') := by
 refine enter Try.func48 rfl Try.ntmps48 (L := [_,_,_,_,_,_,_,_,_,_,_,_,_,_,_,_,_,_,_,_,_,_,_,_,_,_]) rfl ?_
 have G := Mod.refl No w
 have hA0 := hA
 have hB0 := hB
 refine wp_seq_k fun K1 hK1 => ?_
 refine Sb 26 rfl ?_  -- 0
 refine S_val (Y_assign rfl) ?_
 refine S_nl rfl rfl ?_
 refine th_n (hK1 _ _ ?_)
 clear hK1 K1
 refine wp_seq_k fun K2 hK2 => ?_
 refine wp_seq_k fun K3 hK3 => ?_
 refine Sb 26 rfl ?_  -- 1
 refine S_val (Y_move rfl) ?_
 refine S_val (Y_len Try.underlying22 rfl) ?_
 refine S_val (Y_move rfl) ?_
 refine S_val (Y_len Try.underlying22 rfl) ?_
 refine S_val (Y_neq rfl rfl) ?_
 refine S_nl rfl rfl ?_
 refine th_n (hK3 _ _ ?_)
 clear hK3 K3
 refine S_if rfl (fun hb1 => ?_) (fun hb1 => ?_)  -- c1
 · -- c1T
  replace hb1 := nb_nt hb1
  refine wp_seq_k fun K4 hK4 => ?_
  refine Sb 26 rfl ?_  -- 2
  refine S_val (Y_assign rfl) ?_
  refine S_nl rfl rfl ?_
  refine th_n (hK4 _ _ ?_)
  clear hK4 K4
  refine wp_ret ?_
  refine th_r ?_
  clear hK2 K2
  refine ret_r1 rfl rfl ?_  -- r1
  exact ⟨bF (fun e => hb1 (by rw [e])), G⟩
 · -- c1F
  replace hb1 := nb_nf hb1
  refine wp_skip ?_
  refine th_n (hK2 _ _ ?_)
  clear hK2 K2
  refine wp_seq_k fun K5 hK5 => ?_
  refine wp_seq_k fun K6 hK6 => ?_
  refine Sb 26 rfl ?_  -- 3
  refine S_val (Y_move rfl) ?_
  refine S_val (Y_len Try.underlying22 rfl) ?_
  refine S_val (Y_move rfl) ?_
  refine S_nl rfl rfl ?_
  refine th_n (hK6 _ _ ?_)
  clear hK6 K6
  refine wp_block ?_
  go_loopw [13] (fun u13 wr => (∃ k : Nat, u13 = .int .i64 k ∧ k ≤ xs.length ∧ xs.take k = ys.take k) ∧ Mod No w wr) (fun u13 wr => xs.length - (intOf u13).toNat)  -- L1
  case atStart =>
   refine ⟨?_, Mod.refl _ _⟩
   exact ⟨0, rfl, by omega, by simp⟩
  case round =>
   obtain ⟨w1, rfl⟩ : ∃ x : World, x = wr := ⟨_, rfl⟩
   obtain ⟨hrel, g1⟩ := hrel
   replace hA := hA.grow g1
   replace hB := hB.grow g1
   replace G := G.grow g1
   have zg1 := g1.size
   obtain ⟨k, rfl, hk, hs⟩ := hrel
   have GL1 := g1
   refine wp_seq_k fun K7 hK7 => ?_
   refine Sb 26 rfl ?_  -- 4
   refine S_val (Y_lss rfl rfl) ?_
   refine S_nl rfl rfl ?_
   refine th_n (hK7 _ _ ?_)
   clear hK7 K7
   refine wp_seq_k fun K8 hK8 => ?_
   refine S_if rfl (fun hb2 => ?_) (fun hb2 => ?_)  -- c2
   · -- c2T
    replace hb2 := nb_tt hb2
    refine wp_skip ?_
    refine th_n (hK8 _ _ ?_)
    clear hK8 K8
    refine wp_seq_k fun K9 hK9 => ?_
    refine wp_block ?_
    refine wp_seq_k fun K10 hK10 => ?_
    refine Sb 26 rfl ?_  -- 5
    refine S_val (Y_move rfl) ?_
    refine S_val (Y_assign rfl) ?_
    refine S_nl rfl rfl ?_
    refine th_n (hK10 _ _ ?_)
    clear hK10 K10
    refine wp_seq_k fun K11 hK11 => ?_
    refine D_start 9 26 (fun w => Mod (No) w) follows rfl rfl ?_  -- d1 r6
    intro w2 g2
    replace hA := hA.grow g2
    replace hB := hB.grow g2
    replace G := G.grow g2
    replace GL1 := GL1.grow g2
    have zg2 := g2.size
    have GS2 := Mod.refl (No) w2
    obtain ⟨g1, o1, rfl, hp1, hc1⟩ := hA.int (k := k) (by omega)
    obtain ⟨g2, o2, rfl, hp2, hc2⟩ := hB.int (k := k) (by omega)
    refine Dq (i := 0) rfl GS2 (fun _ _ => Y_move rfl) ?_
    refine Dq (i := 1) rfl GS2 (fun _ _ => Y_move rfl) ?_
    refine Dq (i := 2) rfl GS2 (fun _ _ => Y_index Try.underlying22 sz3 rfl rfl (by first | assumption | omega)) ?_
    refine Dq (i := 3) rfl GS2 (fun _ hs => Y_load Try.underlying3 rfl rfl (by first | exact hs.cell0 (by assumption))) ?_
    refine Dq (i := 4) rfl GS2 (fun _ _ => Y_move rfl) ?_
    refine Dq (i := 5) rfl GS2 (fun _ _ => Y_move rfl) ?_
    refine Dq (i := 6) rfl GS2 (fun _ _ => Y_index Try.underlying22 sz3 rfl rfl (by first | assumption | omega)) ?_
    refine Dq (i := 7) rfl GS2 (fun _ hs => Y_load Try.underlying3 rfl rfl (by first | exact hs.cell0 (by assumption))) ?_
    refine Dq (i := 8) rfl GS2 (fun _ _ => Y_neq rfl rfl) ?_
    refine D_en (by kernel_rfl) rfl rfl ?_
    refine th_n (hK11 _ _ ?_)
    clear hK11 K11
    refine S_if rfl (fun hb3 => ?_) (fun hb3 => ?_)  -- c3
    · -- c3T
     replace hb3 := nb_nt hb3
     refine wp_seq_k fun K12 hK12 => ?_
     refine Sb 26 rfl ?_  -- 7
     refine S_val (Y_assign rfl) ?_
     refine S_nl rfl rfl ?_
     refine th_n (hK12 _ _ ?_)
     clear hK12 K12
     refine wp_ret ?_
     refine ib_r ?_
     refine th_r ?_
     clear GL1
     refine th_r ?_
     refine ib_r ?_
     refine th_r ?_
     clear hK9 K9 hK5 K5
     refine ret_r1 rfl rfl ?_  -- r2
     exact ⟨bF (fun e => hb3 (by subst e; rfl)), G⟩
    · -- c3F
     replace hb3 := nb_nf hb3
     refine wp_skip ?_
     refine ib_n ?_
     refine th_n (hK9 _ _ ?_)
     clear hK9 K9
     refine Sb 26 rfl ?_  -- 8
     refine S_val (Y_inc rfl rfl (by omega)) ?_
     refine S_val (Y_move rfl) ?_
     refine S_nl rfl rfl ?_
     refine th_n ?_
     go_roundw  -- e1 of L1
     case rel =>
      refine ⟨?_, GL1⟩
      exact ⟨k + 1, rfl, by omega, take_eq hs (by omega) (by omega) hb3⟩
     case measure =>
      exact dec_nat (by omega)
   · -- c2F
    replace hb2 := nb_tf hb2
    refine wp_exit ?_
    refine th_x ?_
    clear GL1
    refine th_x ?_
    refine ib_e ?_
    refine th_n (hK5 _ _ ?_)
    clear hK8 K8 hK5 K5
    refine wp_seq_k fun K13 hK13 => ?_
    refine Sb 26 rfl ?_  -- 9
    refine S_val (Y_assign rfl) ?_
    refine S_nl rfl rfl ?_
    refine th_n (hK13 _ _ ?_)
    clear hK13 K13
    refine wp_ret ?_
    refine ret_r1 rfl rfl ?_  -- r3
    exact ⟨bT (take_all hs (by omega) (by omega)), G⟩

end Go.Proofs.Ytjmfdmndchoplaa
