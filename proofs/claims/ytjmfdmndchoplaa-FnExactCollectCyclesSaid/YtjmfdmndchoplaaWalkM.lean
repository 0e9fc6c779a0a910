/-
  Walks: marking the memory that a result lies in, and looking at it again.
  Conditions: those that each theorem states.
-/
import Derived.Test.YtjmfdmndchoplaaTy
import Derived.Test.YtjmfdmndchoplaaWalkC
import Derived.Test.YtjmfdmndchoplaaMark
namespace Go.Proofs.Ytjmfdmndchoplaa
open Go Go.RowKit
attribute [local irreducible] wpList wpAnyH Code.wp dOp

set_option maxHeartbeats 400000 in
set_option maxRecDepth 20000 in
theorem laws_markIntS_c (Pr : Nat → Prop) (A : Option Addr) (xs : List Int) (n c : Nat) (k : Int) (w : World) (O : OI Pr w 3 A (ints xs)) (hn : n = xs.length) (hx : n ≤ 1048576) (hk : 0 ≤ k ∧ k ≤ 1099511627776) :
    Calls Try.prog 15 #[.slice A n c, .int .i64 k] w (Ret fun v w' => v = .int .i64 (k + (n : Int)) ∧ OI Pr w' 3 A (ints (iota k n)) ∧ Mod (fun i => 0 < n ∧ A = some ⟨i, 0, none⟩) w w') := by
 refine enter Try.func15 rfl Try.ntmps15 (L := [_,_,_,_,_,_,_,_,_,_,_,_,_,_,_,_,_,_,_]) rfl ?_
 have G := Mod.refl (fun i => 0 < n ∧ A = some ⟨i, 0, none⟩) w
 refine wp_seq_k fun K1 hK1 => ?_
 refine Sb 19 rfl ?_  -- 0
 refine S_val (Y_assign rfl) ?_
 refine S_nl rfl rfl ?_
 refine th_n (hK1 _ _ ?_)
 clear hK1 K1
 refine wp_seq_k fun K2 hK2 => ?_
 refine wp_seq_k fun K3 hK3 => ?_
 refine Sb 19 rfl ?_  -- 1
 refine S_val (Y_assign rfl) ?_
 refine S_nl rfl rfl ?_
 refine th_n (hK3 _ _ ?_)
 clear hK3 K3
 refine wp_block ?_
 go_loopw [1, 5] (fun u1 u5 wr => (∃ j : Nat, u5 = .int .i64 j ∧ u1 = .int .i64 (k + (j : Int)) ∧ j ≤ n ∧ OI Pr wr 3 A (ints (iota k j ++ xs.drop j))) ∧ Mod (fun i => 0 < n ∧ A = some ⟨i, 0, none⟩) w wr) (fun u1 u5 wr => n - (intOf u5).toNat)  -- L1
 case atStart =>
  refine ⟨?_, Mod.refl _ _⟩
  exact ⟨0, rfl, by simp, by omega, by simpa [iota] using O⟩
 case round =>
  obtain ⟨w1, rfl⟩ : ∃ x : World, x = wr := ⟨_, rfl⟩
  obtain ⟨hrel, g1⟩ := hrel
  clear O
  replace G := Mod.trans' G g1 (fun _ h _ => h) (fun i h _ => by first | exact h | (subst h; exact ⟨by omega, rfl⟩))
  have zg1 := g1.size
  obtain ⟨j, rfl, rfl, hj, O⟩ := hrel
  have GL1 := g1
  refine wp_seq_k fun K4 hK4 => ?_
  refine wp_seq_k fun K5 hK5 => ?_
  refine Sb 19 rfl ?_  -- 2
  refine S_val (Y_move rfl) ?_
  refine S_val (Y_move rfl) ?_
  refine S_val (Y_len Try.underlying22 rfl) ?_
  refine S_val (Y_lss rfl rfl) ?_
  refine S_nl rfl rfl ?_
  refine th_n (hK5 _ _ ?_)
  clear hK5 K5
  refine S_if rfl (fun hb1 => ?_) (fun hb1 => ?_)  -- c1
  · -- c1T
   replace hb1 := nb_tt hb1
   have hj1 : j < xs.length := by omega
   have hul : (ints (iota k j ++ xs.drop j)).length = xs.length := by rw [ints_len, List.length_append, iota_len, List.length_drop]; omega
   have hug : (ints (iota k j ++ xs.drop j))[j]? = some (.int .i64 xs[j]) := ints_get (by rw [List.getElem?_append_right (by rw [iota_len]; omega), iota_len, Nat.sub_self, List.getElem?_drop]; simp [hj1])
   obtain ⟨bq, post, rfl, hp, Bq⟩ := O (fun e => by rw [e] at hul; simp at hul; omega)
   refine wp_skip ?_
   refine th_n (hK4 _ _ ?_)
   clear hK4 K4
   refine wp_seq_k fun K6 hK6 => ?_
   refine wp_block ?_
   refine wp_seq_k fun K7 hK7 => ?_
   refine Sb 19 rfl ?_  -- 4
   refine S_val (Y_move rfl) ?_
   refine S_val (Y_move rfl) ?_
   refine S_val (Y_move rfl) ?_
   refine S_val (Y_index Try.underlying22 sz3 rfl rfl (by first | assumption | omega)) ?_
   refine S_stM (pre := (ints (iota k j ++ xs.drop j)).take j) (old := [.int .i64 xs[j]]) (post := (ints (iota k j ++ xs.drop j)).drop (j + 1) ++ post) (vs := [_]) sz3 rfl rfl rfl rfl (by rw [← List.append_assoc, ← split_at hug]; exact Bq) (by rw [List.length_take, hul]; omega) rfl ?_
   intro w2 m2 X2
   replace Bq := Blk.eq X2 (by rw [← List.append_assoc, iota_set hj1])
   clear X2
   replace G := Mod.trans' G m2 (fun _ h _ => h) (fun i h _ => by first | exact h | (subst h; exact ⟨by omega, rfl⟩))
   replace GL1 := GL1.trn m2
   have zm2 := m2.size
   refine S_nl rfl rfl ?_
   refine th_n (hK7 _ _ ?_)
   clear hK7 K7
   refine Sb 19 rfl ?_  -- 5
   refine S_val (Y_move rfl) ?_
   refine S_val (Y_add (c := k + ((j + 1 : Nat) : Int)) rfl rfl (by omega) (by omega) (by omega)) ?_
   refine S_val (Y_assign rfl) ?_
   refine S_nl rfl rfl ?_
   refine ib_n ?_
   refine th_n (hK6 _ _ ?_)
   clear hK6 K6
   refine Sb 19 rfl ?_  -- 3
   refine S_val (Y_move rfl) ?_
   refine S_val (Y_inc rfl rfl (by omega)) ?_
   refine S_val (Y_assign rfl) ?_
   refine S_nl rfl rfl ?_
   refine th_n ?_
   go_roundw  -- e1 of L1
   case rel =>
    refine ⟨?_, GL1⟩
    exact ⟨j + 1, rfl, rfl, by omega, OI.of_blk Bq hp⟩
   case measure =>
    exact dec_nat (by omega)
  · -- c1F
   replace hb1 := nb_tf hb1
   refine wp_exit ?_
   refine th_x ?_
   clear GL1
   refine th_x ?_
   refine ib_e ?_
   refine th_n (hK2 _ _ ?_)
   clear hK4 K4 hK2 K2
   refine wp_seq_k fun K8 hK8 => ?_
   refine Sb 19 rfl ?_  -- 6
   refine S_val (Y_move rfl) ?_
   refine S_val (Y_assign rfl) ?_
   refine S_nl rfl rfl ?_
   refine th_n (hK8 _ _ ?_)
   clear hK8 K8
   refine wp_ret ?_
   refine ret_r1 rfl rfl ?_  -- r1
   have : j = n := by omega
   subst this
   exact ⟨rfl, by simpa [hn] using O, G⟩

set_option maxHeartbeats 400000 in
set_option maxRecDepth 20000 in
theorem laws_heldIntS_c (Pr : Nat → Prop) (A : Option Addr) (n c : Nat) (k : Int) (w : World) (hA : R1 Pr w A (ints (iota k n))) (hx : n ≤ 1048576) (hk : 0 ≤ k ∧ k ≤ 1099511627776) :
    Calls Try.prog 53 #[.slice A n c, .int .i64 k] w (Ret fun v w' => v = .int .i64 (k + (n : Int)) ∧ Grow w w') := by
 refine enter Try.func53 rfl Try.ntmps53 (L := [_,_,_,_,_,_,_,_,_,_,_,_,_,_,_,_,_,_,_,_,_]) rfl ?_
 have G := Mod.refl No w
 have hA0 := hA
 refine wp_seq_k fun K1 hK1 => ?_
 refine Sb 21 rfl ?_  -- 0
 refine S_val (Y_assign rfl) ?_
 refine S_nl rfl rfl ?_
 refine th_n (hK1 _ _ ?_)
 clear hK1 K1
 refine wp_seq_k fun K2 hK2 => ?_
 refine wp_seq_k fun K3 hK3 => ?_
 refine Sb 21 rfl ?_  -- 1
 refine S_val (Y_assign rfl) ?_
 refine S_nl rfl rfl ?_
 refine th_n (hK3 _ _ ?_)
 clear hK3 K3
 refine wp_block ?_
 go_loopw [1, 5] (fun u1 u5 wr => (∃ j : Nat, u5 = .int .i64 j ∧ u1 = .int .i64 (k + (j : Int)) ∧ j ≤ n) ∧ Mod No w wr) (fun u1 u5 wr => n - (intOf u5).toNat)  -- L1
 case atStart =>
  refine ⟨?_, Mod.refl _ _⟩
  exact ⟨0, rfl, by simp, by omega⟩
 case round =>
  obtain ⟨w1, rfl⟩ : ∃ x : World, x = wr := ⟨_, rfl⟩
  obtain ⟨hrel, g1⟩ := hrel
  replace hA := hA.grow g1
  replace G := G.grow g1
  have zg1 := g1.size
  obtain ⟨j, rfl, rfl, hj⟩ := hrel
  have GL1 := g1
  refine wp_seq_k fun K4 hK4 => ?_
  refine wp_seq_k fun K5 hK5 => ?_
  refine Sb 21 rfl ?_  -- 2
  refine S_val (Y_move rfl) ?_
  refine S_val (Y_move rfl) ?_
  refine S_val (Y_len Try.underlying22 rfl) ?_
  refine S_val (Y_lss rfl rfl) ?_
  refine S_nl rfl rfl ?_
  refine th_n (hK5 _ _ ?_)
  clear hK5 K5
  refine S_if rfl (fun hb1 => ?_) (fun hb1 => ?_)  -- c1
  · -- c1T
   replace hb1 := nb_tt hb1
   have hj1 : j < (iota k n).length := by rw [iota_len]; omega
   obtain ⟨g1, o1, rfl, hp1, hc1⟩ := hA.int hj1
   rw [iota_at] at hc1
   refine wp_skip ?_
   refine th_n (hK4 _ _ ?_)
   clear hK4 K4
   refine wp_seq_k fun K6 hK6 => ?_
   refine wp_block ?_
   refine wp_seq_k fun K7 hK7 => ?_
   refine wp_seq_k fun K8 hK8 => ?_
   refine Sb 21 rfl ?_  -- 4
   refine S_val (Y_move rfl) ?_
   refine S_val (Y_move rfl) ?_
   refine S_val (Y_index Try.underlying22 sz3 rfl rfl (by first | assumption | omega)) ?_
   refine S_val (Y_load Try.underlying3 rfl rfl (by first | assumption)) ?_  -- l1
   refine S_val (Y_move rfl) ?_
   refine S_val (Y_neq rfl rfl) ?_
   refine S_nl rfl rfl ?_
   refine th_n (hK8 _ _ ?_)
   clear hK8 K8
   refine S_if rfl (fun hb2 => ?_) (fun hb2 => ?_)  -- c2
   · -- c2T
    replace hb2 := nb_nt hb2
    exact absurd rfl hb2
   · -- c2F
    replace hb2 := nb_nf hb2
    refine wp_skip ?_
    refine th_n (hK7 _ _ ?_)
    clear hK7 K7
    refine Sb 21 rfl ?_  -- 6
    refine S_val (Y_move rfl) ?_
    refine S_val (Y_add (c := k + ((j + 1 : Nat) : Int)) rfl rfl (by omega) (by omega) (by omega)) ?_
    refine S_val (Y_assign rfl) ?_
    refine S_nl rfl rfl ?_
    refine ib_n ?_
    refine th_n (hK6 _ _ ?_)
    clear hK6 K6
    refine Sb 21 rfl ?_  -- 3
    refine S_val (Y_move rfl) ?_
    refine S_val (Y_inc rfl rfl (by omega)) ?_
    refine S_val (Y_assign rfl) ?_
    refine S_nl rfl rfl ?_
    refine th_n ?_
    go_roundw  -- e1 of L1
    case rel =>
     refine ⟨?_, GL1⟩
     exact ⟨j + 1, rfl, rfl, by omega⟩
    case measure =>
     exact dec_nat (by omega)
  · -- c1F
   replace hb1 := nb_tf hb1
   refine wp_exit ?_
   refine th_x ?_
   clear GL1
   refine th_x ?_
   refine ib_e ?_
   refine th_n (hK2 _ _ ?_)
   clear hK4 K4 hK2 K2
   refine wp_seq_k fun K9 hK9 => ?_
   refine Sb 21 rfl ?_  -- 7
   refine S_val (Y_move rfl) ?_
   refine S_val (Y_assign rfl) ?_
   refine S_nl rfl rfl ?_
   refine th_n (hK9 _ _ ?_)
   clear hK9 K9
   refine wp_ret ?_
   refine ret_r1 rfl rfl ?_  -- r1
   have : j = n := by omega
   subst this
   exact ⟨rfl, G⟩

set_option maxHeartbeats 400000 in
set_option maxRecDepth 20000 in
theorem laws_markBoolS_c (Pr : Nat → Prop) (A : Option Addr) (xs : List Bool) (n c : Nat) (k : Int) (w : World) (O : OI Pr w 4 A (bools xs)) (hn : n = xs.length) (hx : n ≤ 1048576) (hk : 0 ≤ k ∧ k ≤ 1099511627776) :
    Calls Try.prog 23 #[.slice A n c, .int .i64 k] w (Ret fun v w' => v = .int .i64 (k + (n : Int)) ∧ OI Pr w' 4 A (bools (thirds k n)) ∧ Mod (fun i => 0 < n ∧ A = some ⟨i, 0, none⟩) w w') := by
 refine enter Try.func23 rfl Try.ntmps23 (L := [_,_,_,_,_,_,_,_,_,_,_,_,_,_,_,_,_,_,_,_,_]) rfl ?_
 have G := Mod.refl (fun i => 0 < n ∧ A = some ⟨i, 0, none⟩) w
 refine wp_seq_k fun K1 hK1 => ?_
 refine Sb 21 rfl ?_  -- 0
 refine S_val (Y_assign rfl) ?_
 refine S_nl rfl rfl ?_
 refine th_n (hK1 _ _ ?_)
 clear hK1 K1
 refine wp_seq_k fun K2 hK2 => ?_
 refine wp_seq_k fun K3 hK3 => ?_
 refine Sb 21 rfl ?_  -- 1
 refine S_val (Y_assign rfl) ?_
 refine S_nl rfl rfl ?_
 refine th_n (hK3 _ _ ?_)
 clear hK3 K3
 refine wp_block ?_
 go_loopw [1, 5] (fun u1 u5 wr => (∃ j : Nat, u5 = .int .i64 j ∧ u1 = .int .i64 (k + (j : Int)) ∧ j ≤ n ∧ OI Pr wr 4 A (bools (thirds k j ++ xs.drop j))) ∧ Mod (fun i => 0 < n ∧ A = some ⟨i, 0, none⟩) w wr) (fun u1 u5 wr => n - (intOf u5).toNat)  -- L1
 case atStart =>
  refine ⟨?_, Mod.refl _ _⟩
  exact ⟨0, rfl, by simp, by omega, by simpa [thirds] using O⟩
 case round =>
  obtain ⟨w1, rfl⟩ : ∃ x : World, x = wr := ⟨_, rfl⟩
  obtain ⟨hrel, g1⟩ := hrel
  clear O
  replace G := Mod.trans' G g1 (fun _ h _ => h) (fun i h _ => by first | exact h | (subst h; exact ⟨by omega, rfl⟩))
  have zg1 := g1.size
  obtain ⟨j, rfl, rfl, hj, O⟩ := hrel
  have GL1 := g1
  refine wp_seq_k fun K4 hK4 => ?_
  refine wp_seq_k fun K5 hK5 => ?_
  refine Sb 21 rfl ?_  -- 2
  refine S_val (Y_move rfl) ?_
  refine S_val (Y_move rfl) ?_
  refine S_val (Y_len Try.underlying38 rfl) ?_
  refine S_val (Y_lss rfl rfl) ?_
  refine S_nl rfl rfl ?_
  refine th_n (hK5 _ _ ?_)
  clear hK5 K5
  refine S_if rfl (fun hb1 => ?_) (fun hb1 => ?_)  -- c1
  · -- c1T
   replace hb1 := nb_tt hb1
   have hj1 : j < xs.length := by omega
   have hul : (bools (thirds k j ++ xs.drop j)).length = xs.length := by rw [bools_len, List.length_append, thirds_len, List.length_drop]; omega
   have hug : (bools (thirds k j ++ xs.drop j))[j]? = some (.bool xs[j]) := bools_get (by rw [List.getElem?_append_right (by rw [thirds_len]; omega), thirds_len, Nat.sub_self, List.getElem?_drop]; simp [hj1])
   obtain ⟨bq, post, rfl, hp, Bq⟩ := O (fun e => by rw [e] at hul; simp at hul; omega)
   refine wp_skip ?_
   refine th_n (hK4 _ _ ?_)
   clear hK4 K4
   refine wp_seq_k fun K6 hK6 => ?_
   refine wp_block ?_
   refine wp_seq_k fun K7 hK7 => ?_
   refine Sb 21 rfl ?_  -- 4
   refine S_val (Y_move rfl) ?_
   refine S_val (Y_move rfl) ?_
   refine S_val (Y_move rfl) ?_
   refine S_val (Y_rem rfl rfl (by omega) (by decide) rfl) ?_
   refine S_val (Y_eql rfl rfl) ?_
   refine S_val (Y_index Try.underlying38 sz4 rfl rfl (by first | assumption | omega)) ?_
   refine S_stM (pre := (bools (thirds k j ++ xs.drop j)).take j) (old := [.bool xs[j]]) (post := (bools (thirds k j ++ xs.drop j)).drop (j + 1) ++ post) (vs := [_]) sz4 rfl rfl rfl rfl (by rw [← List.append_assoc, ← split_at hug]; exact Bq) (by rw [List.length_take, hul]; omega) rfl ?_
   intro w2 m2 X2
   replace Bq := Blk.eq X2 (by rw [← List.append_assoc, thirds_set hj1])
   clear X2
   replace G := Mod.trans' G m2 (fun _ h _ => h) (fun i h _ => by first | exact h | (subst h; exact ⟨by omega, rfl⟩))
   replace GL1 := GL1.trn m2
   have zm2 := m2.size
   refine S_nl rfl rfl ?_
   refine th_n (hK7 _ _ ?_)
   clear hK7 K7
   refine Sb 21 rfl ?_  -- 5
   refine S_val (Y_move rfl) ?_
   refine S_val (Y_add (c := k + ((j + 1 : Nat) : Int)) rfl rfl (by omega) (by omega) (by omega)) ?_
   refine S_val (Y_assign rfl) ?_
   refine S_nl rfl rfl ?_
   refine ib_n ?_
   refine th_n (hK6 _ _ ?_)
   clear hK6 K6
   refine Sb 21 rfl ?_  -- 3
   refine S_val (Y_move rfl) ?_
   refine S_val (Y_inc rfl rfl (by omega)) ?_
   refine S_val (Y_assign rfl) ?_
   refine S_nl rfl rfl ?_
   refine th_n ?_
   go_roundw  -- e1 of L1
   case rel =>
    refine ⟨?_, GL1⟩
    exact ⟨j + 1, rfl, rfl, by omega, OI.of_blk Bq hp⟩
   case measure =>
    exact dec_nat (by omega)
  · -- c1F
   replace hb1 := nb_tf hb1
   refine wp_exit ?_
   refine th_x ?_
   clear GL1
   refine th_x ?_
   refine ib_e ?_
   refine th_n (hK2 _ _ ?_)
   clear hK4 K4 hK2 K2
   refine wp_seq_k fun K8 hK8 => ?_
   refine Sb 21 rfl ?_  -- 6
   refine S_val (Y_move rfl) ?_
   refine S_val (Y_assign rfl) ?_
   refine S_nl rfl rfl ?_
   refine th_n (hK8 _ _ ?_)
   clear hK8 K8
   refine wp_ret ?_
   refine ret_r1 rfl rfl ?_  -- r1
   have : j = n := by omega
   subst this
   exact ⟨rfl, by simpa [hn] using O, G⟩

set_option maxHeartbeats 400000 in
set_option maxRecDepth 20000 in
theorem laws_heldBoolS_c (Pr : Nat → Prop) (A : Option Addr) (n c : Nat) (k : Int) (w : World) (hA : R1 Pr w A (bools (thirds k n))) (hx : n ≤ 1048576) (hk : 0 ≤ k ∧ k ≤ 1099511627776) :
    Calls Try.prog 24 #[.slice A n c, .int .i64 k] w (Ret fun v w' => v = .int .i64 (k + (n : Int)) ∧ Grow w w') := by
 refine enter Try.func24 rfl Try.ntmps24 (L := [_,_,_,_,_,_,_,_,_,_,_,_,_,_,_,_,_,_,_,_,_,_,_]) rfl ?_
 have G := Mod.refl No w
 have hA0 := hA
 refine wp_seq_k fun K1 hK1 => ?_
 refine Sb 23 rfl ?_  -- 0
 refine S_val (Y_assign rfl) ?_
 refine S_nl rfl rfl ?_
 refine th_n (hK1 _ _ ?_)
 clear hK1 K1
 refine wp_seq_k fun K2 hK2 => ?_
 refine wp_seq_k fun K3 hK3 => ?_
 refine Sb 23 rfl ?_  -- 1
 refine S_val (Y_assign rfl) ?_
 refine S_nl rfl rfl ?_
 refine th_n (hK3 _ _ ?_)
 clear hK3 K3
 refine wp_block ?_
 go_loopw [1, 5] (fun u1 u5 wr => (∃ j : Nat, u5 = .int .i64 j ∧ u1 = .int .i64 (k + (j : Int)) ∧ j ≤ n) ∧ Mod No w wr) (fun u1 u5 wr => n - (intOf u5).toNat)  -- L1
 case atStart =>
  refine ⟨?_, Mod.refl _ _⟩
  exact ⟨0, rfl, by simp, by omega⟩
 case round =>
  obtain ⟨w1, rfl⟩ : ∃ x : World, x = wr := ⟨_, rfl⟩
  obtain ⟨hrel, g1⟩ := hrel
  replace hA := hA.grow g1
  replace G := G.grow g1
  have zg1 := g1.size
  obtain ⟨j, rfl, rfl, hj⟩ := hrel
  have GL1 := g1
  refine wp_seq_k fun K4 hK4 => ?_
  refine wp_seq_k fun K5 hK5 => ?_
  refine Sb 23 rfl ?_  -- 2
  refine S_val (Y_move rfl) ?_
  refine S_val (Y_move rfl) ?_
  refine S_val (Y_len Try.underlying38 rfl) ?_
  refine S_val (Y_lss rfl rfl) ?_
  refine S_nl rfl rfl ?_
  refine th_n (hK5 _ _ ?_)
  clear hK5 K5
  refine S_if rfl (fun hb1 => ?_) (fun hb1 => ?_)  -- c1
  · -- c1T
   replace hb1 := nb_tt hb1
   have hj1 : j < (thirds k n).length := by rw [thirds_len]; omega
   obtain ⟨g1, o1, rfl, hp1, hc1⟩ := hA.bool hj1
   rw [thirds_at] at hc1
   refine wp_skip ?_
   refine th_n (hK4 _ _ ?_)
   clear hK4 K4
   refine wp_seq_k fun K6 hK6 => ?_
   refine wp_block ?_
   refine wp_seq_k fun K7 hK7 => ?_
   refine wp_seq_k fun K8 hK8 => ?_
   refine Sb 23 rfl ?_  -- 4
   refine S_val (Y_move rfl) ?_
   refine S_val (Y_move rfl) ?_
   refine S_val (Y_index Try.underlying38 sz4 rfl rfl (by first | assumption | omega)) ?_
   refine S_val (Y_load Try.underlying4 rfl rfl (by first | assumption)) ?_  -- l1
   refine S_val (Y_move rfl) ?_
   refine S_val (Y_rem rfl rfl (by omega) (by decide) rfl) ?_
   refine S_val (Y_eql rfl rfl) ?_
   refine S_val (Y_neb Try.underlying4 rfl rfl) ?_
   refine S_nl rfl rfl ?_
   refine th_n (hK8 _ _ ?_)
   clear hK8 K8
   refine S_if rfl (fun hb2 => ?_) (fun hb2 => ?_)  -- c2
   · -- c2T
    replace hb2 := nb_nt hb2
    exact absurd rfl hb2
   · -- c2F
    replace hb2 := nb_nf hb2
    refine wp_skip ?_
    refine th_n (hK7 _ _ ?_)
    clear hK7 K7
    refine Sb 23 rfl ?_  -- 6
    refine S_val (Y_move rfl) ?_
    refine S_val (Y_add (c := k + ((j + 1 : Nat) : Int)) rfl rfl (by omega) (by omega) (by omega)) ?_
    refine S_val (Y_assign rfl) ?_
    refine S_nl rfl rfl ?_
    refine ib_n ?_
    refine th_n (hK6 _ _ ?_)
    clear hK6 K6
    refine Sb 23 rfl ?_  -- 3
    refine S_val (Y_move rfl) ?_
    refine S_val (Y_inc rfl rfl (by omega)) ?_
    refine S_val (Y_assign rfl) ?_
    refine S_nl rfl rfl ?_
    refine th_n ?_
    go_roundw  -- e1 of L1
    case rel =>
     refine ⟨?_, GL1⟩
     exact ⟨j + 1, rfl, rfl, by omega⟩
    case measure =>
     exact dec_nat (by omega)
  · -- c1F
   replace hb1 := nb_tf hb1
   refine wp_exit ?_
   refine th_x ?_
   clear GL1
   refine th_x ?_
   refine ib_e ?_
   refine th_n (hK2 _ _ ?_)
   clear hK4 K4 hK2 K2
   refine wp_seq_k fun K9 hK9 => ?_
   refine Sb 23 rfl ?_  -- 7
   refine S_val (Y_move rfl) ?_
   refine S_val (Y_assign rfl) ?_
   refine S_nl rfl rfl ?_
   refine th_n (hK9 _ _ ?_)
   clear hK9 K9
   refine wp_ret ?_
   refine ret_r1 rfl rfl ?_  -- r1
   have : j = n := by omega
   subst this
   exact ⟨rfl, G⟩

set_option maxHeartbeats 400000 in
set_option maxRecDepth 20000 in
theorem laws_markCellS_c (Pr : Nat → Prop) (A : Option Addr) (cs : List LC) (rs : List (Option Addr × Nat)) (n c : Nat) (k : Int) (w : World) (O : OC Pr w 70 3 A cs rs) (hn : n = cs.length) (hx : n ≤ 1048576) (hr : rsum cs cs.length ≤ 1048576) (hk : 0 ≤ k ∧ k ≤ 549755813888) :
    Calls Try.prog 51 #[.slice A n c, .int .i64 k] w (Ret fun v w' => v = .int .i64 (kAt k cs n) ∧ OC Pr w' 70 3 A (mkC k cs) rs ∧ Mod Pr w w') := by
 have hne : (70 : TypeId) ≠ 3 := by decide
 refine enter Try.func51 rfl Try.ntmps51 (L := [_,_,_,_,_,_,_,_,_,_,_,_,_,_,_,_,_,_,_,_,_,_,_,_,_,_,_,_,_,_,_,_,_,_,_,_]) rfl ?_
 have G := Mod.refl Pr w
 refine wp_seq_k fun K1 hK1 => ?_
 refine Sb 36 rfl ?_  -- 0
 refine S_val (Y_assign rfl) ?_
 refine S_nl rfl rfl ?_
 refine th_n (hK1 _ _ ?_)
 clear hK1 K1
 refine wp_seq_k fun K2 hK2 => ?_
 refine wp_seq_k fun K3 hK3 => ?_
 refine Sb 36 rfl ?_  -- 1
 refine S_val (Y_assign rfl) ?_
 refine S_nl rfl rfl ?_
 refine th_n (hK3 _ _ ?_)
 clear hK3 K3
 refine wp_block ?_
 go_loopw [1, 5] (fun u1 u5 wr => (∃ j : Nat, u5 = .int .i64 j ∧ u1 = .int .i64 (kAt k cs j) ∧ j ≤ n ∧ OC Pr wr 70 3 A (midC k cs j) rs) ∧ Mod Pr w wr) (fun u1 u5 wr => n - (intOf u5).toNat)  -- L1
 case atStart =>
  refine ⟨?_, Mod.refl _ _⟩
  exact ⟨0, rfl, by rw [kAt_zero], by omega, by rw [midC_zero]; exact O⟩
 case round =>
  obtain ⟨w1, rfl⟩ : ∃ x : World, x = wr := ⟨_, rfl⟩
  obtain ⟨hrel, g1⟩ := hrel
  clear O
  replace G := Mod.trans' G g1 (fun _ h _ => h) (fun i h _ => by first | exact h | exact hpr i h | (subst h; exact hpq))
  have zg1 := g1.size
  obtain ⟨j, rfl, rfl, hj, O⟩ := hrel
  have GL1 := g1
  refine wp_seq_k fun K4 hK4 => ?_
  refine wp_seq_k fun K5 hK5 => ?_
  refine Sb 36 rfl ?_  -- 2
  refine S_val (Y_move rfl) ?_
  refine S_val (Y_move rfl) ?_
  refine S_val (Y_len Try.underlying23 rfl) ?_
  refine S_val (Y_lss rfl rfl) ?_
  refine S_nl rfl rfl ?_
  refine th_n (hK5 _ _ ?_)
  clear hK5 K5
  refine S_if rfl (fun hb1 => ?_) (fun hb1 => ?_)  -- c1
  · -- c1T
   replace hb1 := nb_tt hb1
   have hj1 : j < cs.length := by omega
   have hml := midC_len (k := k) (Nat.le_of_lt hj1)
   have hk1 := kAt_ge k cs j
   have hk2 := kAt_le (k := k) (cs := cs) (j := j) (by omega)
   have hrj := hsub hj1 hr
   obtain ⟨gq, post, rfl, hpq, Bq⟩ := O.blk (fun e => by rw [e] at hml; simp at hml; omega)
   have OR := O.rows
   have hcj := midC_get (k := k) hj1
   obtain ⟨r, hrr⟩ : ∃ r, rs[j]? = some r := ⟨_, List.getElem?_eq_getElem (by rw [OR.len]; omega)⟩
   have hlr := OR.len
   have hpl := flat_pre (k := j) hlr (by omega)
   rw [flat_one hlr hcj hrr] at Bq
   refine wp_skip ?_
   refine th_n (hK4 _ _ ?_)
   clear hK4 K4
   refine wp_seq_k fun K6 hK6 => ?_
   refine wp_block ?_
   refine wp_seq_k fun K7 hK7 => ?_
   refine Sb 36 rfl ?_  -- 4
   refine S_val (Y_move rfl) ?_
   refine S_val (Y_move rfl) ?_
   refine S_val (Y_move rfl) ?_
   refine S_val (Y_rem rfl rfl (by omega) (by decide) rfl) ?_
   refine S_val (Y_eql rfl rfl) ?_
   refine S_val (Y_index Try.underlying23 sz70 rfl rfl (by first | assumption | omega)) ?_
   refine S_val (Y_field Try.underlying70 rfl fz70_0 (by decide) rfl) ?_
   refine S_stM (pre := flatC ((midC k cs j).take j) (rs.take j)) (old := [_]) (vs := [_]) sz4 rfl rfl rfl rfl Bq (by rw [hpl]; show j * 3 = 0 + j * 3 + 0; omega) rfl ?_
   intro w2 m2 X2
   replace OR := OR.modT Bq hne m2
   replace Bq := X2
   clear X2
   replace G := Mod.trans' G m2 (fun _ h _ => h) (fun i h _ => by first | exact h | exact hpr i h | (subst h; exact hpq))
   replace GL1 := Mod.trans' GL1 m2 (fun _ h _ => h) (fun i h _ => by first | exact h | omega | (dsimp only at h ⊢; omega) | (subst h; rfl) | (subst h; exact ⟨by omega, rfl⟩) | exact hpr i h | (subst h; exact hpq))
   have zm2 := m2.size
   refine S_nl rfl rfl ?_
   refine th_n (hK7 _ _ ?_)
   clear hK7 K7
   refine wp_seq_k fun K8 hK8 => ?_
   refine Sb 36 rfl ?_  -- 5
   refine S_val (Y_move rfl) ?_
   refine S_val (Y_add rfl rfl rfl (by omega) (by omega)) ?_
   refine S_val (Y_assign rfl) ?_
   refine S_nl rfl rfl ?_
   refine th_n (hK8 _ _ ?_)
   clear hK8 K8
   refine wp_seq_k fun K9 hK9 => ?_
   refine Sb 36 rfl ?_  -- 6
   refine S_val (Y_move rfl) ?_
   refine S_val (Y_move rfl) ?_
   refine S_val (Y_move rfl) ?_
   refine S_val (Y_index Try.underlying23 sz70 rfl rfl (by first | assumption | omega)) ?_
   refine S_val (Y_field Try.underlying70 rfl fz70_1 (by decide) rfl) ?_
   refine S_stM (pre := flatC ((midC k cs j).take j) (rs.take j) ++ [.bool (decide (kAt k cs j % 3 = 0))]) (old := [.int .i64 cs[j].data]) (post := [.slice r.1 cs[j].refs.length r.2] ++ (flatC ((midC k cs j).drop (j + 1)) (rs.drop (j + 1)) ++ post)) (vs := [_]) sz3 rfl rfl rfl rfl (by rw [List.append_assoc]; exact Bq) (by rw [List.length_append, hpl]; show j * 3 + 1 = 0 + j * 3 + 1; omega) rfl ?_
   intro w3 m3 X3
   replace OR := OR.modT Bq hne m3
   replace Bq := X3
   clear X3
   replace G := Mod.trans' G m3 (fun _ h _ => h) (fun i h _ => by first | exact h | exact hpr i h | (subst h; exact hpq))
   replace GL1 := Mod.trans' GL1 m3 (fun _ h _ => h) (fun i h _ => by first | exact h | omega | (dsimp only at h ⊢; omega) | (subst h; rfl) | (subst h; exact ⟨by omega, rfl⟩) | exact hpr i h | (subst h; exact hpq))
   have zm3 := m3.size
   have hown := OR.own j _ _ hcj hrr
   have hcc : w3.cell? ⟨gq, 0 + j * 3 + 2, none⟩ = some (.slice r.1 cs[j].refs.length r.2) := by
     refine Bq.at ?_
     rw [List.getElem?_toArray, List.getElem?_append_right (by rw [List.length_append, List.length_append, hpl]; simp; try omega)]
     rw [show 0 + j * 3 + 2 - (flatC ((midC k cs j).take j) (rs.take j) ++ [Value.bool (decide (kAt k cs j % 3 = 0))] ++ [Value.int .i64 (kAt k cs j + 1)]).length = 0 by rw [List.length_append, List.length_append, hpl]; simp; try omega]
     rfl
   have hpr : ∀ i, (0 < cs[j].refs.length ∧ r.1 = some ⟨i, 0, none⟩) → Pr i := fun i hi => by
     obtain ⟨b0, _, e0, p0, _⟩ := hown (ints_ne.2 (fun e => by rw [e] at hi; exact absurd hi.1 (by simp)))
     rw [hi.2] at e0
     cases e0
     exact p0
   refine S_nl rfl rfl ?_
   refine th_n (hK9 _ _ ?_)
   clear hK9 K9
   refine wp_seq_k fun K10 hK10 => ?_
   refine Sb 36 rfl ?_  -- 7
   refine S_val (Y_move rfl) ?_
   refine S_val (Y_add rfl rfl rfl (by omega) (by omega)) ?_
   refine S_val (Y_assign rfl) ?_
   refine S_nl rfl rfl ?_
   refine th_n (hK10 _ _ ?_)
   clear hK10 K10
   refine Sb 36 rfl ?_  -- 8
   refine S_val (Y_move rfl) ?_
   refine S_val (Y_move rfl) ?_
   refine S_val (Y_index Try.underlying23 sz70 rfl rfl (by first | assumption | omega)) ?_
   refine S_val (Y_field Try.underlying70 rfl fz70_2 (by decide) rfl) ?_
   refine S_val (Y_load Try.underlying22 rfl rfl hcc) ?_  -- l1
   refine S_val (Y_move rfl) ?_
   refine S_call rfl en15 (laws_markIntS_c _ _ _ _ _ _ _ (by assumption) (by omega) (by omega) ⟨by omega, by omega⟩) ?_  -- k1 laws.markIntS
   rintro v4 w4 ⟨rfl, O4, m4⟩
   have OR2 := OR.mark hcj hrr m4 (c' := mkc (kAt k cs j) cs[j].refs.length) O4 (by simp [mkc, iota_len])
   have hoff := OR.off hcj hrr Bq hne
   replace Bq := Bq.mod m4 hoff
   replace G := Mod.trans' G m4 (fun _ h _ => h) (fun i h _ => by first | exact h | exact hpr i h | (subst h; exact hpq))
   replace GL1 := Mod.trans' GL1 m4 (fun _ h _ => h) (fun i h _ => by first | exact h | omega | (dsimp only at h ⊢; omega) | (subst h; rfl) | (subst h; exact ⟨by omega, rfl⟩) | exact hpr i h | (subst h; exact hpq))
   have zm4 := m4.size
   refine S_val (Y_assign rfl) ?_
   refine S_nl rfl rfl ?_
   refine ib_n ?_
   refine th_n (hK6 _ _ ?_)
   clear hK6 K6
   refine Sb 36 rfl ?_  -- 3
   refine S_val (Y_move rfl) ?_
   refine S_val (Y_inc rfl rfl (by omega)) ?_
   refine S_val (Y_assign rfl) ?_
   refine S_nl rfl rfl ?_
   refine th_n ?_
   go_roundw  -- e1 of L1
   case rel =>
    refine ⟨?_, GL1⟩
    refine ⟨j + 1, rfl, by rw [kAt_succ hj1], by omega, ?_⟩
    rw [← midC_set hj1]
    exact ⟨OR2.weak (fun i hi => hi), fun _ => ⟨gq, _, rfl, hpq, Blk.eq Bq (by have hfs := flat_set hlr (by omega) hrr (c := mkc (kAt k cs j) cs[j].refs.length) (post := post); rw [← hfs]; simp [mkc, iota_len])⟩⟩
   case measure =>
    exact dec_nat (by omega)
  · -- c1F
   replace hb1 := nb_tf hb1
   refine wp_exit ?_
   refine th_x ?_
   clear GL1
   refine th_x ?_
   refine ib_e ?_
   refine th_n (hK2 _ _ ?_)
   clear hK4 K4 hK2 K2
   refine wp_seq_k fun K11 hK11 => ?_
   refine Sb 36 rfl ?_  -- 9
   refine S_val (Y_move rfl) ?_
   refine S_val (Y_assign rfl) ?_
   refine S_nl rfl rfl ?_
   refine th_n (hK11 _ _ ?_)
   clear hK11 K11
   refine wp_ret ?_
   refine ret_r1 rfl rfl ?_  -- r1
   have : j = n := by omega
   subst this
   rw [midC_all (by omega)] at O
   exact ⟨rfl, O, G⟩

set_option maxHeartbeats 400000 in
set_option maxRecDepth 20000 in
theorem laws_heldCellS_c (Pr : Nat → Prop) (A : Option Addr) (cs : List LC) (n c : Nat) (k : Int) (w : World) (hA : RC Pr w A (mkC k cs)) (hn : n = cs.length) (hx : n ≤ 1048576) (hr : rsum cs cs.length ≤ 1048576) (hk : 0 ≤ k ∧ k ≤ 549755813888) :
    Calls Try.prog 52 #[.slice A n c, .int .i64 k] w (Ret fun v w' => v = .int .i64 (kAt k cs n) ∧ Grow w w') := by
 refine enter Try.func52 rfl Try.ntmps52 (L := [_,_,_,_,_,_,_,_,_,_,_,_,_,_,_,_,_,_,_,_,_,_,_,_,_,_,_,_,_,_,_,_,_,_,_,_,_,_,_,_,_,_]) rfl ?_
 have G := Mod.refl No w
 have hA0 := hA
 refine wp_seq_k fun K1 hK1 => ?_
 refine Sb 42 rfl ?_  -- 0
 refine S_val (Y_assign rfl) ?_
 refine S_nl rfl rfl ?_
 refine th_n (hK1 _ _ ?_)
 clear hK1 K1
 refine wp_seq_k fun K2 hK2 => ?_
 refine wp_seq_k fun K3 hK3 => ?_
 refine Sb 42 rfl ?_  -- 1
 refine S_val (Y_assign rfl) ?_
 refine S_nl rfl rfl ?_
 refine th_n (hK3 _ _ ?_)
 clear hK3 K3
 refine wp_block ?_
 go_loopw [1, 5] (fun u1 u5 wr => (∃ j : Nat, u5 = .int .i64 j ∧ u1 = .int .i64 (kAt k cs j) ∧ j ≤ n) ∧ Mod No w wr) (fun u1 u5 wr => n - (intOf u5).toNat)  -- L1
 case atStart =>
  refine ⟨?_, Mod.refl _ _⟩
  exact ⟨0, rfl, by rw [kAt_zero], by omega⟩
 case round =>
  obtain ⟨w1, rfl⟩ : ∃ x : World, x = wr := ⟨_, rfl⟩
  obtain ⟨hrel, g1⟩ := hrel
  replace hA := hA.grow g1
  replace G := G.grow g1
  have zg1 := g1.size
  obtain ⟨j, rfl, rfl, hj⟩ := hrel
  have GL1 := g1
  refine wp_seq_k fun K4 hK4 => ?_
  refine wp_seq_k fun K5 hK5 => ?_
  refine Sb 42 rfl ?_  -- 2
  refine S_val (Y_move rfl) ?_
  refine S_val (Y_move rfl) ?_
  refine S_val (Y_len Try.underlying23 rfl) ?_
  refine S_val (Y_lss rfl rfl) ?_
  refine S_nl rfl rfl ?_
  refine th_n (hK5 _ _ ?_)
  clear hK5 K5
  refine S_if rfl (fun hb1 => ?_) (fun hb1 => ?_)  -- c1
  · -- c1T
   replace hb1 := nb_tt hb1
   have hj1 : j < cs.length := by omega
   have hk1 := kAt_ge k cs j
   have hk2 := kAt_le (k := k) (cs := cs) (j := j) (by omega)
   have hrj := hsub hj1 hr
   obtain ⟨g1, o1, E1, e1, rfl, hp1, cc1, hE1⟩ := hA.cell (k := j) (by rw [mkC_len]; exact hj1)
   rw [mkC_at hj1] at cc1 hE1
   replace cc1 : CellsAt w1 g1 (o1 + j * 3) [.bool (decide (kAt k cs j % 3 = 0)), .int .i64 (kAt k cs j + 1), .slice E1 cs[j].refs.length e1] := by simpa [mkc, iota_len] using cc1
   replace hE1 : R1 Pr w1 E1 (ints (iota (kAt k cs j + 1 + 1) cs[j].refs.length)) := hE1
   refine wp_skip ?_
   refine th_n (hK4 _ _ ?_)
   clear hK4 K4
   refine wp_seq_k fun K6 hK6 => ?_
   refine wp_block ?_
   refine wp_seq_k fun K7 hK7 => ?_
   refine wp_seq_k fun K8 hK8 => ?_
   refine Sb 42 rfl ?_  -- 4
   refine S_val (Y_move rfl) ?_
   refine S_val (Y_move rfl) ?_
   refine S_val (Y_index Try.underlying23 sz70 rfl rfl (by first | assumption | omega)) ?_
   refine S_val (Y_field Try.underlying70 rfl fz70_0 (by decide) rfl) ?_
   refine S_val (Y_load Try.underlying4 rfl rfl (by first | assumption | exact cc1.at (by rfl))) ?_  -- l1
   refine S_val (Y_move rfl) ?_
   refine S_val (Y_rem rfl rfl (by omega) (by decide) rfl) ?_
   refine S_val (Y_eql rfl rfl) ?_
   refine S_val (Y_neb Try.underlying4 rfl rfl) ?_
   refine S_nl rfl rfl ?_
   refine th_n (hK8 _ _ ?_)
   clear hK8 K8
   refine S_if rfl (fun hb2 => ?_) (fun hb2 => ?_)  -- c2
   · -- c2T
    replace hb2 := nb_nt hb2
    exact absurd rfl hb2
   · -- c2F
    replace hb2 := nb_nf hb2
    refine wp_skip ?_
    refine th_n (hK7 _ _ ?_)
    clear hK7 K7
    refine wp_seq_k fun K9 hK9 => ?_
    refine Sb 42 rfl ?_  -- 6
    refine S_val (Y_move rfl) ?_
    refine S_val (Y_add rfl rfl rfl (by omega) (by omega)) ?_
    refine S_val (Y_assign rfl) ?_
    refine S_nl rfl rfl ?_
    refine th_n (hK9 _ _ ?_)
    clear hK9 K9
    refine wp_seq_k fun K10 hK10 => ?_
    refine wp_seq_k fun K11 hK11 => ?_
    refine Sb 42 rfl ?_  -- 7
    refine S_val (Y_move rfl) ?_
    refine S_val (Y_move rfl) ?_
    refine S_val (Y_index Try.underlying23 sz70 rfl rfl (by first | assumption | omega)) ?_
    refine S_val (Y_field Try.underlying70 rfl fz70_1 (by decide) rfl) ?_
    refine S_val (Y_load Try.underlying3 rfl rfl (by first | assumption | exact cc1.at (by rfl))) ?_  -- l2
    refine S_val (Y_move rfl) ?_
    refine S_val (Y_neq rfl rfl) ?_
    refine S_nl rfl rfl ?_
    refine th_n (hK11 _ _ ?_)
    clear hK11 K11
    refine S_if rfl (fun hb3 => ?_) (fun hb3 => ?_)  -- c3
    · -- c3T
     replace hb3 := nb_nt hb3
     exact absurd rfl hb3
    · -- c3F
     replace hb3 := nb_nf hb3
     refine wp_skip ?_
     refine th_n (hK10 _ _ ?_)
     clear hK10 K10
     refine wp_seq_k fun K12 hK12 => ?_
     refine Sb 42 rfl ?_  -- 9
     refine S_val (Y_move rfl) ?_
     refine S_val (Y_add rfl rfl rfl (by omega) (by omega)) ?_
     refine S_val (Y_assign rfl) ?_
     refine S_nl rfl rfl ?_
     refine th_n (hK12 _ _ ?_)
     clear hK12 K12
     refine wp_seq_k fun K13 hK13 => ?_
     refine Sb 42 rfl ?_  -- 10
     refine S_val (Y_move rfl) ?_
     refine S_val (Y_move rfl) ?_
     refine S_val (Y_index Try.underlying23 sz70 rfl rfl (by first | assumption | omega)) ?_
     refine S_val (Y_field Try.underlying70 rfl fz70_2 (by decide) rfl) ?_
     refine S_val (Y_load Try.underlying22 rfl rfl (by first | assumption | exact cc1.at (by rfl))) ?_  -- l3
     refine S_val (Y_move rfl) ?_
     refine S_call rfl en53 (laws_heldIntS_c _ _ _ _ _ _ (by assumption) (by omega) ⟨by omega, by omega⟩) ?_  -- k1 laws.heldIntS
     rintro v2 w2 ⟨rfl, g2⟩
     replace hA := hA.grow g2
     replace hE1 := hE1.grow g2
     replace G := G.grow g2
     replace GL1 := GL1.grow g2
     replace cc1 := cc1.grow g2
     have zg2 := g2.size
     refine S_val (Y_assign rfl) ?_
     refine S_nl rfl rfl ?_
     refine th_n (hK13 _ _ ?_)
     clear hK13 K13
     refine wp_seq_k fun K14 hK14 => ?_
     refine Sb 42 rfl ?_  -- 11
     refine S_val (Y_move rfl) ?_
     refine S_val (Y_lss rfl rfl) ?_
     refine S_nl rfl rfl ?_
     refine th_n (hK14 _ _ ?_)
     clear hK14 K14
     refine S_if rfl (fun hb4 => ?_) (fun hb4 => ?_)  -- c4
     · -- c4T
      replace hb4 := nb_tt hb4
      omega
     · -- c4F
      replace hb4 := nb_tf hb4
      refine wp_skip ?_
      refine ib_n ?_
      refine th_n (hK6 _ _ ?_)
      clear hK6 K6
      refine Sb 42 rfl ?_  -- 3
      refine S_val (Y_move rfl) ?_
      refine S_val (Y_inc rfl rfl (by omega)) ?_
      refine S_val (Y_assign rfl) ?_
      refine S_nl rfl rfl ?_
      refine th_n ?_
      go_roundw  -- e1 of L1
      case rel =>
       refine ⟨?_, GL1⟩
       exact ⟨j + 1, rfl, by rw [kAt_succ hj1], by omega⟩
      case measure =>
       exact dec_nat (by omega)
  · -- c1F
   replace hb1 := nb_tf hb1
   refine wp_exit ?_
   refine th_x ?_
   clear GL1
   refine th_x ?_
   refine ib_e ?_
   refine th_n (hK2 _ _ ?_)
   clear hK4 K4 hK2 K2
   refine wp_seq_k fun K15 hK15 => ?_
   refine Sb 42 rfl ?_  -- 13
   refine S_val (Y_move rfl) ?_
   refine S_val (Y_assign rfl) ?_
   refine S_nl rfl rfl ?_
   refine th_n (hK15 _ _ ?_)
   clear hK15 K15
   refine wp_ret ?_
   refine ret_r1 rfl rfl ?_  -- r1
   have : j = n := by omega
   subst this
   exact ⟨rfl, G⟩

set_option maxHeartbeats 400000 in
set_option maxRecDepth 20000 in
theorem laws_markHeap_c (Pr : Nat → Prop) (A B : Option Addr) (h : LH) (rs : List (Option Addr × Nat)) (c d : Nat) (k : Int) (w : World) (O : OH Pr w 70 3 A B h rs) (hz : hsize h ≤ 1048576) (hk : 0 ≤ k ∧ k ≤ 274877906944) :
    Calls Try.prog 16 #[.agg #[.slice A h.cells.length c, .slice B h.roots.length d], .int .i64 k] w (Ret fun v w' => v = .int .i64 (kEnd k h) ∧ OH Pr w' 70 3 A B (mkH k h) rs ∧ Mod Pr w w') := by
 have hne : (70 : TypeId) ≠ 3 := by decide
 replace O := O.lt
 have hz1 := hsize_cells h
 have hz2 := hsize_roots h
 have hz4 : rsum h.cells h.cells.length ≤ hsize h := by unfold hsize; omega
 have hk2 := kAt_le (k := k) (cs := h.cells) (j := h.cells.length) (Nat.le_refl _)
 have hk3 := kAt_ge k h.cells h.cells.length
 refine enter Try.func16 rfl Try.ntmps16 (L := [_,_,_,_,_,_,_,_,_,_,_,_,_,_]) rfl ?_
 have G := Mod.refl Pr w
 refine wp_seq_k fun K1 hK1 => ?_
 refine Sb 14 rfl ?_  -- 0
 refine S_box (cs := [_, _]) rfl rfl ?_
 intro b1 w1 fb1 g1 B1
 have lb1 := B1.lt
 replace O := O.grow g1
 replace G := G.grow g1
 have zg1 := g1.size
 refine S_val (Y_assign rfl) ?_
 refine S_nl rfl rfl ?_
 refine th_n (hK1 _ _ ?_)
 clear hK1 K1
 refine wp_seq_k fun K2 hK2 => ?_
 refine Sb 14 rfl ?_  -- 1
 refine S_val (Y_field Try.underlying25 rfl fz25_0 (by decide) rfl) ?_
 refine S_val (Y_load Try.underlying23 rfl rfl (B1.at (by rfl))) ?_  -- l1
 refine S_val (Y_move rfl) ?_
 refine S_call rfl en51 (laws_markCellS_c _ _ _ _ _ _ _ _ (O.split hne) rfl (by omega) (by omega) ⟨by omega, by omega⟩) ?_  -- k1 laws.markCellS
 rintro v2 w2 ⟨rfl, O2, m2⟩
 have OR := O.roots.keep m2 (fun b e1 e2 e3 => e3.2 ⟨e1, ints_ne.1 e2⟩)
 have hpr : ∀ i, (0 < h.roots.length ∧ B = some ⟨i, 0, none⟩) → Pr i ∧ i < w.heap.size := fun i hi => by
   obtain ⟨b0, _, e0, p0, _⟩ := O.roots (ints_ne.2 (fun e => by rw [e] at hi; exact absurd hi.1 (by simp)))
   rw [hi.2] at e0
   cases e0
   exact p0
 have O0 := O
 have OC := O2
 replace G := Mod.trans' G m2 (fun _ h _ => h) (fun i h _ => by first | exact h.1.1 | exact (hpr i h).1)
 replace B1 := B1.mod m2 (by intro h; first | omega | (dsimp only at h; omega) | (have h2 := h.1.2; omega) | (have h2 := hpr _ h; omega))
 have zm2 := m2.size
 refine S_val (Y_assign rfl) ?_
 refine S_nl rfl rfl ?_
 refine th_n (hK2 _ _ ?_)
 clear hK2 K2
 refine wp_seq_k fun K3 hK3 => ?_
 refine Sb 14 rfl ?_  -- 2
 refine S_val (Y_field Try.underlying25 rfl fz25_1 (by decide) rfl) ?_
 refine S_val (Y_load Try.underlying22 rfl rfl (B1.at (by rfl))) ?_  -- l2
 refine S_val (Y_move rfl) ?_
 refine S_call rfl en15 (laws_markIntS_c _ _ _ _ _ _ _ OR rfl (by omega) ⟨by omega, by omega⟩) ?_  -- k2 laws.markIntS
 rintro v3 w3 ⟨rfl, O3, m3⟩
 replace OC := OC.mod m3 (fun i hi hs => hi.2 ⟨hs.2, fun e => by rw [e] at hs; exact absurd hs.1 (by simp)⟩)
 replace G := Mod.trans' G m3 (fun _ h _ => h) (fun i h _ => by first | exact h.1.1 | exact (hpr i h).1)
 replace B1 := B1.mod m3 (by intro h; first | omega | (dsimp only at h; omega) | (have h2 := h.1.2; omega) | (have h2 := hpr _ h; omega))
 have zm3 := m3.size
 refine S_val (Y_assign rfl) ?_
 refine S_nl rfl rfl ?_
 refine th_n (hK3 _ _ ?_)
 clear hK3 K3
 refine wp_seq_k fun K4 hK4 => ?_
 refine Sb 14 rfl ?_  -- 3
 refine S_val (Y_move rfl) ?_
 refine S_val (Y_assign rfl) ?_
 refine S_nl rfl rfl ?_
 refine th_n (hK4 _ _ ?_)
 clear hK4 K4
 refine wp_ret ?_
 refine ret_r1 rfl rfl ?_  -- r1
 exact ⟨rfl, (O0.join OC (by assumption)).weak (fun _ h => h.1), G⟩

set_option maxHeartbeats 400000 in
set_option maxRecDepth 20000 in
theorem laws_heldHeap_c (Pr : Nat → Prop) (A B : Option Addr) (h : LH) (c d : Nat) (k : Int) (w : World) (hA : RC Pr w A (mkH k h).cells) (hB : R1 Pr w B (ints (mkH k h).roots)) (hz : hsize h ≤ 1048576) (hk : 0 ≤ k ∧ k ≤ 274877906944) :
    Calls Try.prog 17 #[.agg #[.slice A h.cells.length c, .slice B h.roots.length d], .int .i64 k] w (Ret fun v w' => v = .int .i64 (kEnd k h) ∧ Grow w w') := by
 have hz1 := hsize_cells h
 have hz2 := hsize_roots h
 have hz4 : rsum h.cells h.cells.length ≤ hsize h := by unfold hsize; omega
 have hk2 := kAt_le (k := k) (cs := h.cells) (j := h.cells.length) (Nat.le_refl _)
 have hk3 := kAt_ge k h.cells h.cells.length
 refine enter Try.func17 rfl Try.ntmps17 (L := [_,_,_,_,_,_,_,_,_,_,_,_,_,_,_,_,_,_]) rfl ?_
 have G := Mod.refl No w
 have hA0 := hA
 have hB0 := hB
 refine wp_seq_k fun K1 hK1 => ?_
 refine Sb 18 rfl ?_  -- 0
 refine S_box (cs := [_, _]) rfl rfl ?_
 intro b1 w1 fb1 g1 B1
 have lb1 := B1.lt
 replace hA := hA.grow g1
 replace hB := hB.grow g1
 replace G := G.grow g1
 have zg1 := g1.size
 refine S_val (Y_assign rfl) ?_
 refine S_nl rfl rfl ?_
 refine th_n (hK1 _ _ ?_)
 clear hK1 K1
 refine wp_seq_k fun K2 hK2 => ?_
 refine Sb 18 rfl ?_  -- 1
 refine S_val (Y_field Try.underlying25 rfl fz25_0 (by decide) rfl) ?_
 refine S_val (Y_load Try.underlying23 rfl rfl (B1.at (by rfl))) ?_  -- l1
 refine S_val (Y_move rfl) ?_
 refine S_call rfl en52 (laws_heldCellS_c _ _ _ _ _ _ _ hA rfl (by omega) (by omega) ⟨by omega, by omega⟩) ?_  -- k1 laws.heldCellS
 rintro v2 w2 ⟨rfl, g2⟩
 replace hA := hA.grow g2
 replace hB := hB.grow g2
 replace G := G.grow g2
 replace B1 := B1.grow g2
 have zg2 := g2.size
 refine S_val (Y_assign rfl) ?_
 refine S_nl rfl rfl ?_
 refine th_n (hK2 _ _ ?_)
 clear hK2 K2
 refine wp_seq_k fun K3 hK3 => ?_
 refine wp_seq_k fun K4 hK4 => ?_
 refine Sb 18 rfl ?_  -- 2
 refine S_val (Y_move rfl) ?_
 refine S_val (Y_lss rfl rfl) ?_
 refine S_nl rfl rfl ?_
 refine th_n (hK4 _ _ ?_)
 clear hK4 K4
 refine S_if rfl (fun hb1 => ?_) (fun hb1 => ?_)  -- c1
 · -- c1T
  replace hb1 := nb_tt hb1
  omega
 · -- c1F
  replace hb1 := nb_tf hb1
  refine wp_skip ?_
  refine th_n (hK3 _ _ ?_)
  clear hK3 K3
  refine wp_seq_k fun K5 hK5 => ?_
  refine Sb 18 rfl ?_  -- 4
  refine S_val (Y_field Try.underlying25 rfl fz25_1 (by decide) rfl) ?_
  refine S_val (Y_load Try.underlying22 rfl rfl (B1.at (by rfl))) ?_  -- l2
  refine S_val (Y_move rfl) ?_
  refine S_call rfl en53 (laws_heldIntS_c _ _ _ _ _ _ hB (by omega) ⟨by omega, by omega⟩) ?_  -- k2 laws.heldIntS
  rintro v3 w3 ⟨rfl, g3⟩
  replace hA := hA.grow g3
  replace hB := hB.grow g3
  replace G := G.grow g3
  replace B1 := B1.grow g3
  have zg3 := g3.size
  refine S_val (Y_assign rfl) ?_
  refine S_nl rfl rfl ?_
  refine th_n (hK5 _ _ ?_)
  clear hK5 K5
  refine wp_seq_k fun K6 hK6 => ?_
  refine wp_seq_k fun K7 hK7 => ?_
  refine Sb 18 rfl ?_  -- 5
  refine S_val (Y_move rfl) ?_
  refine S_val (Y_lss rfl rfl) ?_
  refine S_nl rfl rfl ?_
  refine th_n (hK7 _ _ ?_)
  clear hK7 K7
  refine S_if rfl (fun hb2 => ?_) (fun hb2 => ?_)  -- c2
  · -- c2T
   replace hb2 := nb_tt hb2
   omega
  · -- c2F
   replace hb2 := nb_tf hb2
   refine wp_skip ?_
   refine th_n (hK6 _ _ ?_)
   clear hK6 K6
   refine wp_seq_k fun K8 hK8 => ?_
   refine Sb 18 rfl ?_  -- 7
   refine S_val (Y_move rfl) ?_
   refine S_val (Y_assign rfl) ?_
   refine S_nl rfl rfl ?_
   refine th_n (hK8 _ _ ?_)
   clear hK8 K8
   refine wp_ret ?_
   refine ret_r1 rfl rfl ?_  -- r1
   exact ⟨rfl, G⟩

theorem markIntS_p (Pr : Nat → Prop) (A : Option Addr) (xs : List Int) (n c : Nat) (k : Int) (w : World) (O : OI Pr w 3 A (ints xs)) (hn : n = xs.length) (hx : n ≤ 1048576) (hk : 0 ≤ k ∧ k ≤ 1099511627776) :
    Calls Try.prog 15 #[.slice A n c, .int .i64 k] w (Ret fun v w' => v = .int .i64 (k + (n : Int)) ∧ OI Pr w' 3 A (ints (iota k n)) ∧ Mod Pr w w') :=
  (laws_markIntS_c Pr A xs n c k w O hn hx hk).mono fun _ _ ⟨v, he, h1, h2, h3⟩ => ⟨v, he, h1, h2, h3.weak fun i hi _ => by
    obtain ⟨b0, _, e0, p0, _⟩ := O (ints_ne.2 (fun e => by rw [e] at hn; simp at hn; omega))
    rw [hi.2] at e0
    cases e0
    exact p0⟩


theorem markBoolS_p (Pr : Nat → Prop) (A : Option Addr) (xs : List Bool) (n c : Nat) (k : Int) (w : World) (O : OI Pr w 4 A (bools xs)) (hn : n = xs.length) (hx : n ≤ 1048576) (hk : 0 ≤ k ∧ k ≤ 1099511627776) :
    Calls Try.prog 23 #[.slice A n c, .int .i64 k] w (Ret fun v w' => v = .int .i64 (k + (n : Int)) ∧ OI Pr w' 4 A (bools (thirds k n)) ∧ Mod Pr w w') :=
  (laws_markBoolS_c Pr A xs n c k w O hn hx hk).mono fun _ _ ⟨v, he, h1, h2, h3⟩ => ⟨v, he, h1, h2, h3.weak fun i hi _ => by
    obtain ⟨b0, _, e0, p0, _⟩ := O (fun e => by
      have h0 := congrArg List.length e
      rw [bools_len] at h0
      simp at h0
      rw [h0] at hn
      simp at hn
      omega)
    rw [hi.2] at e0
    cases e0
    exact p0⟩


end Go.Proofs.Ytjmfdmndchoplaa
