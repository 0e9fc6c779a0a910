/-
  Walks: sets of cells.
  Conditions: those that each theorem states.
-/
import Derived.Test.YtjmfdmndchoplaaTy
import Derived.Test.YtjmfdmndchoplaaWalkC
import Derived.Test.YtjmfdmndchoplaaPla
import Derived.Test.YtjmfdmndchoplaaApp
namespace Go.Proofs.Ytjmfdmndchoplaa
open Go Go.RowKit
attribute [local irreducible] wpList wpAnyH Code.wp dOp

/-- r is in the set m. -/
def hasB (m : Nat) (r : Int) : Bool := decide (0 ≤ r) && m.testBit r.toNat
theorem hasB_nat (m n : Nat) : hasB m (n : Int) = m.testBit n := by simp [hasB]
theorem hasB_neg {m : Nat} {r : Int} (h : ¬ 0 ≤ r) : hasB m r = false := by simp [hasB, h]
theorem has_and (m n : Nat) : Value.bool (decide (((m >>> n &&& 1 : Nat) : Int) = 1)) = .bool (hasB m (n : Int)) := by
  rw [hasB_nat, shr_bit]
  cases m.testBit n <;> rfl
theorem shr_lt {m : Nat} (n : Nat) (h : m < 2 ^ 64) : m >>> n < 2 ^ 64 := Nat.lt_of_le_of_lt (Nat.shiftRight_le m n) h
def listB (m n : Nat) : List Bool := (List.range n).map m.testBit
theorem listB_len (m n : Nat) : (listB m n).length = n := by simp [listB]
theorem listB_snoc {m n k : Nat} (h : k < n) {z : List Value} : bools ((listB m n).take k) ++ [.bool (hasB m (k : Int))] ++ zeros z (n - k - 1) = bools ((listB m n).take (k + 1)) ++ zeros z (n - (k + 1)) := by
  have hk : k < (listB m n).length := by rw [listB_len]; exact h
  rw [List.take_succ_eq_append_getElem hk, hasB_nat, Nat.sub_sub]
  simp [bools, listB]
def countB (bs : List Bool) : Nat := bs.countP (fun b => b)
theorem countB_succ {bs : List Bool} {k : Nat} (h : k < bs.length) : countB (bs.take (k + 1)) = countB (bs.take k) + (if bs[k] = true then 1 else 0) := by
  unfold countB
  rw [List.take_succ_eq_append_getElem h, List.countP_append]
  simp [List.countP_cons]
theorem countB_le (bs : List Bool) : countB bs ≤ bs.length := List.countP_le_length
/-- The set of the places that say yes. -/
def SetOf (m : Nat) (bs : List Bool) : Prop := m < 2 ^ 64 ∧ ∀ i, m.testBit i = (bs[i]? == some true)
theorem SetOf.zero : SetOf 0 [] := ⟨by decide, fun i => by simp⟩
theorem take_get {α : Type} {bs : List α} {k : Nat} (h : k < bs.length) (i : Nat) : (bs.take (k + 1))[i]? = if i = k then some bs[k] else (bs.take k)[i]? := by
  rw [List.getElem?_take, List.getElem?_take]
  by_cases hi : i = k
  · subst hi
    simp [h]
  · by_cases h1 : i < k
    · simp [h1, hi, (by omega : i < k + 1)]
    · simp [h1, hi]
      intro hh
      omega
theorem SetOf.yes {m k : Nat} {bs : List Bool} (h : SetOf m (bs.take k)) (hk : k < bs.length) (h6 : k < 64) (hb : bs[k] = true) : SetOf (addN m k) (bs.take (k + 1)) :=
  ⟨addN_lt h.1 h6, fun i => by
    rw [addN_bit, h.2, take_get hk]
    by_cases hi : i = k
    · subst hi; simp [hb]
    · simp [hi, Ne.symm hi]⟩
theorem SetOf.no {m k : Nat} {bs : List Bool} (h : SetOf m (bs.take k)) (hk : k < bs.length) (hb : bs[k] = false) : SetOf m (bs.take (k + 1)) :=
  ⟨h.1, fun i => by
    rw [h.2, take_get hk]
    by_cases hi : i = k
    · subst hi; simp [hb, List.getElem?_take]
    · simp [hi]⟩
theorem SetOf.whole {m k : Nat} {bs : List Bool} (h : SetOf m (bs.take k)) (hk : bs.length ≤ k) : SetOf m bs := by rwa [List.take_of_length_le hk] at h
theorem R1.of_blk0 {w : World} {b : Nat} {e : TypeId} {us : List Value} (h : Blk w b e us.toArray) : R1 (fun _ => True) w (some ⟨b, 0, none⟩) us := R1.of_blk (post := []) (by simpa using h) trivial
def usedL (cs : List LC) : List Bool := cs.map (·.used)


set_option maxHeartbeats 400000 in
set_option maxRecDepth 20000 in
theorem impl_cellSet_has_c (m : Nat) (r : Int) (w : World) (hm : m < 2 ^ 64) :
    Calls Try.prog 61 #[.int .u64 (m : Int), .int .i64 r] w (Ret fun v w' => v = .bool (hasB m r) ∧ w' = w) := by
 refine enter Try.func61 rfl Try.ntmps61 (L := [_,_,_,_,_,_,_,_,_,_,_,_,_,_]) rfl ?_
 have G := Mod.refl No w
 refine wp_seq_k fun K1 hK1 => ?_
 refine Sb 14 rfl ?_  -- 0
 refine S_val (Y_assign rfl) ?_
 refine S_nl rfl rfl ?_
 refine th_n (hK1 _ _ ?_)
 clear hK1 K1
 refine wp_seq_k fun K2 hK2 => ?_
 refine Sb 14 rfl ?_  -- 1
 refine S_val (Y_move rfl) ?_
 refine S_val (Y_geq rfl rfl) ?_
 refine S_val (Y_move rfl) ?_
 refine S_g 7 rfl (fun hb1 => ?_) (fun hb1 => ?_)  -- g1
 · -- g1T
  replace hb1 := nb_tt hb1
  obtain ⟨n, rfl⟩ := Int.eq_ofNat_of_zero_le hb1
  refine S_on rfl rfl ?_
  refine S_val (Y_move rfl) ?_
  refine S_on rfl rfl ?_
  refine S_val (Y_move rfl) ?_
  refine S_on rfl rfl ?_
  refine S_val (Y_shr rfl rfl hm) ?_
  refine S_on rfl rfl ?_
  refine S_val (Y_and (b := 1) rfl rfl (shr_lt _ hm) (by decide)) ?_
  refine S_on rfl rfl ?_
  refine S_val (Y_eql rfl rfl) ?_
  refine S_val (Y_pickT rfl rfl) ?_
  refine S_val (Y_assign rfl) ?_
  refine S_nl rfl rfl ?_
  refine th_n (hK2 _ _ ?_)
  clear hK2 K2
  refine wp_ret ?_
  refine ret_r1 rfl rfl ?_  -- r1
  exact ⟨has_and m n, rfl⟩
 · -- g1F
  replace hb1 := nb_tf hb1
  refine S_off rfl rfl ?_
  refine S_off rfl rfl ?_
  refine S_off rfl rfl ?_
  refine S_off rfl rfl ?_
  refine S_off rfl rfl ?_
  refine S_val (Y_pickF rfl rfl) ?_
  refine S_val (Y_assign rfl) ?_
  refine S_nl rfl rfl ?_
  refine th_n (hK2 _ _ ?_)
  clear hK2 K2
  refine wp_ret ?_
  refine ret_r1 rfl rfl ?_  -- r2
  exact ⟨by rw [hasB_neg hb1], rfl⟩

set_option maxHeartbeats 400000 in
set_option maxRecDepth 20000 in
theorem impl_cellSet_add_c (m n : Nat) (b1 : Nat) (w : World) (B1 : Blk w b1 82 [.int .u64 (m : Int)].toArray) (hm : m < 2 ^ 64) (hn : n < 64) :
    Calls Try.prog 62 #[.pointer (some ⟨b1, 0, none⟩), .int .i64 (n : Int)] w (Ret fun _v w' => Blk w' b1 82 [.int .u64 ((addN m n : Nat) : Int)].toArray ∧ Mod (fun i => i = b1) w w') := by
 have hn2 : 1 * 2 ^ n < 2 ^ 64 := by rw [Nat.one_mul]; exact Nat.pow_lt_pow_right (by decide) hn
 refine enter Try.func62 rfl Try.ntmps62 (L := [_,_,_,_,_,_,_,_,_,_,_]) rfl ?_
 have G := Mod.refl (fun i => i = b1) w
 refine D_start 8 11 (fun w => Mod (fun i => i = b1) w) follows rfl rfl ?_  -- d1 r0
 intro w1 g1
 replace G := G.grow g1
 replace B1 := B1.grow g1
 have zg1 := g1.size
 have GS1 := Mod.refl (fun i => i = b1) w1
 refine Dq (i := 0) rfl GS1 (fun _ _ => Y_move rfl) ?_
 refine Dq (i := 1) rfl GS1 (fun _ _ => Y_nil rfl) ?_
 refine Dq (i := 3) rfl GS1 (fun _ _ => Y_move rfl) ?_
 refine Dq (i := 4) rfl GS1 (fun _ _ => Y_shl (a := 1) rfl rfl hn2 hn) ?_
 refine D_1 (i := 2) (by kernel_rfl) ?_
 refine E_val (i := 2) rfl (Y_load Try.underlying82 rfl rfl (B1.at (by rfl))) GS1 ?_
 refine Dq (i := 5) rfl GS1 (fun _ _ => Y_or rfl rfl hm hn2) ?_
 refine Dq (i := 6) rfl GS1 (fun _ _ => Y_nil rfl) ?_
 refine D_1 (i := 7) (by kernel_rfl) ?_
 refine E_stM (pre := []) (old := [_]) (post := []) (vs := [_]) (i := 7) rfl sz82 rfl rfl rfl (by first | rfl | assumption) B1 rfl rfl ?_
 intro w3 m3 X3
 replace B1 := Blk.eq (ys := [_]) X3 rfl
 clear X3
 replace G := G.trans m3
 replace GS1 := GS1.trn m3
 have zm3 := m3.size
 refine ⟨GS1, ?_⟩
 refine D_en (by kernel_rfl) rfl rfl ?_
 refine ret_n0 rfl ?_  -- r1
 exact ⟨Blk.eq B1 (by simp [addN]), G⟩

set_option maxHeartbeats 400000 in
set_option maxRecDepth 20000 in
theorem impl_cellSet_list_c (m n : Nat) (w : World) (hm : m < 2 ^ 64) (hn : n ≤ 1048576) :
    Calls Try.prog 65 #[.int .u64 (m : Int), .int .i64 (n : Int)] w (Ret fun v w' => ∃ b, v = .slice (some ⟨b, 0, none⟩) n n ∧ w.heap.size ≤ b ∧ Blk w' b 4 (bools (listB m n)).toArray ∧ Grow w w') := by
 refine enter Try.func65 rfl Try.ntmps65 (L := [_,_,_,_,_,_,_,_,_,_,_,_,_,_,_,_,_,_,_,_,_,_]) rfl ?_
 have G := Mod.refl No w
 refine wp_seq_k fun K1 hK1 => ?_
 refine Sb 22 rfl ?_  -- 0
 refine S_val (Y_assign rfl) ?_
 refine S_nl rfl rfl ?_
 refine th_n (hK1 _ _ ?_)
 clear hK1 K1
 refine wp_seq_k fun K2 hK2 => ?_
 refine Sb 22 rfl ?_  -- 1
 refine S_val (Y_move rfl) ?_
 refine S_make (z := [.bool false]) Try.underlying38 zr4 sz4 by4 rfl rfl (by omega) (by omega) (by omega) ?_
 intro b1 w1 fb1 g1 B1
 have lb1 := B1.lt
 replace G := G.grow g1
 have zg1 := g1.size
 refine S_val (Y_assign rfl) ?_
 refine S_nl rfl rfl ?_
 refine th_n (hK2 _ _ ?_)
 clear hK2 K2
 refine wp_seq_k fun K3 hK3 => ?_
 refine wp_seq_k fun K4 hK4 => ?_
 refine Sb 22 rfl ?_  -- 2
 refine S_val (Y_move rfl) ?_
 refine S_val (Y_len Try.underlying38 rfl) ?_
 refine S_val (Y_move rfl) ?_
 refine S_nl rfl rfl ?_
 refine th_n (hK4 _ _ ?_)
 clear hK4 K4
 refine wp_block ?_
 go_loopw [11] (fun u11 wr => (∃ k : Nat, u11 = .int .i64 k ∧ k ≤ n ∧ Blk wr b1 4 (bools ((listB m n).take k) ++ zeros [.bool false] (n - k)).toArray) ∧ Mod (fun i => i = b1) w1 wr) (fun u11 wr => n - (intOf u11).toNat)  -- L1
 case atStart =>
  refine ⟨?_, Mod.refl _ _⟩
  exact ⟨0, rfl, by omega, by simpa [bools] using B1⟩
 case round =>
  obtain ⟨w2, rfl⟩ : ∃ x : World, x = wr := ⟨_, rfl⟩
  obtain ⟨hrel, g2⟩ := hrel
  clear B1
  replace G := G.abv g2
  have zg2 := g2.size
  obtain ⟨k, rfl, hk, B1⟩ := hrel
  have GL2 := g2
  refine wp_seq_k fun K5 hK5 => ?_
  refine Sb 22 rfl ?_  -- 3
  refine S_val (Y_lss rfl rfl) ?_
  refine S_nl rfl rfl ?_
  refine th_n (hK5 _ _ ?_)
  clear hK5 K5
  refine wp_seq_k fun K6 hK6 => ?_
  refine S_if rfl (fun hb1 => ?_) (fun hb1 => ?_)  -- c1
  · -- c1T
   replace hb1 := nb_tt hb1
   have hk1 : k < n := by omega
   rw [zeros_pos (by omega)] at B1
   refine wp_skip ?_
   refine th_n (hK6 _ _ ?_)
   clear hK6 K6
   refine wp_seq_k fun K7 hK7 => ?_
   refine wp_block ?_
   refine wp_seq_k fun K8 hK8 => ?_
   refine Sb 22 rfl ?_  -- 4
   refine S_val (Y_move rfl) ?_
   refine S_val (Y_assign rfl) ?_
   refine S_nl rfl rfl ?_
   refine th_n (hK8 _ _ ?_)
   clear hK8 K8
   refine Sb 22 rfl ?_  -- 5
   refine S_val (Y_move rfl) ?_
   refine S_val (Y_move rfl) ?_
   refine S_val (Y_move rfl) ?_
   refine S_val (Y_move rfl) ?_
   refine S_call rfl en61 (impl_cellSet_has_c _ _ _ (by assumption)) ?_  -- k1 (impl.cellSet).has
   rintro v w' ⟨rfl, rfl⟩
   refine S_val (Y_index Try.underlying38 sz4 rfl rfl (by first | assumption | omega)) ?_
   refine S_stM (pre := bools ((listB m n).take k)) (old := [.bool false]) (post := zeros [.bool false] (n - k - 1)) (vs := [_]) sz4 rfl rfl rfl rfl (by rw [List.append_assoc]; exact B1) (by simp [bools, listB_len]; omega) rfl ?_
   intro w4 m4 X4
   replace B1 := Blk.eq X4 (listB_snoc hk1)
   clear X4
   replace G := G.abv m4
   replace GL2 := GL2.trn m4
   have zm4 := m4.size
   refine S_nl rfl rfl ?_
   refine ib_n ?_
   refine th_n (hK7 _ _ ?_)
   clear hK7 K7
   refine Sb 22 rfl ?_  -- 6
   refine S_val (Y_inc rfl rfl (by omega)) ?_
   refine S_val (Y_move rfl) ?_
   refine S_nl rfl rfl ?_
   refine th_n ?_
   go_roundw  -- e1 of L1
   case rel =>
    refine ⟨?_, GL2⟩
    exact ⟨k + 1, rfl, by omega, B1⟩
   case measure =>
    exact dec_nat (by omega)
  · -- c1F
   replace hb1 := nb_tf hb1
   refine wp_exit ?_
   refine th_x ?_
   clear GL2
   refine th_x ?_
   refine ib_e ?_
   refine th_n (hK3 _ _ ?_)
   clear hK6 K6 hK3 K3
   refine wp_seq_k fun K9 hK9 => ?_
   refine Sb 22 rfl ?_  -- 7
   refine S_val (Y_move rfl) ?_
   refine S_val (Y_assign rfl) ?_
   refine S_nl rfl rfl ?_
   refine th_n (hK9 _ _ ?_)
   clear hK9 K9
   refine wp_ret ?_
   refine ret_r1 rfl rfl ?_  -- r1
   have : k = n := by omega
   subst this
   exact ⟨b1, rfl, fb1, Blk.eq B1 (by rw [List.take_of_length_le (by rw [listB_len]; omega)]; simp [zeros]), G⟩

set_option maxHeartbeats 400000 in
set_option maxRecDepth 20000 in
theorem impl_setOf_c (Pr : Nat → Prop) (A : Option Addr) (bs : List Bool) (c : Nat) (w : World) (hA : R1 Pr w A (bools bs)) (hx : bs.length ≤ 64) :
    Calls Try.prog 68 #[.slice A bs.length c] w (Ret fun v w' => ∃ m : Nat, v = .int .u64 (m : Int) ∧ SetOf m bs ∧ Grow w w') := by
 refine enter Try.func68 rfl Try.ntmps68 (L := [_,_,_,_,_,_,_,_,_,_,_,_,_,_,_,_,_,_]) rfl ?_
 have G := Mod.refl No w
 have hA0 := hA
 refine wp_seq_k fun K1 hK1 => ?_
 refine Sb 18 rfl ?_  -- 0
 refine S_val (Y_assign rfl) ?_
 refine S_nl rfl rfl ?_
 refine th_n (hK1 _ _ ?_)
 clear hK1 K1
 refine wp_seq_k fun K2 hK2 => ?_
 refine Sb 18 rfl ?_  -- 1
 refine S_alloc (cs := [_]) zr82 rfl ?_
 intro b1 w1 fb1 g1 B1
 have lb1 := B1.lt
 replace hA := hA.grow g1
 replace G := G.grow g1
 have zg1 := g1.size
 refine S_nl rfl rfl ?_
 refine th_n (hK2 _ _ ?_)
 clear hK2 K2
 refine wp_seq_k fun K3 hK3 => ?_
 refine wp_seq_k fun K4 hK4 => ?_
 refine Sb 18 rfl ?_  -- 2
 refine S_val (Y_move rfl) ?_
 refine S_val (Y_len Try.underlying38 rfl) ?_
 refine S_val (Y_move rfl) ?_
 refine S_nl rfl rfl ?_
 refine th_n (hK4 _ _ ?_)
 clear hK4 K4
 refine wp_block ?_
 go_loopw [8] (fun u8 wr => (∃ (k m : Nat), u8 = .int .i64 k ∧ k ≤ bs.length ∧ Blk wr b1 82 [.int .u64 (m : Int)].toArray ∧ SetOf m (bs.take k)) ∧ Mod (fun i => i = b1) w1 wr) (fun u8 wr => bs.length - (intOf u8).toNat)  -- L1
 case atStart =>
  refine ⟨?_, Mod.refl _ _⟩
  exact ⟨0, 0, rfl, by omega, B1, SetOf.zero⟩
 case round =>
  obtain ⟨w2, rfl⟩ : ∃ x : World, x = wr := ⟨_, rfl⟩
  obtain ⟨hrel, g2⟩ := hrel
  clear B1
  replace G := G.abv g2
  replace hA := hA0.grow G
  have zg2 := g2.size
  obtain ⟨k, m, rfl, hk, B1, hs⟩ := hrel
  have hm := hs.1
  have GL2 := g2
  refine wp_seq_k fun K5 hK5 => ?_
  refine Sb 18 rfl ?_  -- 3
  refine S_val (Y_lss rfl rfl) ?_
  refine S_nl rfl rfl ?_
  refine th_n (hK5 _ _ ?_)
  clear hK5 K5
  refine wp_seq_k fun K6 hK6 => ?_
  refine S_if rfl (fun hb1 => ?_) (fun hb1 => ?_)  -- c1
  · -- c1T
   replace hb1 := nb_tt hb1
   have hk1 : k < bs.length := by omega
   obtain ⟨g1, o1, rfl, hp1, hc1⟩ := hA.bool hk1
   refine wp_skip ?_
   refine th_n (hK6 _ _ ?_)
   clear hK6 K6
   refine wp_seq_k fun K7 hK7 => ?_
   refine wp_block ?_
   refine wp_seq_k fun K8 hK8 => ?_
   refine Sb 18 rfl ?_  -- 4
   refine S_val (Y_move rfl) ?_
   refine S_val (Y_index Try.underlying38 sz4 rfl rfl (by first | assumption | omega)) ?_
   refine S_val (Y_load Try.underlying4 rfl rfl (by first | assumption | exact B1.at (by rfl))) ?_  -- l1
   refine S_val (Y_assign rfl) ?_
   refine S_val (Y_assign rfl) ?_
   refine S_nl rfl rfl ?_
   refine th_n (hK8 _ _ ?_)
   clear hK8 K8
   refine wp_seq_k fun K9 hK9 => ?_
   refine Sb 18 rfl ?_  -- 5
   refine S_val (Y_move rfl) ?_
   refine S_nl rfl rfl ?_
   refine th_n (hK9 _ _ ?_)
   clear hK9 K9
   refine S_if rfl (fun hb2 => ?_) (fun hb2 => ?_)  -- c2
   · -- c2T
    first | with_reducible (replace hb2 := nb_nt hb2) | with_reducible (replace hb2 := nb_tt hb2) | with_reducible (replace hb2 := nb_bt hb2) | skip
    refine Sb 18 rfl ?_  -- 6
    refine S_val (Y_move rfl) ?_
    refine S_call rfl en62 (impl_cellSet_add_c _ _ _ _ (by assumption) (by assumption) (by omega)) ?_  -- k1 (*impl.cellSet).add
    rintro v3 w3 ⟨X3, m3⟩
    replace B1 := X3
    clear X3
    replace G := G.abv m3
    replace GL2 := GL2.trn m3
    replace hA := hA0.grow G
    have zm3 := m3.size
    refine S_nl rfl rfl ?_
    refine ib_n ?_
    refine th_n (hK7 _ _ ?_)
    clear hK7 K7
    refine Sb 18 rfl ?_  -- 7
    refine S_val (Y_inc rfl rfl (by omega)) ?_
    refine S_val (Y_move rfl) ?_
    refine S_nl rfl rfl ?_
    refine th_n ?_
    go_roundw  -- e1 of L1
    case rel =>
     refine ⟨?_, GL2⟩
     exact ⟨k + 1, _, rfl, by omega, B1, hs.yes hk1 (by omega) hb2⟩
    case measure =>
     exact dec_nat (by omega)
   · -- c2F
    first | with_reducible (replace hb2 := nb_nf hb2) | with_reducible (replace hb2 := nb_tf hb2) | with_reducible (replace hb2 := nb_bf hb2) | skip
    refine wp_skip ?_
    refine ib_n ?_
    refine th_n (hK7 _ _ ?_)
    clear hK7 K7
    refine Sb 18 rfl ?_  -- 7
    refine S_val (Y_inc rfl rfl (by omega)) ?_
    refine S_val (Y_move rfl) ?_
    refine S_nl rfl rfl ?_
    refine th_n ?_
    go_roundw  -- e2 of L1
    case rel =>
     refine ⟨?_, GL2⟩
     exact ⟨k + 1, _, rfl, by omega, B1, hs.no hk1 hb2⟩
    case measure =>
     exact dec_nat (by omega)
  · -- c1F
   replace hb1 := nb_tf hb1
   refine wp_exit ?_
   refine th_x ?_
   clear GL2
   refine th_x ?_
   refine ib_e ?_
   refine th_n (hK3 _ _ ?_)
   clear hK6 K6 hK3 K3
   refine wp_seq_k fun K10 hK10 => ?_
   refine Sb 18 rfl ?_  -- 8
   refine S_val (Y_load Try.underlying82 rfl rfl (B1.at (by rfl))) ?_  -- l2
   refine S_val (Y_assign rfl) ?_
   refine S_nl rfl rfl ?_
   refine th_n (hK10 _ _ ?_)
   clear hK10 K10
   refine wp_ret ?_
   refine ret_r1 rfl rfl ?_  -- r1
   exact ⟨m, rfl, hs.whole (by omega), G⟩

set_option maxHeartbeats 400000 in
set_option maxRecDepth 20000 in
theorem impl_usedSet_c (Pr : Nat → Prop) (A B : Option Addr) (h : LH) (c d : Nat) (w : World) (hA : RC Pr w A h.cells) (hn : h.cells.length ≤ 64) :
    Calls Try.prog 71 #[.agg #[.slice A h.cells.length c, .slice B h.roots.length d]] w (Ret fun v w' => ∃ m : Nat, v = .int .u64 (m : Int) ∧ SetOf m (usedL h.cells) ∧ Grow w w') := by
 refine enter Try.func71 rfl Try.ntmps71 (L := [_,_,_,_,_,_,_,_,_,_,_,_,_,_,_,_,_,_,_,_]) rfl ?_
 have G := Mod.refl No w
 have hA0 := hA
 refine wp_seq_k fun K1 hK1 => ?_
 refine Sb 20 rfl ?_  -- 0
 refine S_box (cs := [_, _]) rfl rfl ?_
 intro b1 w1 fb1 g1 B1
 have lb1 := B1.lt
 replace hA := hA.grow g1
 replace G := G.grow g1
 have zg1 := g1.size
 refine S_val (Y_assign rfl) ?_
 refine S_nl rfl rfl ?_
 refine th_n (hK1 _ _ ?_)
 clear hK1 K1
 refine wp_seq_k fun K2 hK2 => ?_
 refine Sb 20 rfl ?_  -- 1
 refine S_alloc (cs := [_]) zr82 rfl ?_
 intro b2 w2 fb2 g2 B2
 have lb2 := B2.lt
 replace hA := hA.grow g2
 replace G := G.grow g2
 replace B1 := B1.grow g2
 have zg2 := g2.size
 refine S_nl rfl rfl ?_
 refine th_n (hK2 _ _ ?_)
 clear hK2 K2
 refine wp_seq_k fun K3 hK3 => ?_
 refine wp_seq_k fun K4 hK4 => ?_
 refine Sb 20 rfl ?_  -- 2
 refine S_val (Y_field Try.underlying25 rfl fz25_0 (by decide) rfl) ?_
 refine S_val (Y_load Try.underlying23 rfl rfl (B1.at (by rfl))) ?_  -- l1
 refine S_val (Y_len Try.underlying23 rfl) ?_
 refine S_val (Y_move rfl) ?_
 refine S_nl rfl rfl ?_
 refine th_n (hK4 _ _ ?_)
 clear hK4 K4
 refine wp_block ?_
 go_loopw [9] (fun u9 wr => (∃ (k m : Nat), u9 = .int .i64 k ∧ k ≤ h.cells.length ∧ Blk wr b2 82 [.int .u64 (m : Int)].toArray ∧ SetOf m ((usedL h.cells).take k)) ∧ Mod (fun i => i = b2) w2 wr) (fun u9 wr => h.cells.length - (intOf u9).toNat)  -- L1
 case atStart =>
  refine ⟨?_, Mod.refl _ _⟩
  exact ⟨0, 0, rfl, by omega, B2, SetOf.zero⟩
 case round =>
  obtain ⟨w3, rfl⟩ : ∃ x : World, x = wr := ⟨_, rfl⟩
  obtain ⟨hrel, g3⟩ := hrel
  clear B2
  replace G := G.abv g3
  replace hA := hA0.grow G
  replace B1 := B1.md g3
  have zg3 := g3.size
  obtain ⟨k, m, rfl, hk, B2, hs⟩ := hrel
  have hm := hs.1
  have GL3 := g3
  refine wp_seq_k fun K5 hK5 => ?_
  refine Sb 20 rfl ?_  -- 3
  refine S_val (Y_lss rfl rfl) ?_
  refine S_nl rfl rfl ?_
  refine th_n (hK5 _ _ ?_)
  clear hK5 K5
  refine wp_seq_k fun K6 hK6 => ?_
  refine S_if rfl (fun hb1 => ?_) (fun hb1 => ?_)  -- c1
  · -- c1T
   replace hb1 := nb_tt hb1
   have hk1 : k < h.cells.length := by omega
   have hk3 : k < (usedL h.cells).length := by simp [usedL, hk1]
   obtain ⟨g2, o2, E2, d2, rfl, hp2, cc20, _⟩ := hA0.cell hk1
   have cc2 := cc20.grow G
   refine wp_skip ?_
   refine th_n (hK6 _ _ ?_)
   clear hK6 K6
   refine wp_seq_k fun K7 hK7 => ?_
   refine wp_block ?_
   refine wp_seq_k fun K8 hK8 => ?_
   refine Sb 20 rfl ?_  -- 4
   refine S_val (Y_move rfl) ?_
   refine S_val (Y_index Try.underlying23 sz70 rfl rfl (by first | assumption | omega)) ?_
   refine S_val (Y_loadS Try.underlying70 rfl sz70 rfl (by first | assumption | exact B1.row (by rfl) | exact B2.row (by rfl))) ?_  -- l2
   refine S_alloc (cs := [_, _, _]) zr70 rfl ?_
   intro b4 w4 fb4 g4 B4
   have lb4 := B4.lt
   replace hA := hA.grow g4
   replace cc2 := cc2.grow g4
   replace G := G.grow g4
   replace GL3 := GL3.grow g4
   replace B1 := B1.grow g4
   replace B2 := B2.grow g4
   have zg4 := g4.size
   refine S_val (Y_assign rfl) ?_
   refine S_stM (pre := []) (old := [_, _, _]) (post := []) (vs := [_, _, _]) sz70 rfl rfl rfl (by first | rfl | assumption) B4 rfl rfl ?_
   intro w5 m5 X5
   replace B4 := Blk.eq (ys := [_, _, _]) X5 rfl
   clear X5
   replace G := G.abv m5
   replace GL3 := GL3.abv m5
   replace hA := hA0.grow G
   replace cc2 := cc20.grow G
   replace B1 := B1.md m5
   replace B2 := B2.md m5
   have zm5 := m5.size
   refine S_nl rfl rfl ?_
   refine th_n (hK8 _ _ ?_)
   clear hK8 K8
   refine wp_seq_k fun K9 hK9 => ?_
   refine Sb 20 rfl ?_  -- 5
   refine S_val (Y_field Try.underlying70 rfl fz70_0 (by decide) rfl) ?_
   refine S_val (Y_load Try.underlying4 rfl rfl (B4.at (by rfl))) ?_  -- l3
   refine S_nl rfl rfl ?_
   refine th_n (hK9 _ _ ?_)
   clear hK9 K9
   refine S_if rfl (fun hb2 => ?_) (fun hb2 => ?_)  -- c2
   · -- c2T
    first | with_reducible (replace hb2 := nb_nt hb2) | with_reducible (replace hb2 := nb_tt hb2) | with_reducible (replace hb2 := nb_bt hb2) | skip
    refine Sb 20 rfl ?_  -- 6
    refine S_val (Y_move rfl) ?_
    refine S_call rfl en62 (impl_cellSet_add_c _ _ _ _ (by assumption) (by assumption) (by omega)) ?_  -- k1 (*impl.cellSet).add
    rintro v6 w6 ⟨X6, m6⟩
    replace B2 := X6
    clear X6
    replace G := G.abv m6
    replace GL3 := GL3.trn m6
    replace hA := hA0.grow G
    replace cc2 := cc20.grow G
    replace B1 := B1.md m6
    replace B4 := B4.md m6
    have zm6 := m6.size
    refine S_nl rfl rfl ?_
    refine ib_n ?_
    refine th_n (hK7 _ _ ?_)
    clear hK7 K7
    refine Sb 20 rfl ?_  -- 7
    refine S_val (Y_inc rfl rfl (by omega)) ?_
    refine S_val (Y_move rfl) ?_
    refine S_nl rfl rfl ?_
    refine th_n ?_
    go_roundw  -- e1 of L1
    case rel =>
     refine ⟨?_, GL3⟩
     exact ⟨k + 1, _, rfl, by omega, B2, hs.yes hk3 (by omega) (by simpa [usedL] using hb2)⟩
    case measure =>
     exact dec_nat (by omega)
   · -- c2F
    first | with_reducible (replace hb2 := nb_nf hb2) | with_reducible (replace hb2 := nb_tf hb2) | with_reducible (replace hb2 := nb_bf hb2) | skip
    refine wp_skip ?_
    refine ib_n ?_
    refine th_n (hK7 _ _ ?_)
    clear hK7 K7
    refine Sb 20 rfl ?_  -- 7
    refine S_val (Y_inc rfl rfl (by omega)) ?_
    refine S_val (Y_move rfl) ?_
    refine S_nl rfl rfl ?_
    refine th_n ?_
    go_roundw  -- e2 of L1
    case rel =>
     refine ⟨?_, GL3⟩
     exact ⟨k + 1, _, rfl, by omega, B2, hs.no hk3 (by simpa [usedL] using hb2)⟩
    case measure =>
     exact dec_nat (by omega)
  · -- c1F
   replace hb1 := nb_tf hb1
   refine wp_exit ?_
   refine th_x ?_
   clear GL3
   refine th_x ?_
   refine ib_e ?_
   refine th_n (hK3 _ _ ?_)
   clear hK6 K6 hK3 K3
   refine wp_seq_k fun K10 hK10 => ?_
   refine Sb 20 rfl ?_  -- 8
   refine S_val (Y_load Try.underlying82 rfl rfl (B2.at (by rfl))) ?_  -- l4
   refine S_val (Y_assign rfl) ?_
   refine S_nl rfl rfl ?_
   refine th_n (hK10 _ _ ?_)
   clear hK10 K10
   refine wp_ret ?_
   refine ret_r1 rfl rfl ?_  -- r1
   exact ⟨m, rfl, hs.whole (by simpa [usedL] using (by omega : h.cells.length ≤ k)), G⟩

end Go.Proofs.Ytjmfdmndchoplaa
