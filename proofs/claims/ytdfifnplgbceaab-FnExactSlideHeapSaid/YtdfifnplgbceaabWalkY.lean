/-
  Walks: heaps that are built anew.
  Conditions: those that each theorem states.
-/
import Derived.Test.YtdfifnplgbceaabTy
import Derived.Test.YtdfifnplgbceaabWalkV
import Derived.Test.YtdfifnplgbceaabGrow
import Derived.Test.YtdfifnplgbceaabWalkM
namespace Go.Proofs.Ytdfifnplgbceaab
open Go Go.RowKit
attribute [local irreducible] wpList wpAnyH Code.wp dOp

set_option maxHeartbeats 400000 in
set_option maxRecDepth 20000 in
theorem impl_clone_int__c (Pr : Nat → Prop) (A : Option Addr) (xs : List Int) (c : Nat) (w : World) (hA : R1 Pr w A (ints xs)) (hx : xs.length ≤ 1048576) :
    Calls Try.prog 77 #[.slice A xs.length c] w (Ret fun v w' => ∃ A q cap, v = .slice A q cap ∧ q = xs.length ∧ OW (fun i => w.heap.size ≤ i) w' 3 1 A q cap (ints xs) ∧ Grow w w') := by
  refine enter Try.func77 rfl Try.ntmps77 (L := (_ :: _ :: _ :: _ :: _ :: _ :: _ :: _ :: [])) rfl ?_
  have G := Mod.refl No w
  have hA0 := hA
  refine wp_seq_k fun K1 hK1 => ?_
  refine wp_region_lit ?_  -- region 0 l1_blocks.go:16
  refine S_beg 8 rfl ?_
  refine S_val (Y_assign rfl) ?_
  refine S_nil (L' := (_ :: _ :: _ :: _ :: _ :: _ :: _ :: _ :: [])) rfl rfl ?_
  refine th_n ?_
  refine hK1 _ _ ?_
  clear hK1 K1
  refine wp_seq_k fun K2 hK2 => ?_
  refine wp_region_lit ?_  -- region 1 l1_blocks.go:16
  refine S_beg 8 rfl ?_
  refine S_val (Y_move rfl) ?_
  refine S_val (Y_len Try.underlying23 rfl) ?_
  refine S_make (n := xs.length) (l := 0) (z := [.int .i64 0]) Try.underlying23 zr3 sz3 by3 rfl rfl (by omega) (by omega) (by omega) ?_
  intro b1 w1 fb1 g1 B1
  have lb1 := B1.lt
  replace hA := hA.grow g1
  replace G := G.grow g1
  have zg1 := g1.size
  have O1 := OW.room (Pr := fun i => w.heap.size ≤ i) (s := 1) B1 rfl (by unfold maxLen; omega) (by omega)
  refine S_val (Y_move rfl) ?_
  refine S_app (news := ints xs) Try.underlying23 zr3 sz3 by3 rfl rfl O1 (by rw [ints_len]; omega) (by have hsr := Src.r1 hA; rw [ints_len] at hsr; exact hsr) ints_one (by omega) (Pr' := fun i => w.heap.size ≤ i) (fun i hi => hi) (by omega) ?_
  intro A2 cap2 w2 X2 m2
  replace O1 := X2
  rw [List.nil_append] at O1
  clear X2
  replace G := G.above m2 (by intro i h; first | omega | (dsimp only at h; omega))
  replace hA := hA0.grow G
  have zm2 := m2.size
  refine S_val (Y_assign rfl) ?_
  refine S_nil (L' := (_ :: _ :: _ :: _ :: _ :: _ :: _ :: _ :: [])) rfl rfl ?_
  refine th_n ?_
  refine hK2 _ _ ?_
  clear hK2 K2
  refine wp_ret ?_
  refine ret_r1 rfl rfl ?_  -- r1
  exact ⟨_, _, _, rfl, by omega, O1, G⟩

set_option maxHeartbeats 400000 in
set_option maxRecDepth 20000 in
theorem impl_gathered_c (Pr PF : Nat → Prop) (A B E : Option Addr) (h : LH) (o : List Int) (c d e : Nat) (w : World) (hA : RC Pr w A h.cells) (hB : R1 Pr w B (ints h.roots)) (hE : R1 PF w E (ints o)) (hz : hsize h ≤ 1048576) (va : Valid h) (hbn : Bnd h.cells.length o) :
    Calls Try.prog 83 #[.agg #[.slice A h.cells.length c, .slice B h.roots.length d], .slice E o.length e] w (Ret fun v w' => ∃ A1 B1 n1 c1 n2 c2 rs, v = .agg #[.slice A1 n1 c1, .slice B1 n2 c2] ∧ n1 = (gathH h o).cells.length ∧ n2 = (gathH h o).roots.length ∧ OH (fun i => w.heap.size ≤ i) w' 80 3 A1 B1 (gathH h o) rs ∧ Grow w w') := by
  have hz1 := hsize_cells h
  have hz2 := hsize_roots h
  have hne : (80 : TypeId) ≠ 3 := by decide
  have hol := hbn.len
  have h40 := va.le
  have hr4 := va.roots4
  refine enter Try.func83 rfl Try.ntmps83 (L := (_ :: _ :: _ :: _ :: _ :: _ :: _ :: _ :: _ :: _ :: _ :: _ :: _ :: _ :: _ :: _ :: _ :: _ :: _ :: _ :: _ :: _ :: _ :: _ :: _ :: _ :: _ :: _ :: _ :: _ :: _ :: _ :: _ :: _ :: _ :: _ :: _ :: _ :: _ :: _ :: _ :: _ :: _ :: _ :: _ :: [])) rfl ?_
  have G := Mod.refl No w
  have hA0 := hA
  have hB0 := hB
  have hE0 := hE
  refine wp_seq_k fun K1 hK1 => ?_
  refine wp_region_lit ?_  -- region 0 l15_copying.go:4
  refine S_beg 45 rfl ?_
  refine S_box (cs := [_, _]) rfl rfl ?_
  intro b1 w1 fb1 g1 B1
  have lb1 := B1.lt
  replace hA := hA.grow g1
  replace hB := hB.grow g1
  replace hE := hE.grow g1
  replace G := G.grow g1
  have zg1 := g1.size
  refine S_alloc (cs := [_, _]) zr33 rfl ?_
  intro b2 w2 fb2 g2 B2
  have lb2 := B2.lt
  replace hA := hA.grow g2
  replace hB := hB.grow g2
  replace hE := hE.grow g2
  replace G := G.grow g2
  replace B1 := B1.grow g2
  have zg2 := g2.size
  refine S_nil (L' := (_ :: _ :: _ :: _ :: _ :: _ :: _ :: _ :: _ :: _ :: _ :: _ :: _ :: _ :: _ :: _ :: _ :: _ :: _ :: _ :: _ :: _ :: _ :: _ :: _ :: _ :: _ :: _ :: _ :: _ :: _ :: _ :: _ :: _ :: _ :: _ :: _ :: _ :: _ :: _ :: _ :: _ :: _ :: _ :: _ :: [])) rfl rfl ?_
  refine th_n ?_
  refine hK1 _ _ ?_
  clear hK1 K1
  refine wp_seq_k fun K2 hK2 => ?_
  refine wp_region_lit ?_  -- region 1 l15_copying.go:5
  refine S_beg 45 rfl ?_
  refine S_val (Y_move rfl) ?_
  refine S_val (Y_field Try.underlying33 rfl fz33_0 (by decide) rfl) ?_
  refine S_val (Y_load Try.underlying31 rfl rfl (by first | assumption | exact B1.at (by rfl) | exact B2.at (by rfl))) ?_  -- l1
  refine S_val (Y_len Try.underlying31 rfl) ?_
  refine S_call rfl en72 (impl_numbersIn_c _ _ _ _ _ _ hE hbn (by omega)) ?_  -- k1 impl.numbersIn
  rintro v3 w3 ⟨b3, rfl, fb3, B3, g3⟩
  replace hA := hA.grow g3
  replace hB := hB.grow g3
  replace hE := hE.grow g3
  replace G := G.grow g3
  replace B1 := B1.grow g3
  replace B2 := B2.grow g3
  have zg3 := g3.size
  have lb3 := B3.lt
  have hRn := R1.of_blkE B3
  refine S_val (Y_assign rfl) ?_
  refine S_nil (L' := (_ :: _ :: _ :: _ :: _ :: _ :: _ :: _ :: _ :: _ :: _ :: _ :: _ :: _ :: _ :: _ :: _ :: _ :: _ :: _ :: _ :: _ :: _ :: _ :: _ :: _ :: _ :: _ :: _ :: _ :: _ :: _ :: _ :: _ :: _ :: _ :: _ :: _ :: _ :: _ :: _ :: _ :: _ :: _ :: _ :: [])) rfl rfl ?_
  refine th_n ?_
  refine hK2 _ _ ?_
  clear hK2 K2
  refine wp_seq_k fun K3 hK3 => ?_
  refine wp_region_lit ?_  -- region 2 l15_copying.go:6
  refine S_beg 45 rfl ?_
  refine S_val (Y_field Try.underlying33 rfl fz33_1 (by decide) rfl) ?_
  refine S_val (Y_load Try.underlying23 rfl rfl (by first | assumption | exact B1.at (by rfl) | exact B2.at (by rfl) | exact B3.at (by rfl))) ?_  -- l2
  refine S_val (Y_move rfl) ?_
  refine S_call rfl en115 (impl_renamed_c _ _ _ _ _ o _ _ _ _ hB hRn (by omega) (valid_roots va) (fun x hx => (hbn.2 x hx).1)) ?_  -- k2 impl.renamed
  rintro v4 w4 ⟨A4, q4, cap4, rfl, hq4, O4, g4⟩
  replace hA := hA.grow g4
  replace hB := hB.grow g4
  replace hE := hE.grow g4
  replace hRn := hRn.grow g4
  replace G := G.grow g4
  replace B1 := B1.grow g4
  replace B2 := B2.grow g4
  replace B3 := B3.grow g4
  have zg4 := g4.size
  subst hq4
  replace O4 := O4.lt
  have OX := O4
  refine S_val (Y_build (cs := [_, _]) zr33 pc33 rfl rfl) ?_
  refine S_alloc (cs := [_, _]) zr33 rfl ?_
  intro b5 w5 fb5 g5 B5
  have lb5 := B5.lt
  replace hA := hA.grow g5
  replace hB := hB.grow g5
  replace hE := hE.grow g5
  replace hRn := hRn.grow g5
  replace OX := OX.grow g5
  replace G := G.grow g5
  replace B1 := B1.grow g5
  replace B2 := B2.grow g5
  replace B3 := B3.grow g5
  have zg5 := g5.size
  refine S_stM (pre := []) (old := [_, _]) (post := []) (vs := [_, _]) sz33 rfl rfl rfl (by first | rfl | assumption) B5 rfl rfl ?_
  intro w6 m6 X6
  replace B5 := Blk.eq (ys := [_, _]) X6 rfl
  clear X6
  replace G := G.above m6 (by intro i h; first | omega | (dsimp only at h; omega))
  replace hA := hA0.grow G
  replace hB := hB0.grow G
  replace hE := hE0.grow G
  replace hRn := hRn.mod m6 (by intro k hk h; first | omega | (dsimp only at hk h; omega) | (dsimp only at hk; omega))
  replace OX := OX.mod m6 (by intro k hk h; first | omega | (dsimp only at hk h; omega) | (dsimp only at hk; omega))
  replace B1 := B1.mod m6 (by intro h; first | omega | (dsimp only at h; omega))
  replace B2 := B2.mod m6 (by intro h; first | omega | (dsimp only at h; omega))
  replace B3 := B3.mod m6 (by intro h; first | omega | (dsimp only at h; omega))
  have zm6 := m6.size
  refine S_nil (L' := (_ :: _ :: _ :: _ :: _ :: _ :: _ :: _ :: _ :: _ :: _ :: _ :: _ :: _ :: _ :: _ :: _ :: _ :: _ :: _ :: _ :: _ :: _ :: _ :: _ :: _ :: _ :: _ :: _ :: _ :: _ :: _ :: _ :: _ :: _ :: _ :: _ :: _ :: _ :: _ :: _ :: _ :: _ :: _ :: _ :: [])) rfl rfl ?_
  refine th_n ?_
  refine hK3 _ _ ?_
  clear hK3 K3
  refine wp_seq_k fun K4 hK4 => ?_
  refine wp_seq_k fun K5 hK5 => ?_
  refine wp_region_lit ?_  -- region 3 l15_copying.go:7
  refine S_beg 45 rfl ?_
  refine S_val (Y_move rfl) ?_
  refine S_val (Y_len Try.underlying23 rfl) ?_
  refine S_val (Y_move rfl) ?_
  refine S_nil (L' := (_ :: _ :: _ :: _ :: _ :: _ :: _ :: _ :: _ :: _ :: _ :: _ :: _ :: _ :: _ :: _ :: _ :: _ :: _ :: _ :: _ :: _ :: _ :: _ :: _ :: _ :: _ :: _ :: _ :: _ :: _ :: _ :: _ :: _ :: _ :: _ :: _ :: _ :: _ :: _ :: _ :: _ :: _ :: _ :: _ :: [])) rfl rfl ?_
  refine th_n ?_
  refine hK5 _ _ ?_
  clear hK5 K5
  refine wp_block ?_
  obtain ⟨wz, hwz⟩ : ∃ x, x = w6.heap.size := ⟨_, rfl⟩
  have OC1 : OW (fun i => wz ≤ i) w6 80 3 none 0 0 (flatC ([] : List LC) []) := OW.nil _ _ _ _
  have OR1 : ORs (fun i => wz ≤ i) w6 3 ([] : List LC) [] := ORs.nil _ _ _
  go_loopw [22] (fun u22 wr => (∃ (k q cap : Nat) (A1 : Option Addr) (rs : List (Option Addr × Nat)), u22 = .int .i64 k ∧ k ≤ o.length ∧ q = k ∧ Blk wr b5 33 [.slice A1 q cap, .slice A4 h.roots.length cap4].toArray ∧ OW (fun i => wz ≤ i) wr 80 3 A1 q cap (flatC ((o.take k).map (gcell h.cells o)) rs) ∧ ORs (fun i => wz ≤ i) wr 3 ((o.take k).map (gcell h.cells o)) rs) ∧ Mod (fun i => i = b5 ∨ wz ≤ i) w6 wr) (fun u22 wr => o.length - (intOf u22).toNat)  -- L1
  case atStart =>
    refine ⟨?_, Mod.refl _ _⟩
    exact ⟨0, 0, 0, none, [], rfl, by omega, rfl, B5, OC1, OR1⟩
  case round =>
    obtain ⟨w7, rfl⟩ : ∃ x : World, x = wr := ⟨_, rfl⟩
    obtain ⟨hrel, g7⟩ := hrel
    clear B5
    clear OC1
    clear OR1
    replace G := G.above g7 (by intro i h; first | omega | (dsimp only at h; omega))
    replace hA := hA0.grow G
    replace hB := hB0.grow G
    replace hE := hE0.grow G
    replace hRn := hRn.mod g7 (by intro k hk h; first | omega | (dsimp only at hk h; omega) | (dsimp only at hk; omega))
    replace OX := OX.mod g7 (by intro k hk h; first | omega | (dsimp only at hk h; omega) | (dsimp only at hk; omega))
    replace B1 := B1.mod g7 (by intro h; first | omega | (dsimp only at h; omega))
    replace B2 := B2.mod g7 (by intro h; first | omega | (dsimp only at h; omega))
    replace B3 := B3.mod g7 (by intro h; first | omega | (dsimp only at h; omega))
    have zg7 := g7.size
    obtain ⟨k, q1, cap1, A1, rs, rfl, hk, hq1, B5, OC1, OR1⟩ := hrel
    have hlk : ((o.take k).map (gcell h.cells o)).length = k := by simp; omega
    have GL7 := g7
    refine wp_seq_k fun K6 hK6 => ?_
    refine wp_region_lit ?_  -- region 4 l15_copying.go:7
    refine S_beg 45 rfl ?_
    refine S_val (Y_lss rfl rfl) ?_
    refine S_nil (L' := (_ :: _ :: _ :: _ :: _ :: _ :: _ :: _ :: _ :: _ :: _ :: _ :: _ :: _ :: _ :: _ :: _ :: _ :: _ :: _ :: _ :: _ :: _ :: _ :: _ :: _ :: _ :: _ :: _ :: _ :: _ :: _ :: _ :: _ :: _ :: _ :: _ :: _ :: _ :: _ :: _ :: _ :: _ :: _ :: _ :: [])) rfl rfl ?_
    refine th_n ?_
    refine hK6 _ _ ?_
    clear hK6 K6
    refine wp_seq_k fun K7 hK7 => ?_
    refine S_if rfl (fun hb1 => ?_) (fun hb1 => ?_)  -- c1
    · -- c1T
      first | with_reducible (replace hb1 := nb_nt hb1) | with_reducible (replace hb1 := nb_nf hb1) | with_reducible (replace hb1 := nb_tt hb1) | with_reducible (replace hb1 := nb_tf hb1) | with_reducible (replace hb1 := nb_bt hb1) | with_reducible (replace hb1 := nb_bf hb1) | skip
      have hk1 : k < o.length := by omega
      obtain ⟨n, hn, hnN, hng⟩ := bnd_at hbn hk1
      obtain ⟨g4, o4, rfl, hp4, hc4⟩ := hE.int hk1
      rw [hn] at hc4
      obtain ⟨g2, o2, E2, d2, rfl, hp2, cc20, hE20⟩ := hA0.cell hnN
      have cc2 := cc20.grow G
      have hE2 := hE20.grow G
      have hr3 := va.refs3 hnN
      have hgs := gath_succ (h := h) hk1 hn hnN
      replace OC1 := OC1.lt
      replace OR1 := OR1.lt
      refine wp_skip ?_
      refine th_n ?_
      refine hK7 _ _ ?_
      clear hK7 K7
      refine wp_seq_k fun K8 hK8 => ?_
      refine wp_block ?_
      refine wp_seq_k fun K9 hK9 => ?_
      refine wp_region_lit ?_  -- region 5 l15_copying.go:7
      refine S_beg 45 rfl ?_
      refine S_val (Y_index Try.underlying23 sz3 rfl rfl (by first | assumption | omega)) ?_
      refine S_val (Y_load Try.underlying3 rfl rfl (by first | assumption | exact B1.at (by rfl) | exact B2.at (by rfl) | exact B3.at (by rfl) | exact B5.at (by rfl) | exact cc2.at (by rfl))) ?_  -- l3
      refine S_val (Y_assign rfl) ?_
      refine S_nil (L' := (_ :: _ :: _ :: _ :: _ :: _ :: _ :: _ :: _ :: _ :: _ :: _ :: _ :: _ :: _ :: _ :: _ :: _ :: _ :: _ :: _ :: _ :: _ :: _ :: _ :: _ :: _ :: _ :: _ :: _ :: _ :: _ :: _ :: _ :: _ :: _ :: _ :: _ :: _ :: _ :: _ :: _ :: _ :: _ :: _ :: [])) rfl rfl ?_
      refine th_n ?_
      refine hK9 _ _ ?_
      clear hK9 K9
      refine wp_seq_k fun K10 hK10 => ?_
      refine wp_region_lit ?_  -- region 6 l15_copying.go:8
      refine S_beg 45 rfl ?_
      refine S_val (Y_field Try.underlying33 rfl fz33_0 (by decide) rfl) ?_
      refine S_val (Y_load Try.underlying31 rfl rfl (by first | assumption | exact B1.at (by rfl) | exact B2.at (by rfl) | exact B3.at (by rfl) | exact B5.at (by rfl) | exact cc2.at (by rfl))) ?_  -- l4
      refine S_val (Y_move rfl) ?_
      refine S_val (Y_index Try.underlying31 sz80 rfl rfl (by first | assumption | omega)) ?_
      refine S_val (Y_loadS Try.underlying80 rfl sz80 rfl (by first | assumption | exact B1.row (by rfl) | exact B2.row (by rfl) | exact B3.row (by rfl) | exact B5.row (by rfl))) ?_  -- l5
      refine S_alloc (cs := [_, _, _]) zr80 rfl ?_
      intro b8 w8 fb8 g8 B8
      have lb8 := B8.lt
      replace hA := hA.grow g8
      replace hB := hB.grow g8
      replace hE := hE.grow g8
      replace cc2 := cc2.grow g8
      replace hE2 := hE2.grow g8
      replace hRn := hRn.grow g8
      replace OX := OX.grow g8
      replace OC1 := OC1.grow g8
      replace OR1 := OR1.grow g8
      replace G := G.grow g8
      replace GL7 := GL7.grow g8
      replace B1 := B1.grow g8
      replace B2 := B2.grow g8
      replace B3 := B3.grow g8
      replace B5 := B5.grow g8
      have zg8 := g8.size
      refine S_stM (pre := []) (old := [_, _, _]) (post := []) (vs := [_, _, _]) sz80 rfl rfl rfl (by first | rfl | assumption) B8 rfl rfl ?_
      intro w9 m9 X9
      replace B8 := Blk.eq (ys := [_, _, _]) X9 rfl
      clear X9
      replace G := G.above m9 (by intro i h; first | omega | (dsimp only at h; omega))
      replace GL7 := GL7.above m9 (by intro i h; first | omega | (dsimp only at h; omega))
      replace hA := hA0.grow G
      replace hB := hB0.grow G
      replace hE := hE0.grow G
      replace cc2 := cc20.grow G
      replace hE2 := hE20.grow G
      replace hRn := hRn.mod m9 (by intro k hk h; first | omega | (dsimp only at hk h; omega) | (dsimp only at hk; omega))
      replace OX := OX.mod m9 (by intro k hk h; first | omega | (dsimp only at hk h; omega) | (dsimp only at hk; omega))
      replace OC1 := OC1.mod m9 (by intro k hk h; first | omega | (dsimp only at hk h; omega) | (dsimp only at hk; omega))
      replace OR1 := OR1.mod m9 (by intro k hk h; first | omega | (dsimp only at hk h; omega) | (dsimp only at hk; omega))
      replace B1 := B1.mod m9 (by intro h; first | omega | (dsimp only at h; omega))
      replace B2 := B2.mod m9 (by intro h; first | omega | (dsimp only at h; omega))
      replace B3 := B3.mod m9 (by intro h; first | omega | (dsimp only at h; omega))
      replace B5 := B5.mod m9 (by intro h; first | omega | (dsimp only at h; omega))
      have zm9 := m9.size
      refine S_nil (L' := (_ :: _ :: _ :: _ :: _ :: _ :: _ :: _ :: _ :: _ :: _ :: _ :: _ :: _ :: _ :: _ :: _ :: _ :: _ :: _ :: _ :: _ :: _ :: _ :: _ :: _ :: _ :: _ :: _ :: _ :: _ :: _ :: _ :: _ :: _ :: _ :: _ :: _ :: _ :: _ :: _ :: _ :: _ :: _ :: _ :: [])) rfl rfl ?_
      refine th_n ?_
      refine hK10 _ _ ?_
      clear hK10 K10
      refine D_start 13 45 (fun w => Mod (fun i => i = b5 ∨ (wz ≤ i ∧ i ≠ b8)) w) follows rfl rfl ?_  -- d1 region 7 l15_copying.go:9
      intro w10 g10
      replace hA := hA.grow g10
      replace hB := hB.grow g10
      replace hE := hE.grow g10
      replace cc2 := cc2.grow g10
      replace hE2 := hE2.grow g10
      replace hRn := hRn.grow g10
      replace OX := OX.grow g10
      replace OC1 := OC1.grow g10
      replace OR1 := OR1.grow g10
      replace G := G.grow g10
      replace GL7 := GL7.grow g10
      replace B1 := B1.grow g10
      replace B2 := B2.grow g10
      replace B3 := B3.grow g10
      replace B5 := B5.grow g10
      replace B8 := B8.grow g10
      have zg10 := g10.size
      have GS10 := Mod.refl (fun i => i = b5 ∨ (wz ≤ i ∧ i ≠ b8)) w10
      refine D_q (i := 0) rfl (by kernel_rfl) (fun _ _ _ h => h) GS10 (fun _ _ => Y_field Try.underlying33 rfl fz33_0 (by decide) rfl) ?_
      refine D_q (i := 2) rfl (by kernel_rfl) (fun _ _ _ h => h) GS10 (fun _ _ => Y_field Try.underlying80 rfl fz80_1 (by decide) rfl) ?_
      refine D_q (i := 3) rfl (by kernel_rfl) (fun _ _ _ h => h) GS10 (fun _ hs => Y_load Try.underlying3 rfl rfl (by first | exact hs.cell (by assumption) (by intro h; first | omega | (dsimp only at h; omega)) | exact hs.cell (B1.at (by rfl)) (by intro h; first | omega | (dsimp only at h; omega)) | exact hs.cell (B2.at (by rfl)) (by intro h; first | omega | (dsimp only at h; omega)) | exact hs.cell (B3.at (by rfl)) (by intro h; first | omega | (dsimp only at h; omega)) | exact hs.cell (B5.at (by rfl)) (by intro h; first | omega | (dsimp only at h; omega)) | exact hs.cell (B8.at (by rfl)) (by intro h; first | omega | (dsimp only at h; omega)) | exact hs.cell (cc2.at (by rfl)) (by intro h; first | omega | (dsimp only at h; omega)))) ?_
      refine D_q (i := 4) rfl (by kernel_rfl) (fun _ _ _ h => h) GS10 (fun _ _ => Y_field Try.underlying80 rfl fz80_2 (by decide) rfl) ?_
      refine D_q (i := 5) rfl (by kernel_rfl) (fun _ _ _ h => h) GS10 (fun _ hs => Y_load Try.underlying23 rfl rfl (by first | exact hs.cell (by assumption) (by intro h; first | omega | (dsimp only at h; omega)) | exact hs.cell (B1.at (by rfl)) (by intro h; first | omega | (dsimp only at h; omega)) | exact hs.cell (B2.at (by rfl)) (by intro h; first | omega | (dsimp only at h; omega)) | exact hs.cell (B3.at (by rfl)) (by intro h; first | omega | (dsimp only at h; omega)) | exact hs.cell (B5.at (by rfl)) (by intro h; first | omega | (dsimp only at h; omega)) | exact hs.cell (B8.at (by rfl)) (by intro h; first | omega | (dsimp only at h; omega)) | exact hs.cell (cc2.at (by rfl)) (by intro h; first | omega | (dsimp only at h; omega)))) ?_
      refine D_q (i := 6) rfl (by kernel_rfl) (fun _ _ _ h => h) GS10 (fun _ _ => Y_move rfl) ?_
      refine D_2 (i := 1) (j := 7) (by kernel_rfl) ?_ ?_
      · -- operation 1 comes up
        refine E_val (i := 1) rfl (Y_load Try.underlying31 rfl rfl (B5.at (by rfl))) GS10 ?_
        refine D_1 (i := 7) (by kernel_rfl) ?_
        refine E_call rfl rfl en115 (impl_renamed_c _ _ _ _ _ o _ _ _ _ hE2 hRn (by omega) (valid_refs va hnN) (fun x hx => (hbn.2 x hx).1)) ?_  -- k3 impl.renamed
        rintro v12 w12 ⟨A12, q12, cap12, rfl, hq12, O12, g12⟩
        replace hA := hA.grow g12
        replace hB := hB.grow g12
        replace hE := hE.grow g12
        replace cc2 := cc2.grow g12
        replace hE2 := hE2.grow g12
        replace hRn := hRn.grow g12
        replace OX := OX.grow g12
        replace OC1 := OC1.grow g12
        replace OR1 := OR1.grow g12
        replace G := G.grow g12
        replace GL7 := GL7.grow g12
        replace GS10 := GS10.grow g12
        replace B1 := B1.grow g12
        replace B2 := B2.grow g12
        replace B3 := B3.grow g12
        replace B5 := B5.grow g12
        replace B8 := B8.grow g12
        have zg12 := g12.size
        replace hq12 : q12 = (h.cells[n].refs.map (nameIn o)).length := hq12.trans (List.length_map ..).symm
        subst hq12
        obtain ⟨AY, rfl⟩ : ∃ x, x = A12 := ⟨_, rfl⟩
        obtain ⟨capY, rfl⟩ : ∃ x, x = cap12 := ⟨_, rfl⟩
        have OY := O12
        refine ⟨GS10, ?_⟩
        refine D_q (i := 8) rfl (by kernel_rfl) (fun _ _ _ h => h) GS10 (fun _ _ => Y_build (cs := [_, _, _]) zr80 pc80 rfl rfl) ?_
        refine D_1 (i := 9) (by kernel_rfl) ?_
        refine E_bs1 (cs := [_, _, _]) (i := 9) rfl Try.underlying31 zr80 sz80 rfl rfl rfl ?_
        intro b13 w13 fb13 g13 B13
        refine ⟨GS10.grow g13, ?_⟩
        have lb13 := B13.lt
        replace hA := hA.grow g13
        replace hB := hB.grow g13
        replace hE := hE.grow g13
        replace cc2 := cc2.grow g13
        replace hE2 := hE2.grow g13
        replace hRn := hRn.grow g13
        replace OX := OX.grow g13
        replace OC1 := OC1.grow g13
        replace OR1 := OR1.grow g13
        replace OY := OY.grow g13
        replace G := G.grow g13
        replace GL7 := GL7.grow g13
        replace GS10 := GS10.grow g13
        replace B1 := B1.grow g13
        replace B2 := B2.grow g13
        replace B3 := B3.grow g13
        replace B5 := B5.grow g13
        replace B8 := B8.grow g13
        have zg13 := g13.size
        refine D_1 (i := 10) (by kernel_rfl) ?_
        refine E_app2 (i := 10) rfl Try.underlying31 zr80 sz80 by80 rfl rfl OC1 rfl (Src.blk B13) (by simp [Value.oneCell']) (by omega) (Pr' := fun i => wz ≤ i ∧ i ≠ b8) (fun i hi => by omega) (by omega) ?_
        intro A14 cap14 w14 X14 m14 n14
        replace OR1 := OR1.app OC1 hne n14
        replace OC1 := X14
        clear X14 n14
        replace G := G.above m14 (by intro i h; first | omega | (dsimp only at h; omega))
        replace GL7 := Mod.trans' GL7 m14 (fun _ h _ => h) (fun i h _ => by first | exact h | omega | (dsimp only at h ⊢; omega) | (subst h; rfl) | (subst h; exact ⟨by omega, rfl⟩))
        replace GS10 := Mod.trans' GS10 m14 (fun _ h _ => h) (fun i h _ => by first | exact h | omega | (dsimp only at h ⊢; omega) | (subst h; rfl) | (subst h; exact ⟨by omega, rfl⟩))
        replace hA := hA0.grow G
        replace hB := hB0.grow G
        replace hE := hE0.grow G
        replace cc2 := cc20.grow G
        replace hE2 := hE20.grow G
        replace hRn := hRn.mod m14 (by intro k hk h; first | omega | (dsimp only at hk h; omega) | (dsimp only at hk; omega))
        replace OX := OX.mod m14 (by intro k hk h; first | omega | (dsimp only at hk h; omega) | (dsimp only at hk; omega))
        replace OY := OY.mod m14 (by intro k hk h; first | omega | (dsimp only at hk h; omega) | (dsimp only at hk; omega))
        replace B1 := B1.mod m14 (by intro h; first | omega | (dsimp only at h; omega))
        replace B2 := B2.mod m14 (by intro h; first | omega | (dsimp only at h; omega))
        replace B3 := B3.mod m14 (by intro h; first | omega | (dsimp only at h; omega))
        replace B5 := B5.mod m14 (by intro h; first | omega | (dsimp only at h; omega))
        replace B8 := B8.mod m14 (by intro h; first | omega | (dsimp only at h; omega))
        have zm14 := m14.size
        refine ⟨GS10, ?_⟩
        have OR2 := OR1.more (c := ⟨true, h.cells[n].data, h.cells[n].refs.map (nameIn o)⟩) OY (fun i hi => by omega) (Pr' := fun i => wz ≤ i) (fun i hi => by omega) (fun i hi => by omega)
        replace OC1 : OW (fun i => wz ≤ i ∧ i ≠ b8) w14 80 3 A14 (q1 + 1) cap14 (flatC ((o.take (k + 1)).map (gcell h.cells o)) (rs ++ [(AY, capY)])) := by rw [hgs, ← flat_more OR1.len]; exact OC1
        rw [← hgs] at OR2
        refine D_q (i := 11) rfl (by kernel_rfl) (fun _ _ _ h => h) GS10 (fun _ _ => Y_field Try.underlying33 rfl fz33_0 (by decide) rfl) ?_
        refine D_1 (i := 12) (by kernel_rfl) ?_
        refine E_stM (pre := []) (old := [_]) (post := [_]) (vs := [_]) (i := 12) rfl sz31 rfl rfl rfl (by first | rfl | assumption) B5 rfl rfl ?_
        intro w15 m15 X15
        replace B5 := Blk.eq (ys := [_, _]) X15 rfl
        clear X15
        replace G := G.above m15 (by intro i h; first | omega | (dsimp only at h; omega))
        replace GL7 := Mod.trans' GL7 m15 (fun _ h _ => h) (fun i h _ => by first | exact h | omega | (dsimp only at h ⊢; omega) | (subst h; rfl) | (subst h; exact ⟨by omega, rfl⟩))
        replace GS10 := Mod.trans' GS10 m15 (fun _ h _ => h) (fun i h _ => by first | exact h | omega | (dsimp only at h ⊢; omega) | (subst h; rfl) | (subst h; exact ⟨by omega, rfl⟩))
        replace hA := hA0.grow G
        replace hB := hB0.grow G
        replace hE := hE0.grow G
        replace cc2 := cc20.grow G
        replace hE2 := hE20.grow G
        replace hRn := hRn.mod m15 (by intro k hk h; first | omega | (dsimp only at hk h; omega) | (dsimp only at hk; omega))
        replace OX := OX.mod m15 (by intro k hk h; first | omega | (dsimp only at hk h; omega) | (dsimp only at hk; omega))
        replace OC1 := OC1.mod m15 (by intro k hk h; first | omega | (dsimp only at hk h; omega) | (dsimp only at hk; omega))
        replace OR2 := OR2.mod m15 (by intro k hk h; first | omega | (dsimp only at hk h; omega) | (dsimp only at hk; omega))
        replace B1 := B1.mod m15 (by intro h; first | omega | (dsimp only at h; omega))
        replace B2 := B2.mod m15 (by intro h; first | omega | (dsimp only at h; omega))
        replace B3 := B3.mod m15 (by intro h; first | omega | (dsimp only at h; omega))
        replace B8 := B8.mod m15 (by intro h; first | omega | (dsimp only at h; omega))
        have zm15 := m15.size
        refine ⟨GS10, ?_⟩
        refine D_end (L' := (_ :: _ :: _ :: _ :: _ :: _ :: _ :: _ :: _ :: _ :: _ :: _ :: _ :: _ :: _ :: _ :: _ :: _ :: _ :: _ :: _ :: _ :: _ :: _ :: _ :: _ :: _ :: _ :: _ :: _ :: _ :: _ :: _ :: _ :: _ :: _ :: _ :: _ :: _ :: _ :: _ :: _ :: _ :: _ :: _ :: [])) (by kernel_rfl) rfl rfl ?_
        refine ib_n ?_
        refine th_n ?_
        refine hK8 _ _ ?_
        clear hK8 K8
        refine wp_region_lit ?_  -- region 8 l15_copying.go:7
        refine S_beg 45 rfl ?_
        refine S_val (Y_inc rfl rfl (by omega)) ?_
        refine S_val (Y_move rfl) ?_
        refine S_nil (L' := (_ :: _ :: _ :: _ :: _ :: _ :: _ :: _ :: _ :: _ :: _ :: _ :: _ :: _ :: _ :: _ :: _ :: _ :: _ :: _ :: _ :: _ :: _ :: _ :: _ :: _ :: _ :: _ :: _ :: _ :: _ :: _ :: _ :: _ :: _ :: _ :: _ :: _ :: _ :: _ :: _ :: _ :: _ :: _ :: _ :: [])) rfl rfl ?_
        refine th_n ?_
        go_roundw  -- e1 of L1
        case rel =>
          refine ⟨?_, GL7⟩
          exact ⟨k + 1, _, _, _, _, rfl, by omega, by omega, B5, OC1.weak (fun i hi => hi.1), OR2⟩
        case measure =>
          exact dec_nat (by omega)
      · -- operation 7 comes up
        refine E_call rfl rfl en115 (impl_renamed_c _ _ _ _ _ o _ _ _ _ hE2 hRn (by omega) (valid_refs va hnN) (fun x hx => (hbn.2 x hx).1)) ?_  -- k4 impl.renamed
        rintro v16 w16 ⟨A16, q16, cap16, rfl, hq16, O16, g16⟩
        replace hA := hA.grow g16
        replace hB := hB.grow g16
        replace hE := hE.grow g16
        replace cc2 := cc2.grow g16
        replace hE2 := hE2.grow g16
        replace hRn := hRn.grow g16
        replace OX := OX.grow g16
        replace OC1 := OC1.grow g16
        replace OR1 := OR1.grow g16
        replace G := G.grow g16
        replace GL7 := GL7.grow g16
        replace GS10 := GS10.grow g16
        replace B1 := B1.grow g16
        replace B2 := B2.grow g16
        replace B3 := B3.grow g16
        replace B5 := B5.grow g16
        replace B8 := B8.grow g16
        have zg16 := g16.size
        replace hq16 : q16 = (h.cells[n].refs.map (nameIn o)).length := hq16.trans (List.length_map ..).symm
        subst hq16
        obtain ⟨AY, rfl⟩ : ∃ x, x = A16 := ⟨_, rfl⟩
        obtain ⟨capY, rfl⟩ : ∃ x, x = cap16 := ⟨_, rfl⟩
        have OY := O16
        refine ⟨GS10, ?_⟩
        refine D_q (i := 8) rfl (by kernel_rfl) (fun _ _ _ h => h) GS10 (fun _ _ => Y_build (cs := [_, _, _]) zr80 pc80 rfl rfl) ?_
        refine D_2 (i := 1) (j := 9) (by kernel_rfl) ?_ ?_
        · -- operation 1 comes up
          refine E_val (i := 1) rfl (Y_load Try.underlying31 rfl rfl (B5.at (by rfl))) GS10 ?_
          refine D_1 (i := 9) (by kernel_rfl) ?_
          refine E_bs1 (cs := [_, _, _]) (i := 9) rfl Try.underlying31 zr80 sz80 rfl rfl rfl ?_
          intro b18 w18 fb18 g18 B18
          refine ⟨GS10.grow g18, ?_⟩
          have lb18 := B18.lt
          replace hA := hA.grow g18
          replace hB := hB.grow g18
          replace hE := hE.grow g18
          replace cc2 := cc2.grow g18
          replace hE2 := hE2.grow g18
          replace hRn := hRn.grow g18
          replace OX := OX.grow g18
          replace OC1 := OC1.grow g18
          replace OR1 := OR1.grow g18
          replace OY := OY.grow g18
          replace G := G.grow g18
          replace GL7 := GL7.grow g18
          replace GS10 := GS10.grow g18
          replace B1 := B1.grow g18
          replace B2 := B2.grow g18
          replace B3 := B3.grow g18
          replace B5 := B5.grow g18
          replace B8 := B8.grow g18
          have zg18 := g18.size
          refine D_1 (i := 10) (by kernel_rfl) ?_
          refine E_app2 (i := 10) rfl Try.underlying31 zr80 sz80 by80 rfl rfl OC1 rfl (Src.blk B18) (by simp [Value.oneCell']) (by omega) (Pr' := fun i => wz ≤ i ∧ i ≠ b8) (fun i hi => by omega) (by omega) ?_
          intro A19 cap19 w19 X19 m19 n19
          replace OR1 := OR1.app OC1 hne n19
          replace OC1 := X19
          clear X19 n19
          replace G := G.above m19 (by intro i h; first | omega | (dsimp only at h; omega))
          replace GL7 := Mod.trans' GL7 m19 (fun _ h _ => h) (fun i h _ => by first | exact h | omega | (dsimp only at h ⊢; omega) | (subst h; rfl) | (subst h; exact ⟨by omega, rfl⟩))
          replace GS10 := Mod.trans' GS10 m19 (fun _ h _ => h) (fun i h _ => by first | exact h | omega | (dsimp only at h ⊢; omega) | (subst h; rfl) | (subst h; exact ⟨by omega, rfl⟩))
          replace hA := hA0.grow G
          replace hB := hB0.grow G
          replace hE := hE0.grow G
          replace cc2 := cc20.grow G
          replace hE2 := hE20.grow G
          replace hRn := hRn.mod m19 (by intro k hk h; first | omega | (dsimp only at hk h; omega) | (dsimp only at hk; omega))
          replace OX := OX.mod m19 (by intro k hk h; first | omega | (dsimp only at hk h; omega) | (dsimp only at hk; omega))
          replace OY := OY.mod m19 (by intro k hk h; first | omega | (dsimp only at hk h; omega) | (dsimp only at hk; omega))
          replace B1 := B1.mod m19 (by intro h; first | omega | (dsimp only at h; omega))
          replace B2 := B2.mod m19 (by intro h; first | omega | (dsimp only at h; omega))
          replace B3 := B3.mod m19 (by intro h; first | omega | (dsimp only at h; omega))
          replace B5 := B5.mod m19 (by intro h; first | omega | (dsimp only at h; omega))
          replace B8 := B8.mod m19 (by intro h; first | omega | (dsimp only at h; omega))
          have zm19 := m19.size
          refine ⟨GS10, ?_⟩
          have OR2 := OR1.more (c := ⟨true, h.cells[n].data, h.cells[n].refs.map (nameIn o)⟩) OY (fun i hi => by omega) (Pr' := fun i => wz ≤ i) (fun i hi => by omega) (fun i hi => by omega)
          replace OC1 : OW (fun i => wz ≤ i ∧ i ≠ b8) w19 80 3 A19 (q1 + 1) cap19 (flatC ((o.take (k + 1)).map (gcell h.cells o)) (rs ++ [(AY, capY)])) := by rw [hgs, ← flat_more OR1.len]; exact OC1
          rw [← hgs] at OR2
          refine D_q (i := 11) rfl (by kernel_rfl) (fun _ _ _ h => h) GS10 (fun _ _ => Y_field Try.underlying33 rfl fz33_0 (by decide) rfl) ?_
          refine D_1 (i := 12) (by kernel_rfl) ?_
          refine E_stM (pre := []) (old := [_]) (post := [_]) (vs := [_]) (i := 12) rfl sz31 rfl rfl rfl (by first | rfl | assumption) B5 rfl rfl ?_
          intro w20 m20 X20
          replace B5 := Blk.eq (ys := [_, _]) X20 rfl
          clear X20
          replace G := G.above m20 (by intro i h; first | omega | (dsimp only at h; omega))
          replace GL7 := Mod.trans' GL7 m20 (fun _ h _ => h) (fun i h _ => by first | exact h | omega | (dsimp only at h ⊢; omega) | (subst h; rfl) | (subst h; exact ⟨by omega, rfl⟩))
          replace GS10 := Mod.trans' GS10 m20 (fun _ h _ => h) (fun i h _ => by first | exact h | omega | (dsimp only at h ⊢; omega) | (subst h; rfl) | (subst h; exact ⟨by omega, rfl⟩))
          replace hA := hA0.grow G
          replace hB := hB0.grow G
          replace hE := hE0.grow G
          replace cc2 := cc20.grow G
          replace hE2 := hE20.grow G
          replace hRn := hRn.mod m20 (by intro k hk h; first | omega | (dsimp only at hk h; omega) | (dsimp only at hk; omega))
          replace OX := OX.mod m20 (by intro k hk h; first | omega | (dsimp only at hk h; omega) | (dsimp only at hk; omega))
          replace OC1 := OC1.mod m20 (by intro k hk h; first | omega | (dsimp only at hk h; omega) | (dsimp only at hk; omega))
          replace OR2 := OR2.mod m20 (by intro k hk h; first | omega | (dsimp only at hk h; omega) | (dsimp only at hk; omega))
          replace B1 := B1.mod m20 (by intro h; first | omega | (dsimp only at h; omega))
          replace B2 := B2.mod m20 (by intro h; first | omega | (dsimp only at h; omega))
          replace B3 := B3.mod m20 (by intro h; first | omega | (dsimp only at h; omega))
          replace B8 := B8.mod m20 (by intro h; first | omega | (dsimp only at h; omega))
          have zm20 := m20.size
          refine ⟨GS10, ?_⟩
          refine D_end (L' := (_ :: _ :: _ :: _ :: _ :: _ :: _ :: _ :: _ :: _ :: _ :: _ :: _ :: _ :: _ :: _ :: _ :: _ :: _ :: _ :: _ :: _ :: _ :: _ :: _ :: _ :: _ :: _ :: _ :: _ :: _ :: _ :: _ :: _ :: _ :: _ :: _ :: _ :: _ :: _ :: _ :: _ :: _ :: _ :: _ :: [])) (by kernel_rfl) rfl rfl ?_
          refine ib_n ?_
          refine th_n ?_
          refine hK8 _ _ ?_
          clear hK8 K8
          refine wp_region_lit ?_  -- region 8 l15_copying.go:7
          refine S_beg 45 rfl ?_
          refine S_val (Y_inc rfl rfl (by omega)) ?_
          refine S_val (Y_move rfl) ?_
          refine S_nil (L' := (_ :: _ :: _ :: _ :: _ :: _ :: _ :: _ :: _ :: _ :: _ :: _ :: _ :: _ :: _ :: _ :: _ :: _ :: _ :: _ :: _ :: _ :: _ :: _ :: _ :: _ :: _ :: _ :: _ :: _ :: _ :: _ :: _ :: _ :: _ :: _ :: _ :: _ :: _ :: _ :: _ :: _ :: _ :: _ :: _ :: [])) rfl rfl ?_
          refine th_n ?_
          go_roundw  -- e2 of L1
          case rel =>
            refine ⟨?_, GL7⟩
            exact ⟨k + 1, _, _, _, _, rfl, by omega, by omega, B5, OC1.weak (fun i hi => hi.1), OR2⟩
          case measure =>
            exact dec_nat (by omega)
        · -- operation 9 comes up
          refine E_bs1 (cs := [_, _, _]) (i := 9) rfl Try.underlying31 zr80 sz80 rfl rfl rfl ?_
          intro b21 w21 fb21 g21 B21
          refine ⟨GS10.grow g21, ?_⟩
          have lb21 := B21.lt
          replace hA := hA.grow g21
          replace hB := hB.grow g21
          replace hE := hE.grow g21
          replace cc2 := cc2.grow g21
          replace hE2 := hE2.grow g21
          replace hRn := hRn.grow g21
          replace OX := OX.grow g21
          replace OC1 := OC1.grow g21
          replace OR1 := OR1.grow g21
          replace OY := OY.grow g21
          replace G := G.grow g21
          replace GL7 := GL7.grow g21
          replace GS10 := GS10.grow g21
          replace B1 := B1.grow g21
          replace B2 := B2.grow g21
          replace B3 := B3.grow g21
          replace B5 := B5.grow g21
          replace B8 := B8.grow g21
          have zg21 := g21.size
          refine D_1 (i := 1) (by kernel_rfl) ?_
          refine E_val (i := 1) rfl (Y_load Try.underlying31 rfl rfl (B5.at (by rfl))) GS10 ?_
          refine D_1 (i := 10) (by kernel_rfl) ?_
          refine E_app2 (i := 10) rfl Try.underlying31 zr80 sz80 by80 rfl rfl OC1 rfl (Src.blk B21) (by simp [Value.oneCell']) (by omega) (Pr' := fun i => wz ≤ i ∧ i ≠ b8) (fun i hi => by omega) (by omega) ?_
          intro A23 cap23 w23 X23 m23 n23
          replace OR1 := OR1.app OC1 hne n23
          replace OC1 := X23
          clear X23 n23
          replace G := G.above m23 (by intro i h; first | omega | (dsimp only at h; omega))
          replace GL7 := Mod.trans' GL7 m23 (fun _ h _ => h) (fun i h _ => by first | exact h | omega | (dsimp only at h ⊢; omega) | (subst h; rfl) | (subst h; exact ⟨by omega, rfl⟩))
          replace GS10 := Mod.trans' GS10 m23 (fun _ h _ => h) (fun i h _ => by first | exact h | omega | (dsimp only at h ⊢; omega) | (subst h; rfl) | (subst h; exact ⟨by omega, rfl⟩))
          replace hA := hA0.grow G
          replace hB := hB0.grow G
          replace hE := hE0.grow G
          replace cc2 := cc20.grow G
          replace hE2 := hE20.grow G
          replace hRn := hRn.mod m23 (by intro k hk h; first | omega | (dsimp only at hk h; omega) | (dsimp only at hk; omega))
          replace OX := OX.mod m23 (by intro k hk h; first | omega | (dsimp only at hk h; omega) | (dsimp only at hk; omega))
          replace OY := OY.mod m23 (by intro k hk h; first | omega | (dsimp only at hk h; omega) | (dsimp only at hk; omega))
          replace B1 := B1.mod m23 (by intro h; first | omega | (dsimp only at h; omega))
          replace B2 := B2.mod m23 (by intro h; first | omega | (dsimp only at h; omega))
          replace B3 := B3.mod m23 (by intro h; first | omega | (dsimp only at h; omega))
          replace B5 := B5.mod m23 (by intro h; first | omega | (dsimp only at h; omega))
          replace B8 := B8.mod m23 (by intro h; first | omega | (dsimp only at h; omega))
          have zm23 := m23.size
          refine ⟨GS10, ?_⟩
          have OR2 := OR1.more (c := ⟨true, h.cells[n].data, h.cells[n].refs.map (nameIn o)⟩) OY (fun i hi => by omega) (Pr' := fun i => wz ≤ i) (fun i hi => by omega) (fun i hi => by omega)
          replace OC1 : OW (fun i => wz ≤ i ∧ i ≠ b8) w23 80 3 A23 (q1 + 1) cap23 (flatC ((o.take (k + 1)).map (gcell h.cells o)) (rs ++ [(AY, capY)])) := by rw [hgs, ← flat_more OR1.len]; exact OC1
          rw [← hgs] at OR2
          refine D_q (i := 11) rfl (by kernel_rfl) (fun _ _ _ h => h) GS10 (fun _ _ => Y_field Try.underlying33 rfl fz33_0 (by decide) rfl) ?_
          refine D_1 (i := 12) (by kernel_rfl) ?_
          refine E_stM (pre := []) (old := [_]) (post := [_]) (vs := [_]) (i := 12) rfl sz31 rfl rfl rfl (by first | rfl | assumption) B5 rfl rfl ?_
          intro w24 m24 X24
          replace B5 := Blk.eq (ys := [_, _]) X24 rfl
          clear X24
          replace G := G.above m24 (by intro i h; first | omega | (dsimp only at h; omega))
          replace GL7 := Mod.trans' GL7 m24 (fun _ h _ => h) (fun i h _ => by first | exact h | omega | (dsimp only at h ⊢; omega) | (subst h; rfl) | (subst h; exact ⟨by omega, rfl⟩))
          replace GS10 := Mod.trans' GS10 m24 (fun _ h _ => h) (fun i h _ => by first | exact h | omega | (dsimp only at h ⊢; omega) | (subst h; rfl) | (subst h; exact ⟨by omega, rfl⟩))
          replace hA := hA0.grow G
          replace hB := hB0.grow G
          replace hE := hE0.grow G
          replace cc2 := cc20.grow G
          replace hE2 := hE20.grow G
          replace hRn := hRn.mod m24 (by intro k hk h; first | omega | (dsimp only at hk h; omega) | (dsimp only at hk; omega))
          replace OX := OX.mod m24 (by intro k hk h; first | omega | (dsimp only at hk h; omega) | (dsimp only at hk; omega))
          replace OC1 := OC1.mod m24 (by intro k hk h; first | omega | (dsimp only at hk h; omega) | (dsimp only at hk; omega))
          replace OR2 := OR2.mod m24 (by intro k hk h; first | omega | (dsimp only at hk h; omega) | (dsimp only at hk; omega))
          replace B1 := B1.mod m24 (by intro h; first | omega | (dsimp only at h; omega))
          replace B2 := B2.mod m24 (by intro h; first | omega | (dsimp only at h; omega))
          replace B3 := B3.mod m24 (by intro h; first | omega | (dsimp only at h; omega))
          replace B8 := B8.mod m24 (by intro h; first | omega | (dsimp only at h; omega))
          have zm24 := m24.size
          refine ⟨GS10, ?_⟩
          refine D_end (L' := (_ :: _ :: _ :: _ :: _ :: _ :: _ :: _ :: _ :: _ :: _ :: _ :: _ :: _ :: _ :: _ :: _ :: _ :: _ :: _ :: _ :: _ :: _ :: _ :: _ :: _ :: _ :: _ :: _ :: _ :: _ :: _ :: _ :: _ :: _ :: _ :: _ :: _ :: _ :: _ :: _ :: _ :: _ :: _ :: _ :: [])) (by kernel_rfl) rfl rfl ?_
          refine ib_n ?_
          refine th_n ?_
          refine hK8 _ _ ?_
          clear hK8 K8
          refine wp_region_lit ?_  -- region 8 l15_copying.go:7
          refine S_beg 45 rfl ?_
          refine S_val (Y_inc rfl rfl (by omega)) ?_
          refine S_val (Y_move rfl) ?_
          refine S_nil (L' := (_ :: _ :: _ :: _ :: _ :: _ :: _ :: _ :: _ :: _ :: _ :: _ :: _ :: _ :: _ :: _ :: _ :: _ :: _ :: _ :: _ :: _ :: _ :: _ :: _ :: _ :: _ :: _ :: _ :: _ :: _ :: _ :: _ :: _ :: _ :: _ :: _ :: _ :: _ :: _ :: _ :: _ :: _ :: _ :: _ :: [])) rfl rfl ?_
          refine th_n ?_
          go_roundw  -- e3 of L1
          case rel =>
            refine ⟨?_, GL7⟩
            exact ⟨k + 1, _, _, _, _, rfl, by omega, by omega, B5, OC1.weak (fun i hi => hi.1), OR2⟩
          case measure =>
            exact dec_nat (by omega)
    · -- c1F
      first | with_reducible (replace hb1 := nb_nt hb1) | with_reducible (replace hb1 := nb_nf hb1) | with_reducible (replace hb1 := nb_tt hb1) | with_reducible (replace hb1 := nb_tf hb1) | with_reducible (replace hb1 := nb_bt hb1) | with_reducible (replace hb1 := nb_bf hb1) | skip
      refine wp_exit ?_
      refine th_x ?_
      clear GL7
      refine th_x ?_
      refine ib_e ?_
      refine th_n ?_
      refine hK4 _ _ ?_
      clear hK7 K7 hK4 K4
      refine wp_seq_k fun K11 hK11 => ?_
      refine wp_region_lit ?_  -- region 9 l15_copying.go:11
      refine S_beg 45 rfl ?_
      refine S_val (Y_loadS Try.underlying33 rfl sz33 rfl (by first | assumption | exact B1.row (by rfl) | exact B2.row (by rfl) | exact B3.row (by rfl) | exact B5.row (by rfl))) ?_  -- l8
      refine S_stM (pre := []) (old := [_, _]) (post := []) (vs := [_, _]) sz33 rfl rfl rfl (by first | rfl | assumption) B2 rfl rfl ?_
      intro w25 m25 X25
      replace B2 := Blk.eq (ys := [_, _]) X25 rfl
      clear X25
      replace G := G.above m25 (by intro i h; first | omega | (dsimp only at h; omega))
      replace hA := hA0.grow G
      replace hB := hB0.grow G
      replace hE := hE0.grow G
      replace hRn := hRn.mod m25 (by intro k hk h; first | omega | (dsimp only at hk h; omega) | (dsimp only at hk; omega))
      replace OX := OX.mod m25 (by intro k hk h; first | omega | (dsimp only at hk h; omega) | (dsimp only at hk; omega))
      replace OC1 := OC1.mod m25 (by intro k hk h; first | omega | (dsimp only at hk h; omega) | (dsimp only at hk; omega))
      replace OR1 := OR1.mod m25 (by intro k hk h; first | omega | (dsimp only at hk h; omega) | (dsimp only at hk; omega))
      replace B1 := B1.mod m25 (by intro h; first | omega | (dsimp only at h; omega))
      replace B3 := B3.mod m25 (by intro h; first | omega | (dsimp only at h; omega))
      replace B5 := B5.mod m25 (by intro h; first | omega | (dsimp only at h; omega))
      have zm25 := m25.size
      refine S_nil (L' := (_ :: _ :: _ :: _ :: _ :: _ :: _ :: _ :: _ :: _ :: _ :: _ :: _ :: _ :: _ :: _ :: _ :: _ :: _ :: _ :: _ :: _ :: _ :: _ :: _ :: _ :: _ :: _ :: _ :: _ :: _ :: _ :: _ :: _ :: _ :: _ :: _ :: _ :: _ :: _ :: _ :: _ :: _ :: _ :: _ :: [])) rfl rfl ?_
      refine th_n ?_
      refine hK11 _ _ ?_
      clear hK11 K11
      refine wp_ret ?_
      refine ret_rc (cs := [_, _]) Try.underlying33 rfl sz33 rfl rfl (B2.row (by rfl)) ?_  -- r1
      rw [List.take_of_length_le (by omega)] at hlk OC1 OR1
      rw [hq1, ← hlk] at OC1
      exact ⟨_, _, _, _, _, _, rs, rfl, by show q1 = (o.map (gcell h.cells o)).length; omega, by simp [gathH], OH.of_parts (h := gathH h o) (OC.grown OC1 OR1 (fun _ h => h) (fun _ h => h)) OX.oi (fun k b h1 h2 h3 => by omega) (fun k hk => by omega) (fun k hk => by omega), G⟩

set_option maxHeartbeats 400000 in
set_option maxRecDepth 20000 in
theorem spec_l15Move_c (Pr PF : Nat → Prop) (A B E : Option Addr) (h : LH) (o : List Int) (c d e : Nat) (w : World) (hA : RC Pr w A h.cells) (hB : R1 Pr w B (ints h.roots)) (hE : R1 PF w E (ints o)) (hz : hsize h ≤ 1048576) (va : Valid h) (hbn : Bnd h.cells.length o) :
    Calls Try.prog 81 #[.agg #[.slice A h.cells.length c, .slice B h.roots.length d], .slice E o.length e] w (Ret fun v w' => ∃ A1 B1 n1 c1 n2 c2 rs, v = .agg #[.slice A1 n1 c1, .slice B1 n2 c2] ∧ n1 = (gathH h o).cells.length ∧ n2 = (gathH h o).roots.length ∧ OH (fun i => w.heap.size ≤ i) w' 80 3 A1 B1 (gathH h o) rs ∧ Grow w w') := by
  have hz1 := hsize_cells h
  have hz2 := hsize_roots h
  have hne : (80 : TypeId) ≠ 3 := by decide
  have hol := hbn.len
  have h40 := va.le
  have hr4 := va.roots4
  have hAl := hA.below
  have hBl := hB.below
  have hEl := hE.below
  refine enter Try.func81 rfl Try.ntmps81 (L := (_ :: _ :: _ :: _ :: _ :: _ :: _ :: _ :: _ :: _ :: _ :: _ :: _ :: _ :: _ :: _ :: _ :: _ :: _ :: _ :: _ :: _ :: _ :: _ :: _ :: _ :: _ :: _ :: _ :: _ :: _ :: _ :: _ :: _ :: _ :: _ :: _ :: _ :: _ :: _ :: _ :: _ :: _ :: _ :: _ :: _ :: _ :: _ :: _ :: _ :: _ :: _ :: _ :: _ :: _ :: _ :: _ :: _ :: _ :: _ :: _ :: _ :: _ :: _ :: _ :: _ :: _ :: _ :: _ :: _ :: _ :: _ :: _ :: [])) rfl ?_
  have G := Mod.refl No w
  have hAl0 := hAl
  have hBl0 := hBl
  have hEl0 := hEl
  refine wp_seq_k fun K1 hK1 => ?_
  refine wp_region_lit ?_  -- region 0 l15_copying.go:14
  refine S_beg 73 rfl ?_
  refine S_box (cs := [_, _]) rfl rfl ?_
  intro b1 w1 fb1 g1 B1
  have lb1 := B1.lt
  replace hAl := hAl.grow g1
  replace hBl := hBl.grow g1
  replace hEl := hEl.grow g1
  replace G := G.grow g1
  have zg1 := g1.size
  refine S_alloc (cs := [_, _]) zr33 rfl ?_
  intro b2 w2 fb2 g2 B2
  have lb2 := B2.lt
  replace hAl := hAl.grow g2
  replace hBl := hBl.grow g2
  replace hEl := hEl.grow g2
  replace G := G.grow g2
  replace B1 := B1.grow g2
  have zg2 := g2.size
  refine S_nil (L' := (_ :: _ :: _ :: _ :: _ :: _ :: _ :: _ :: _ :: _ :: _ :: _ :: _ :: _ :: _ :: _ :: _ :: _ :: _ :: _ :: _ :: _ :: _ :: _ :: _ :: _ :: _ :: _ :: _ :: _ :: _ :: _ :: _ :: _ :: _ :: _ :: _ :: _ :: _ :: _ :: _ :: _ :: _ :: _ :: _ :: _ :: _ :: _ :: _ :: _ :: _ :: _ :: _ :: _ :: _ :: _ :: _ :: _ :: _ :: _ :: _ :: _ :: _ :: _ :: _ :: _ :: _ :: _ :: _ :: _ :: _ :: _ :: _ :: [])) rfl rfl ?_
  refine th_n ?_
  refine hK1 _ _ ?_
  clear hK1 K1
  refine wp_seq_k fun K2 hK2 => ?_
  refine wp_region_lit ?_  -- region 1 l15_copying.go:15
  refine S_beg 73 rfl ?_
  refine S_val (Y_build (cs := [_, _]) zr33 pc33 rfl rfl) ?_
  refine S_alloc (cs := [_, _]) zr33 rfl ?_
  intro b3 w3 fb3 g3 B3
  have lb3 := B3.lt
  replace hAl := hAl.grow g3
  replace hBl := hBl.grow g3
  replace hEl := hEl.grow g3
  replace G := G.grow g3
  replace B1 := B1.grow g3
  replace B2 := B2.grow g3
  have zg3 := g3.size
  refine S_stM (pre := []) (old := [_, _]) (post := []) (vs := [_, _]) sz33 rfl rfl rfl (by first | rfl | assumption) B3 rfl rfl ?_
  intro w4 m4 X4
  replace B3 := Blk.eq (ys := [_, _]) X4 rfl
  clear X4
  replace G := G.above m4 (by intro i h; first | omega | (dsimp only at h; omega))
  replace hAl := hAl0.grow G
  replace hBl := hBl0.grow G
  replace hEl := hEl0.grow G
  replace B1 := B1.mod m4 (by intro h; first | omega | (dsimp only at h; omega))
  replace B2 := B2.mod m4 (by intro h; first | omega | (dsimp only at h; omega))
  have zm4 := m4.size
  refine S_nil (L' := (_ :: _ :: _ :: _ :: _ :: _ :: _ :: _ :: _ :: _ :: _ :: _ :: _ :: _ :: _ :: _ :: _ :: _ :: _ :: _ :: _ :: _ :: _ :: _ :: _ :: _ :: _ :: _ :: _ :: _ :: _ :: _ :: _ :: _ :: _ :: _ :: _ :: _ :: _ :: _ :: _ :: _ :: _ :: _ :: _ :: _ :: _ :: _ :: _ :: _ :: _ :: _ :: _ :: _ :: _ :: _ :: _ :: _ :: _ :: _ :: _ :: _ :: _ :: _ :: _ :: _ :: _ :: _ :: _ :: _ :: _ :: _ :: _ :: [])) rfl rfl ?_
  refine th_n ?_
  refine hK2 _ _ ?_
  clear hK2 K2
  refine wp_seq_k fun K3 hK3 => ?_
  refine wp_seq_k fun K4 hK4 => ?_
  refine wp_region_lit ?_  -- region 2 l15_copying.go:16
  refine S_beg 73 rfl ?_
  refine S_val (Y_assign rfl) ?_
  refine S_nil (L' := (_ :: _ :: _ :: _ :: _ :: _ :: _ :: _ :: _ :: _ :: _ :: _ :: _ :: _ :: _ :: _ :: _ :: _ :: _ :: _ :: _ :: _ :: _ :: _ :: _ :: _ :: _ :: _ :: _ :: _ :: _ :: _ :: _ :: _ :: _ :: _ :: _ :: _ :: _ :: _ :: _ :: _ :: _ :: _ :: _ :: _ :: _ :: _ :: _ :: _ :: _ :: _ :: _ :: _ :: _ :: _ :: _ :: _ :: _ :: _ :: _ :: _ :: _ :: _ :: _ :: _ :: _ :: _ :: _ :: _ :: _ :: _ :: _ :: [])) rfl rfl ?_
  refine th_n ?_
  refine hK4 _ _ ?_
  clear hK4 K4
  refine wp_block ?_
  obtain ⟨wz, hwz⟩ : ∃ x, x = w4.heap.size := ⟨_, rfl⟩
  have OC1 : OW (fun i => wz ≤ i) w4 80 3 none 0 0 (flatC ([] : List LC) []) := OW.nil _ _ _ _
  have OR1 : ORs (fun i => wz ≤ i) w4 3 ([] : List LC) [] := ORs.nil _ _ _
  go_loopw [6] (fun u6 wr => (∃ (k q cap : Nat) (A1 : Option Addr) (rs : List (Option Addr × Nat)), u6 = .int .i64 k ∧ k ≤ o.length ∧ q = k ∧ Blk wr b3 33 [.slice A1 q cap, .slice none 0 0].toArray ∧ OW (fun i => wz ≤ i) wr 80 3 A1 q cap (flatC ((o.take k).map (gcell h.cells o)) rs) ∧ ORs (fun i => wz ≤ i) wr 3 ((o.take k).map (gcell h.cells o)) rs) ∧ Mod (fun i => i = b3 ∨ wz ≤ i) w4 wr) (fun u6 wr => o.length - (intOf u6).toNat)  -- L1
  case atStart =>
    refine ⟨?_, Mod.refl _ _⟩
    exact ⟨0, 0, 0, none, [], rfl, by omega, rfl, B3, OC1, OR1⟩
  case round =>
    obtain ⟨w5, rfl⟩ : ∃ x : World, x = wr := ⟨_, rfl⟩
    obtain ⟨hrel, g5⟩ := hrel
    clear B3
    clear OC1
    clear OR1
    replace G := G.above g5 (by intro i h; first | omega | (dsimp only at h; omega))
    replace hAl := hAl0.grow G
    replace hBl := hBl0.grow G
    replace hEl := hEl0.grow G
    replace B1 := B1.mod g5 (by intro h; first | omega | (dsimp only at h; omega))
    replace B2 := B2.mod g5 (by intro h; first | omega | (dsimp only at h; omega))
    have zg5 := g5.size
    obtain ⟨k, q1, cap1, A1, rs, rfl, hk, hq1, B3, OC1, OR1⟩ := hrel
    have hlk : ((o.take k).map (gcell h.cells o)).length = k := by simp; omega
    have GL5 := g5
    refine wp_seq_k fun K5 hK5 => ?_
    refine wp_seq_k fun K6 hK6 => ?_
    refine wp_region_lit ?_  -- region 3 l15_copying.go:16
    refine S_beg 73 rfl ?_
    refine S_val (Y_move rfl) ?_
    refine S_val (Y_move rfl) ?_
    refine S_val (Y_len Try.underlying23 rfl) ?_
    refine S_val (Y_lss rfl rfl) ?_
    refine S_nil (L' := (_ :: _ :: _ :: _ :: _ :: _ :: _ :: _ :: _ :: _ :: _ :: _ :: _ :: _ :: _ :: _ :: _ :: _ :: _ :: _ :: _ :: _ :: _ :: _ :: _ :: _ :: _ :: _ :: _ :: _ :: _ :: _ :: _ :: _ :: _ :: _ :: _ :: _ :: _ :: _ :: _ :: _ :: _ :: _ :: _ :: _ :: _ :: _ :: _ :: _ :: _ :: _ :: _ :: _ :: _ :: _ :: _ :: _ :: _ :: _ :: _ :: _ :: _ :: _ :: _ :: _ :: _ :: _ :: _ :: _ :: _ :: _ :: _ :: [])) rfl rfl ?_
    refine th_n ?_
    refine hK6 _ _ ?_
    clear hK6 K6
    refine S_if rfl (fun hb1 => ?_) (fun hb1 => ?_)  -- c1
    · -- c1T
      first | with_reducible (replace hb1 := nb_nt hb1) | with_reducible (replace hb1 := nb_nf hb1) | with_reducible (replace hb1 := nb_tt hb1) | with_reducible (replace hb1 := nb_tf hb1) | with_reducible (replace hb1 := nb_bt hb1) | with_reducible (replace hb1 := nb_bf hb1) | skip
      have hk1 : k < o.length := by omega
      obtain ⟨n, hn, hnN, hng⟩ := bnd_at hbn hk1
      obtain ⟨g2, o2, E2, d2, rfl, hp2, cc20, hE20⟩ := hAl0.cell hnN
      have cc2 := cc20.grow G
      have hE2 := hE20.grow G
      have hr3 := va.refs3 hnN
      have hgs := gath_succ (h := h) hk1 hn hnN
      replace OC1 := OC1.lt
      replace OR1 := OR1.lt
      refine wp_skip ?_
      refine th_n ?_
      refine hK5 _ _ ?_
      clear hK5 K5
      refine wp_seq_k fun K7 hK7 => ?_
      refine wp_block ?_
      refine wp_seq_k fun K8 hK8 => ?_
      refine D_start 10 73 (fun w => Mod (No) w) follows rfl rfl ?_  -- d1 region 5 l15_copying.go:17
      intro w6 g6
      replace hAl := hAl.grow g6
      replace hBl := hBl.grow g6
      replace hEl := hEl.grow g6
      replace cc2 := cc2.grow g6
      replace hE2 := hE2.grow g6
      replace OC1 := OC1.grow g6
      replace OR1 := OR1.grow g6
      replace G := G.grow g6
      replace GL5 := GL5.grow g6
      replace B1 := B1.grow g6
      replace B2 := B2.grow g6
      replace B3 := B3.grow g6
      have zg6 := g6.size
      have GS6 := Mod.refl (No) w6
      obtain ⟨g4, o4, rfl, hp4, hc4⟩ := hEl.int hk1
      rw [hn] at hc4
      have B1d6 := B1
      have B2d6 := B2
      have B3d6 := B3
      refine D_q (i := 0) rfl (by kernel_rfl) (fun _ _ _ h => h) GS6 (fun _ _ => Y_field Try.underlying33 rfl fz33_0 (by decide) rfl) ?_
      refine D_q (i := 1) rfl (by kernel_rfl) (fun _ _ _ h => h) GS6 (fun _ hs => Y_load Try.underlying31 rfl rfl (by first | exact hs.cell0 (by assumption) | exact hs.cell0 (B1.at (by rfl)) | exact hs.cell0 (B2.at (by rfl)) | exact hs.cell0 (B3.at (by rfl)) | exact hs.cell0 (B1d6.at (by rfl)) | exact hs.cell0 (B2d6.at (by rfl)) | exact hs.cell0 (B3d6.at (by rfl)) | exact hs.cell0 (cc2.at (by rfl)))) ?_
      refine D_q (i := 2) rfl (by kernel_rfl) (fun _ _ _ h => h) GS6 (fun _ _ => Y_move rfl) ?_
      refine D_q (i := 3) rfl (by kernel_rfl) (fun _ _ _ h => h) GS6 (fun _ _ => Y_move rfl) ?_
      refine D_q (i := 4) rfl (by kernel_rfl) (fun _ _ _ h => h) GS6 (fun _ _ => Y_index Try.underlying23 sz3 rfl rfl (by first | assumption | omega)) ?_
      refine D_q (i := 5) rfl (by kernel_rfl) (fun _ _ _ h => h) GS6 (fun _ hs => Y_load Try.underlying3 rfl rfl (by first | exact hs.cell0 (by assumption) | exact hs.cell0 (B1.at (by rfl)) | exact hs.cell0 (B2.at (by rfl)) | exact hs.cell0 (B3.at (by rfl)) | exact hs.cell0 (B1d6.at (by rfl)) | exact hs.cell0 (B2d6.at (by rfl)) | exact hs.cell0 (B3d6.at (by rfl)) | exact hs.cell0 (cc2.at (by rfl)))) ?_
      refine D_q (i := 6) rfl (by kernel_rfl) (fun _ _ _ h => h) GS6 (fun _ _ => Y_index Try.underlying31 sz80 rfl rfl (by first | assumption | omega)) ?_
      refine D_q (i := 7) rfl (by kernel_rfl) (fun _ _ _ h => h) GS6 (fun _ hs => Y_loadS Try.underlying80 rfl sz80 rfl (by first | exact hs.cells0 (by assumption) | exact hs.cells0 (B1.row (by rfl)) | exact hs.cells0 (B2.row (by rfl)) | exact hs.cells0 (B3.row (by rfl)) | exact hs.cells0 (B1d6.row (by rfl)) | exact hs.cells0 (B2d6.row (by rfl)) | exact hs.cells0 (B3d6.row (by rfl)))) ?_
      refine D_1 (i := 8) (by kernel_rfl) ?_
      refine E_alloc (cs := [_, _, _]) rfl zr80 rfl (fun b7 w7 fb7 g7 B7 => ⟨GS6.grow g7, ?_⟩)
      have lb7 := B7.lt
      replace hAl := hAl.grow g7
      replace hBl := hBl.grow g7
      replace hEl := hEl.grow g7
      replace cc2 := cc2.grow g7
      replace hE2 := hE2.grow g7
      replace OC1 := OC1.grow g7
      replace OR1 := OR1.grow g7
      replace G := G.grow g7
      replace GL5 := GL5.grow g7
      replace GS6 := GS6.grow g7
      replace B1 := B1.grow g7
      replace B2 := B2.grow g7
      replace B3 := B3.grow g7
      have zg7 := g7.size
      refine D_1 (i := 9) (by kernel_rfl) ?_
      refine E_stM (pre := []) (old := [_, _, _]) (post := []) (vs := [_, _, _]) (i := 9) rfl sz80 rfl rfl rfl (by first | rfl | assumption) B7 rfl rfl ?_
      intro w8 m8 X8
      replace B7 := Blk.eq (ys := [_, _, _]) X8 rfl
      clear X8
      replace G := G.above m8 (by intro i h; first | omega | (dsimp only at h; omega))
      replace GL5 := GL5.above m8 (by intro i h; first | omega | (dsimp only at h; omega))
      replace GS6 := GS6.above m8 (by intro i h; first | omega | (dsimp only at h; omega))
      replace hAl := hAl0.grow G
      replace hBl := hBl0.grow G
      replace hEl := hEl0.grow G
      replace cc2 := cc20.grow G
      replace hE2 := hE20.grow G
      replace OC1 := OC1.mod m8 (by intro k hk h; first | omega | (dsimp only at hk h; omega) | (dsimp only at hk; omega))
      replace OR1 := OR1.mod m8 (by intro k hk h; first | omega | (dsimp only at hk h; omega) | (dsimp only at hk; omega))
      replace B1 := B1.mod m8 (by intro h; first | omega | (dsimp only at h; omega))
      replace B2 := B2.mod m8 (by intro h; first | omega | (dsimp only at h; omega))
      replace B3 := B3.mod m8 (by intro h; first | omega | (dsimp only at h; omega))
      have zm8 := m8.size
      refine ⟨GS6, ?_⟩
      refine D_end (L' := (_ :: _ :: _ :: _ :: _ :: _ :: _ :: _ :: _ :: _ :: _ :: _ :: _ :: _ :: _ :: _ :: _ :: _ :: _ :: _ :: _ :: _ :: _ :: _ :: _ :: _ :: _ :: _ :: _ :: _ :: _ :: _ :: _ :: _ :: _ :: _ :: _ :: _ :: _ :: _ :: _ :: _ :: _ :: _ :: _ :: _ :: _ :: _ :: _ :: _ :: _ :: _ :: _ :: _ :: _ :: _ :: _ :: _ :: _ :: _ :: _ :: _ :: _ :: _ :: _ :: _ :: _ :: _ :: _ :: _ :: _ :: _ :: _ :: [])) (by kernel_rfl) rfl rfl ?_
      refine th_n ?_
      refine hK8 _ _ ?_
      clear hK8 K8
      refine wp_seq_k fun K9 hK9 => ?_
      refine wp_region_lit ?_  -- region 6 l15_copying.go:18
      refine S_beg 73 rfl ?_
      refine S_bs0 Try.underlying23 sz3 ?_
      intro b9 w9 fb9 g9 B9
      have lb9 := B9.lt
      replace hAl := hAl.grow g9
      replace hBl := hBl.grow g9
      replace hEl := hEl.grow g9
      replace cc2 := cc2.grow g9
      replace hE2 := hE2.grow g9
      replace OC1 := OC1.grow g9
      replace OR1 := OR1.grow g9
      replace G := G.grow g9
      replace GL5 := GL5.grow g9
      replace B1 := B1.grow g9
      replace B2 := B2.grow g9
      replace B3 := B3.grow g9
      replace B7 := B7.grow g9
      have zg9 := g9.size
      refine S_val (Y_assign rfl) ?_
      refine S_nil (L' := (_ :: _ :: _ :: _ :: _ :: _ :: _ :: _ :: _ :: _ :: _ :: _ :: _ :: _ :: _ :: _ :: _ :: _ :: _ :: _ :: _ :: _ :: _ :: _ :: _ :: _ :: _ :: _ :: _ :: _ :: _ :: _ :: _ :: _ :: _ :: _ :: _ :: _ :: _ :: _ :: _ :: _ :: _ :: _ :: _ :: _ :: _ :: _ :: _ :: _ :: _ :: _ :: _ :: _ :: _ :: _ :: _ :: _ :: _ :: _ :: _ :: _ :: _ :: _ :: _ :: _ :: _ :: _ :: _ :: _ :: _ :: _ :: _ :: [])) rfl rfl ?_
      refine th_n ?_
      refine hK9 _ _ ?_
      clear hK9 K9
      refine wp_seq_k fun K10 hK10 => ?_
      refine wp_seq_k fun K11 hK11 => ?_
      refine wp_region_lit ?_  -- region 7 l15_copying.go:19
      refine S_beg 73 rfl ?_
      refine S_val (Y_assign rfl) ?_
      refine S_nil (L' := (_ :: _ :: _ :: _ :: _ :: _ :: _ :: _ :: _ :: _ :: _ :: _ :: _ :: _ :: _ :: _ :: _ :: _ :: _ :: _ :: _ :: _ :: _ :: _ :: _ :: _ :: _ :: _ :: _ :: _ :: _ :: _ :: _ :: _ :: _ :: _ :: _ :: _ :: _ :: _ :: _ :: _ :: _ :: _ :: _ :: _ :: _ :: _ :: _ :: _ :: _ :: _ :: _ :: _ :: _ :: _ :: _ :: _ :: _ :: _ :: _ :: _ :: _ :: _ :: _ :: _ :: _ :: _ :: _ :: _ :: _ :: _ :: _ :: [])) rfl rfl ?_
      refine th_n ?_
      refine hK11 _ _ ?_
      clear hK11 K11
      refine wp_block ?_
      obtain ⟨wy, hwy⟩ : ∃ x, x = w9.heap.size := ⟨_, rfl⟩
      have O5 : OW (fun i => i = b9 ∨ wy ≤ i) w9 3 1 (some ⟨b9, 0, none⟩) 0 0 (ints []) := OW.of_blk B9 rfl (by decide) (.inl rfl)
      go_loopw [8, 9] (fun u8 u9 wr => (∃ (j q cap : Nat) (A1 : Option Addr), u9 = .int .i64 j ∧ u8 = .slice A1 q cap ∧ j ≤ h.cells[n].refs.length ∧ q = j ∧ OW (fun i => i = b9 ∨ wy ≤ i) wr 3 1 A1 q cap (ints ((h.cells[n].refs.take j).map (nameIn o)))) ∧ Mod (fun i => i = b9 ∨ wy ≤ i) w9 wr) (fun u8 u9 wr => h.cells[n].refs.length - (intOf u9).toNat)  -- L2
      case atStart =>
        refine ⟨?_, Mod.refl _ _⟩
        exact ⟨0, _, _, _, rfl, rfl, by omega, rfl, O5⟩
      case round =>
        obtain ⟨w10, rfl⟩ : ∃ x : World, x = wr := ⟨_, rfl⟩
        obtain ⟨hrel, g10⟩ := hrel
        clear O5
        replace G := G.above g10 (by intro i h; first | omega | (dsimp only at h; omega))
        replace GL5 := GL5.above g10 (by intro i h; first | omega | (dsimp only at h; omega))
        replace hAl := hAl0.grow G
        replace hBl := hBl0.grow G
        replace hEl := hEl0.grow G
        replace cc2 := cc20.grow G
        replace hE2 := hE20.grow G
        replace OC1 := OC1.mod g10 (by intro k hk h; first | omega | (dsimp only at hk h; omega) | (dsimp only at hk; omega))
        replace OR1 := OR1.mod g10 (by intro k hk h; first | omega | (dsimp only at hk h; omega) | (dsimp only at hk; omega))
        replace B1 := B1.mod g10 (by intro h; first | omega | (dsimp only at h; omega))
        replace B2 := B2.mod g10 (by intro h; first | omega | (dsimp only at h; omega))
        replace B3 := B3.mod g10 (by intro h; first | omega | (dsimp only at h; omega))
        replace B7 := B7.mod g10 (by intro h; first | omega | (dsimp only at h; omega))
        have zg10 := g10.size
        obtain ⟨j, q2, capY, AY, rfl, rfl, hj, hq2, O5⟩ := hrel
        have GL10 := g10
        refine wp_seq_k fun K12 hK12 => ?_
        refine wp_seq_k fun K13 hK13 => ?_
        refine wp_region_lit ?_  -- region 8 l15_copying.go:19
        refine S_beg 73 rfl ?_
        refine S_val (Y_move rfl) ?_
        refine S_val (Y_field Try.underlying80 rfl fz80_2 (by decide) rfl) ?_
        refine S_val (Y_load Try.underlying23 rfl rfl (by first | assumption | exact B1.at (by rfl) | exact B2.at (by rfl) | exact B3.at (by rfl) | exact B7.at (by rfl) | exact cc2.at (by rfl))) ?_  -- l4
        refine S_val (Y_len Try.underlying23 rfl) ?_
        refine S_val (Y_lss rfl rfl) ?_
        refine S_nil (L' := (_ :: _ :: _ :: _ :: _ :: _ :: _ :: _ :: _ :: _ :: _ :: _ :: _ :: _ :: _ :: _ :: _ :: _ :: _ :: _ :: _ :: _ :: _ :: _ :: _ :: _ :: _ :: _ :: _ :: _ :: _ :: _ :: _ :: _ :: _ :: _ :: _ :: _ :: _ :: _ :: _ :: _ :: _ :: _ :: _ :: _ :: _ :: _ :: _ :: _ :: _ :: _ :: _ :: _ :: _ :: _ :: _ :: _ :: _ :: _ :: _ :: _ :: _ :: _ :: _ :: _ :: _ :: _ :: _ :: _ :: _ :: _ :: _ :: [])) rfl rfl ?_
        refine th_n ?_
        refine hK13 _ _ ?_
        clear hK13 K13
        refine S_if rfl (fun hb2 => ?_) (fun hb2 => ?_)  -- c2
        · -- c2T
          first | with_reducible (replace hb2 := nb_nt hb2) | with_reducible (replace hb2 := nb_nf hb2) | with_reducible (replace hb2 := nb_tt hb2) | with_reducible (replace hb2 := nb_tf hb2) | with_reducible (replace hb2 := nb_bt hb2) | with_reducible (replace hb2 := nb_bf hb2) | skip
          have hj1 : j < h.cells[n].refs.length := by omega
          obtain ⟨g5, o5, rfl, hp5, hc5⟩ := hE2.int hj1
          have htj := List.take_succ_eq_append_getElem hj1
          refine wp_skip ?_
          refine th_n ?_
          refine hK12 _ _ ?_
          clear hK12 K12
          refine wp_seq_k fun K14 hK14 => ?_
          refine wp_block ?_
          refine wp_region_lit ?_  -- region 10 l15_copying.go:20
          refine S_beg 73 rfl ?_
          refine S_val (Y_move rfl) ?_
          refine S_val (Y_move rfl) ?_
          refine S_val (Y_field Try.underlying80 rfl fz80_2 (by decide) rfl) ?_
          refine S_val (Y_load Try.underlying23 rfl rfl (by first | assumption | exact B1.at (by rfl) | exact B2.at (by rfl) | exact B3.at (by rfl) | exact B7.at (by rfl) | exact cc2.at (by rfl))) ?_  -- l5
          refine S_val (Y_move rfl) ?_
          refine S_val (Y_index Try.underlying23 sz3 rfl rfl (by first | assumption | omega)) ?_
          refine S_val (Y_load Try.underlying3 rfl rfl (by first | assumption | exact B1.at (by rfl) | exact B2.at (by rfl) | exact B3.at (by rfl) | exact B7.at (by rfl) | exact cc2.at (by rfl))) ?_  -- l6
          refine S_call rfl en70 (spec_l9Name_c _ _ _ _ _ _ hEl (by omega)) ?_  -- k1 spec.l9Name
          rintro v11 w11 ⟨rfl, g11⟩
          replace hAl := hAl.grow g11
          replace hBl := hBl.grow g11
          replace hEl := hEl.grow g11
          replace cc2 := cc2.grow g11
          replace hE2 := hE2.grow g11
          replace OC1 := OC1.grow g11
          replace OR1 := OR1.grow g11
          replace O5 := O5.grow g11
          replace G := G.grow g11
          replace GL5 := GL5.grow g11
          replace GL10 := GL10.grow g11
          replace B1 := B1.grow g11
          replace B2 := B2.grow g11
          replace B3 := B3.grow g11
          replace B7 := B7.grow g11
          have zg11 := g11.size
          refine S_bs1 (cs := [_]) Try.underlying23 zr3 sz3 rfl rfl rfl ?_
          intro b12 w12 fb12 g12 B12
          have lb12 := B12.lt
          replace hAl := hAl.grow g12
          replace hBl := hBl.grow g12
          replace hEl := hEl.grow g12
          replace cc2 := cc2.grow g12
          replace hE2 := hE2.grow g12
          replace OC1 := OC1.grow g12
          replace OR1 := OR1.grow g12
          replace O5 := O5.grow g12
          replace G := G.grow g12
          replace GL5 := GL5.grow g12
          replace GL10 := GL10.grow g12
          replace B1 := B1.grow g12
          replace B2 := B2.grow g12
          replace B3 := B3.grow g12
          replace B7 := B7.grow g12
          have zg12 := g12.size
          refine S_app Try.underlying23 zr3 sz3 by3 rfl rfl O5 rfl (Src.blk B12) (by simp [Value.oneCell']) (by omega) (Pr' := fun i => i = b9 ∨ wy ≤ i) (fun i hi => hi) (by omega) ?_
          intro A13 cap13 w13 X13 m13
          replace O5 := X13
          rw [ints_app] at O5
          clear X13
          replace G := G.above m13 (by intro i h; first | omega | (dsimp only at h; omega))
          replace GL5 := GL5.above m13 (by intro i h; first | omega | (dsimp only at h; omega))
          replace GL10 := Mod.trans' GL10 m13 (fun _ h _ => h) (fun i h _ => by first | exact h | omega | (dsimp only at h ⊢; omega) | (subst h; rfl) | (subst h; exact ⟨by omega, rfl⟩))
          replace hAl := hAl0.grow G
          replace hBl := hBl0.grow G
          replace hEl := hEl0.grow G
          replace cc2 := cc20.grow G
          replace hE2 := hE20.grow G
          replace OC1 := OC1.mod m13 (by intro k hk h; first | omega | (dsimp only at hk h; omega) | (dsimp only at hk; omega))
          replace OR1 := OR1.mod m13 (by intro k hk h; first | omega | (dsimp only at hk h; omega) | (dsimp only at hk; omega))
          replace B1 := B1.mod m13 (by intro h; first | omega | (dsimp only at h; omega))
          replace B2 := B2.mod m13 (by intro h; first | omega | (dsimp only at h; omega))
          replace B3 := B3.mod m13 (by intro h; first | omega | (dsimp only at h; omega))
          replace B7 := B7.mod m13 (by intro h; first | omega | (dsimp only at h; omega))
          have zm13 := m13.size
          refine S_val (Y_assign rfl) ?_
          refine S_nil (L' := (_ :: _ :: _ :: _ :: _ :: _ :: _ :: _ :: _ :: _ :: _ :: _ :: _ :: _ :: _ :: _ :: _ :: _ :: _ :: _ :: _ :: _ :: _ :: _ :: _ :: _ :: _ :: _ :: _ :: _ :: _ :: _ :: _ :: _ :: _ :: _ :: _ :: _ :: _ :: _ :: _ :: _ :: _ :: _ :: _ :: _ :: _ :: _ :: _ :: _ :: _ :: _ :: _ :: _ :: _ :: _ :: _ :: _ :: _ :: _ :: _ :: _ :: _ :: _ :: _ :: _ :: _ :: _ :: _ :: _ :: _ :: _ :: _ :: [])) rfl rfl ?_
          refine ib_n ?_
          refine th_n ?_
          refine hK14 _ _ ?_
          clear hK14 K14
          refine wp_region_lit ?_  -- region 9 l15_copying.go:19
          refine S_beg 73 rfl ?_
          refine S_val (Y_move rfl) ?_
          refine S_val (Y_inc rfl rfl (by omega)) ?_
          refine S_val (Y_assign rfl) ?_
          refine S_nil (L' := (_ :: _ :: _ :: _ :: _ :: _ :: _ :: _ :: _ :: _ :: _ :: _ :: _ :: _ :: _ :: _ :: _ :: _ :: _ :: _ :: _ :: _ :: _ :: _ :: _ :: _ :: _ :: _ :: _ :: _ :: _ :: _ :: _ :: _ :: _ :: _ :: _ :: _ :: _ :: _ :: _ :: _ :: _ :: _ :: _ :: _ :: _ :: _ :: _ :: _ :: _ :: _ :: _ :: _ :: _ :: _ :: _ :: _ :: _ :: _ :: _ :: _ :: _ :: _ :: _ :: _ :: _ :: _ :: _ :: _ :: _ :: _ :: _ :: [])) rfl rfl ?_
          refine th_n ?_
          go_roundw  -- e1 of L2
          case rel =>
            refine ⟨?_, GL10⟩
            exact ⟨j + 1, _, _, _, rfl, rfl, by omega, by omega, by rw [htj, List.map_append]; exact O5⟩
          case measure =>
            exact dec_nat (by omega)
        · -- c2F
          first | with_reducible (replace hb2 := nb_nt hb2) | with_reducible (replace hb2 := nb_nf hb2) | with_reducible (replace hb2 := nb_tt hb2) | with_reducible (replace hb2 := nb_tf hb2) | with_reducible (replace hb2 := nb_bt hb2) | with_reducible (replace hb2 := nb_bf hb2) | skip
          have hq3 : q2 = (h.cells[n].refs.map (nameIn o)).length := by rw [List.length_map]; omega
          subst hq3
          rw [List.take_of_length_le (by omega)] at O5
          have OY := O5.weak (Pr' := fun i => b9 ≤ i) (fun i hi => by omega)
          refine wp_exit ?_
          refine th_x ?_
          clear GL10
          refine th_x ?_
          refine ib_e ?_
          refine th_n ?_
          refine hK10 _ _ ?_
          clear hK12 K12 hK10 K10
          refine wp_region_lit ?_  -- region 11 l15_copying.go:22
          refine S_beg 73 rfl ?_
          refine S_val (Y_field Try.underlying33 rfl fz33_0 (by decide) rfl) ?_
          refine S_val (Y_load Try.underlying31 rfl rfl (by first | assumption | exact B1.at (by rfl) | exact B2.at (by rfl) | exact B3.at (by rfl) | exact B7.at (by rfl) | exact cc2.at (by rfl))) ?_  -- l7
          refine S_val (Y_field Try.underlying80 rfl fz80_1 (by decide) rfl) ?_
          refine S_val (Y_load Try.underlying3 rfl rfl (by first | assumption | exact B1.at (by rfl) | exact B2.at (by rfl) | exact B3.at (by rfl) | exact B7.at (by rfl) | exact cc2.at (by rfl))) ?_  -- l8
          refine S_val (Y_move rfl) ?_
          refine S_val (Y_build (cs := [_, _, _]) zr80 pc80 rfl rfl) ?_
          refine S_bs1 (cs := [_, _, _]) Try.underlying31 zr80 sz80 rfl rfl rfl ?_
          intro b14 w14 fb14 g14 B14
          have lb14 := B14.lt
          replace hAl := hAl.grow g14
          replace hBl := hBl.grow g14
          replace hEl := hEl.grow g14
          replace cc2 := cc2.grow g14
          replace hE2 := hE2.grow g14
          replace OC1 := OC1.grow g14
          replace OR1 := OR1.grow g14
          replace OY := OY.grow g14
          replace G := G.grow g14
          replace GL5 := GL5.grow g14
          replace B1 := B1.grow g14
          replace B2 := B2.grow g14
          replace B3 := B3.grow g14
          replace B7 := B7.grow g14
          have zg14 := g14.size
          refine S_app2 Try.underlying31 zr80 sz80 by80 rfl rfl OC1 rfl (Src.blk B14) (by simp [Value.oneCell']) (by omega) (Pr' := fun i => wz ≤ i) (fun i hi => by omega) (by omega) ?_
          intro A15 cap15 w15 X15 m15 n15
          replace OR1 := OR1.app OC1 hne n15
          replace OC1 := X15
          clear X15 n15
          replace G := G.above m15 (by intro i h; first | omega | (dsimp only at h; omega))
          replace GL5 := Mod.trans' GL5 m15 (fun _ h _ => h) (fun i h _ => by first | exact h | omega | (dsimp only at h ⊢; omega) | (subst h; rfl) | (subst h; exact ⟨by omega, rfl⟩))
          replace hAl := hAl0.grow G
          replace hBl := hBl0.grow G
          replace hEl := hEl0.grow G
          replace cc2 := cc20.grow G
          replace hE2 := hE20.grow G
          replace OY := OY.mod m15 (by intro k hk h; first | omega | (dsimp only at hk h; omega) | (dsimp only at hk; omega))
          replace B1 := B1.mod m15 (by intro h; first | omega | (dsimp only at h; omega))
          replace B2 := B2.mod m15 (by intro h; first | omega | (dsimp only at h; omega))
          replace B3 := B3.mod m15 (by intro h; first | omega | (dsimp only at h; omega))
          replace B7 := B7.mod m15 (by intro h; first | omega | (dsimp only at h; omega))
          have zm15 := m15.size
          have OR2 := OR1.more (c := ⟨true, h.cells[n].data, h.cells[n].refs.map (nameIn o)⟩) OY (fun i hi => by omega) (Pr' := fun i => wz ≤ i) (fun i hi => by omega) (fun i hi => by omega)
          replace OC1 : OW (fun i => wz ≤ i) w15 80 3 A15 (q1 + 1) cap15 (flatC ((o.take (k + 1)).map (gcell h.cells o)) (rs ++ [(AY, capY)])) := by rw [hgs, ← flat_more OR1.len]; exact OC1
          rw [← hgs] at OR2
          refine S_val (Y_field Try.underlying33 rfl fz33_0 (by decide) rfl) ?_
          refine S_stM (pre := []) (old := [_]) (post := [_]) (vs := [_]) sz31 rfl rfl rfl (by first | rfl | assumption) B3 rfl rfl ?_
          intro w16 m16 X16
          replace B3 := Blk.eq (ys := [_, _]) X16 rfl
          clear X16
          replace G := G.above m16 (by intro i h; first | omega | (dsimp only at h; omega))
          replace GL5 := Mod.trans' GL5 m16 (fun _ h _ => h) (fun i h _ => by first | exact h | omega | (dsimp only at h ⊢; omega) | (subst h; rfl) | (subst h; exact ⟨by omega, rfl⟩))
          replace hAl := hAl0.grow G
          replace hBl := hBl0.grow G
          replace hEl := hEl0.grow G
          replace cc2 := cc20.grow G
          replace hE2 := hE20.grow G
          replace OC1 := OC1.mod m16 (by intro k hk h; first | omega | (dsimp only at hk h; omega) | (dsimp only at hk; omega))
          replace OR2 := OR2.mod m16 (by intro k hk h; first | omega | (dsimp only at hk h; omega) | (dsimp only at hk; omega))
          replace B1 := B1.mod m16 (by intro h; first | omega | (dsimp only at h; omega))
          replace B2 := B2.mod m16 (by intro h; first | omega | (dsimp only at h; omega))
          replace B7 := B7.mod m16 (by intro h; first | omega | (dsimp only at h; omega))
          have zm16 := m16.size
          refine S_nil (L' := (_ :: _ :: _ :: _ :: _ :: _ :: _ :: _ :: _ :: _ :: _ :: _ :: _ :: _ :: _ :: _ :: _ :: _ :: _ :: _ :: _ :: _ :: _ :: _ :: _ :: _ :: _ :: _ :: _ :: _ :: _ :: _ :: _ :: _ :: _ :: _ :: _ :: _ :: _ :: _ :: _ :: _ :: _ :: _ :: _ :: _ :: _ :: _ :: _ :: _ :: _ :: _ :: _ :: _ :: _ :: _ :: _ :: _ :: _ :: _ :: _ :: _ :: _ :: _ :: _ :: _ :: _ :: _ :: _ :: _ :: _ :: _ :: _ :: [])) rfl rfl ?_
          refine ib_n ?_
          refine th_n ?_
          refine hK7 _ _ ?_
          clear hK7 K7
          refine wp_region_lit ?_  -- region 4 l15_copying.go:16
          refine S_beg 73 rfl ?_
          refine S_val (Y_move rfl) ?_
          refine S_val (Y_inc rfl rfl (by omega)) ?_
          refine S_val (Y_assign rfl) ?_
          refine S_nil (L' := (_ :: _ :: _ :: _ :: _ :: _ :: _ :: _ :: _ :: _ :: _ :: _ :: _ :: _ :: _ :: _ :: _ :: _ :: _ :: _ :: _ :: _ :: _ :: _ :: _ :: _ :: _ :: _ :: _ :: _ :: _ :: _ :: _ :: _ :: _ :: _ :: _ :: _ :: _ :: _ :: _ :: _ :: _ :: _ :: _ :: _ :: _ :: _ :: _ :: _ :: _ :: _ :: _ :: _ :: _ :: _ :: _ :: _ :: _ :: _ :: _ :: _ :: _ :: _ :: _ :: _ :: _ :: _ :: _ :: _ :: _ :: _ :: _ :: [])) rfl rfl ?_
          refine th_n ?_
          go_roundw  -- e2 of L1
          case rel =>
            refine ⟨?_, GL5⟩
            exact ⟨k + 1, _, _, _, _, rfl, by omega, by omega, B3, OC1, OR2⟩
          case measure =>
            exact dec_nat (by omega)
    · -- c1F
      first | with_reducible (replace hb1 := nb_nt hb1) | with_reducible (replace hb1 := nb_nf hb1) | with_reducible (replace hb1 := nb_tt hb1) | with_reducible (replace hb1 := nb_tf hb1) | with_reducible (replace hb1 := nb_bt hb1) | with_reducible (replace hb1 := nb_bf hb1) | skip
      refine wp_exit ?_
      refine th_x ?_
      clear GL5
      refine th_x ?_
      refine ib_e ?_
      refine th_n ?_
      refine hK3 _ _ ?_
      clear hK5 K5 hK3 K3
      refine wp_seq_k fun K15 hK15 => ?_
      refine wp_seq_k fun K16 hK16 => ?_
      refine wp_region_lit ?_  -- region 12 l15_copying.go:24
      refine S_beg 73 rfl ?_
      refine S_val (Y_assign rfl) ?_
      refine S_nil (L' := (_ :: _ :: _ :: _ :: _ :: _ :: _ :: _ :: _ :: _ :: _ :: _ :: _ :: _ :: _ :: _ :: _ :: _ :: _ :: _ :: _ :: _ :: _ :: _ :: _ :: _ :: _ :: _ :: _ :: _ :: _ :: _ :: _ :: _ :: _ :: _ :: _ :: _ :: _ :: _ :: _ :: _ :: _ :: _ :: _ :: _ :: _ :: _ :: _ :: _ :: _ :: _ :: _ :: _ :: _ :: _ :: _ :: _ :: _ :: _ :: _ :: _ :: _ :: _ :: _ :: _ :: _ :: _ :: _ :: _ :: _ :: _ :: _ :: [])) rfl rfl ?_
      refine th_n ?_
      refine hK16 _ _ ?_
      clear hK16 K16
      refine wp_block ?_
      rw [List.take_of_length_le (by omega)] at hlk OC1 OR1
      replace OC1 := OC1.lt
      replace OR1 := OR1.lt
      obtain ⟨wv, hwv⟩ : ∃ x, x = w5.heap.size := ⟨_, rfl⟩
      have O6 : OW (fun i => wv ≤ i) w5 3 1 none 0 0 (ints []) := OW.nil _ _ _ _
      go_loopw [10] (fun u10 wr => (∃ (j q cap : Nat) (A2 : Option Addr), u10 = .int .i64 j ∧ j ≤ h.roots.length ∧ q = j ∧ Blk wr b3 33 [.slice A1 q1 cap1, .slice A2 q cap].toArray ∧ OW (fun i => wv ≤ i) wr 3 1 A2 q cap (ints ((h.roots.take j).map (nameIn o)))) ∧ Mod (fun i => i = b3 ∨ wv ≤ i) w5 wr) (fun u10 wr => h.roots.length - (intOf u10).toNat)  -- L3
      case atStart =>
        refine ⟨?_, Mod.refl _ _⟩
        exact ⟨0, 0, 0, none, rfl, by omega, rfl, B3, O6⟩
      case round =>
        obtain ⟨w17, rfl⟩ : ∃ x : World, x = wr := ⟨_, rfl⟩
        obtain ⟨hrel, g17⟩ := hrel
        clear B3
        clear O6
        replace G := G.above g17 (by intro i h; first | omega | (dsimp only at h; omega))
        replace hAl := hAl0.grow G
        replace hBl := hBl0.grow G
        replace hEl := hEl0.grow G
        replace OC1 := OC1.mod g17 (by intro k hk h; first | omega | (dsimp only at hk h; omega) | (dsimp only at hk; omega))
        replace OR1 := OR1.mod g17 (by intro k hk h; first | omega | (dsimp only at hk h; omega) | (dsimp only at hk; omega))
        replace B1 := B1.mod g17 (by intro h; first | omega | (dsimp only at h; omega))
        replace B2 := B2.mod g17 (by intro h; first | omega | (dsimp only at h; omega))
        have zg17 := g17.size
        obtain ⟨j, q2, cap2, A2, rfl, hj, hq2, B3, O6⟩ := hrel
        have GL17 := g17
        refine wp_seq_k fun K17 hK17 => ?_
        refine wp_seq_k fun K18 hK18 => ?_
        refine wp_region_lit ?_  -- region 13 l15_copying.go:24
        refine S_beg 73 rfl ?_
        refine S_val (Y_move rfl) ?_
        refine S_val (Y_field Try.underlying33 rfl fz33_1 (by decide) rfl) ?_
        refine S_val (Y_load Try.underlying23 rfl rfl (by first | assumption | exact B1.at (by rfl) | exact B2.at (by rfl) | exact B3.at (by rfl))) ?_  -- l9
        refine S_val (Y_len Try.underlying23 rfl) ?_
        refine S_val (Y_lss rfl rfl) ?_
        refine S_nil (L' := (_ :: _ :: _ :: _ :: _ :: _ :: _ :: _ :: _ :: _ :: _ :: _ :: _ :: _ :: _ :: _ :: _ :: _ :: _ :: _ :: _ :: _ :: _ :: _ :: _ :: _ :: _ :: _ :: _ :: _ :: _ :: _ :: _ :: _ :: _ :: _ :: _ :: _ :: _ :: _ :: _ :: _ :: _ :: _ :: _ :: _ :: _ :: _ :: _ :: _ :: _ :: _ :: _ :: _ :: _ :: _ :: _ :: _ :: _ :: _ :: _ :: _ :: _ :: _ :: _ :: _ :: _ :: _ :: _ :: _ :: _ :: _ :: _ :: [])) rfl rfl ?_
        refine th_n ?_
        refine hK18 _ _ ?_
        clear hK18 K18
        refine S_if rfl (fun hb2 => ?_) (fun hb2 => ?_)  -- c3
        · -- c3T
          first | with_reducible (replace hb2 := nb_nt hb2) | with_reducible (replace hb2 := nb_nf hb2) | with_reducible (replace hb2 := nb_tt hb2) | with_reducible (replace hb2 := nb_tf hb2) | with_reducible (replace hb2 := nb_bt hb2) | with_reducible (replace hb2 := nb_bf hb2) | skip
          have hj1 : j < h.roots.length := by omega
          have htj := List.take_succ_eq_append_getElem hj1
          refine wp_skip ?_
          refine th_n ?_
          refine hK17 _ _ ?_
          clear hK17 K17
          refine wp_seq_k fun K19 hK19 => ?_
          refine wp_block ?_
          refine D_start 13 73 (fun w => Mod (fun i => i = b3 ∨ wv ≤ i) w) follows rfl rfl ?_  -- d2 region 15 l15_copying.go:25
          intro w18 g18
          replace hAl := hAl.grow g18
          replace hBl := hBl.grow g18
          replace hEl := hEl.grow g18
          replace OC1 := OC1.grow g18
          replace OR1 := OR1.grow g18
          replace O6 := O6.grow g18
          replace G := G.grow g18
          replace GL17 := GL17.grow g18
          replace B1 := B1.grow g18
          replace B2 := B2.grow g18
          replace B3 := B3.grow g18
          have zg18 := g18.size
          have GS18 := Mod.refl (fun i => i = b3 ∨ wv ≤ i) w18
          obtain ⟨g5, o5, rfl, hp5, hc5⟩ := hBl.int hj1
          refine D_q (i := 0) rfl (by kernel_rfl) (fun _ _ _ h => h) GS18 (fun _ _ => Y_field Try.underlying33 rfl fz33_1 (by decide) rfl) ?_
          refine D_q (i := 2) rfl (by kernel_rfl) (fun _ _ _ h => h) GS18 (fun _ _ => Y_move rfl) ?_
          refine D_q (i := 3) rfl (by kernel_rfl) (fun _ _ _ h => h) GS18 (fun _ _ => Y_field Try.underlying33 rfl fz33_1 (by decide) rfl) ?_
          refine D_q (i := 4) rfl (by kernel_rfl) (fun _ _ _ h => h) GS18 (fun _ hs => Y_load Try.underlying23 rfl rfl (by first | exact hs.cell (by assumption) (by intro h; first | omega | (dsimp only at h; omega)) | exact hs.cell (B1.at (by rfl)) (by intro h; first | omega | (dsimp only at h; omega)) | exact hs.cell (B2.at (by rfl)) (by intro h; first | omega | (dsimp only at h; omega)) | exact hs.cell (B3.at (by rfl)) (by intro h; first | omega | (dsimp only at h; omega)))) ?_
          refine D_q (i := 5) rfl (by kernel_rfl) (fun _ _ _ h => h) GS18 (fun _ _ => Y_move rfl) ?_
          refine D_q (i := 6) rfl (by kernel_rfl) (fun _ _ _ h => h) GS18 (fun _ _ => Y_index Try.underlying23 sz3 rfl rfl (by first | assumption | omega)) ?_
          refine D_q (i := 7) rfl (by kernel_rfl) (fun _ _ _ h => h) GS18 (fun _ hs => Y_load Try.underlying3 rfl rfl (by first | exact hs.cell (by assumption) (by intro h; first | omega | (dsimp only at h; omega)) | exact hs.cell (B1.at (by rfl)) (by intro h; first | omega | (dsimp only at h; omega)) | exact hs.cell (B2.at (by rfl)) (by intro h; first | omega | (dsimp only at h; omega)) | exact hs.cell (B3.at (by rfl)) (by intro h; first | omega | (dsimp only at h; omega)))) ?_
          refine D_2 (i := 1) (j := 8) (by kernel_rfl) ?_ ?_
          · -- operation 1 comes up
            refine E_val (i := 1) rfl (Y_load Try.underlying23 rfl rfl (B3.at (by rfl))) GS18 ?_
            refine D_1 (i := 8) (by kernel_rfl) ?_
            refine E_call rfl rfl en70 (spec_l9Name_c _ _ _ _ _ _ hEl (by omega)) ?_  -- k2 spec.l9Name
            rintro v20 w20 ⟨rfl, g20⟩
            replace hAl := hAl.grow g20
            replace hBl := hBl.grow g20
            replace hEl := hEl.grow g20
            replace OC1 := OC1.grow g20
            replace OR1 := OR1.grow g20
            replace O6 := O6.grow g20
            replace G := G.grow g20
            replace GL17 := GL17.grow g20
            replace GS18 := GS18.grow g20
            replace B1 := B1.grow g20
            replace B2 := B2.grow g20
            replace B3 := B3.grow g20
            have zg20 := g20.size
            refine ⟨GS18, ?_⟩
            refine D_1 (i := 9) (by kernel_rfl) ?_
            refine E_bs1 (cs := [_]) (i := 9) rfl Try.underlying23 zr3 sz3 rfl rfl rfl ?_
            intro b21 w21 fb21 g21 B21
            refine ⟨GS18.grow g21, ?_⟩
            have lb21 := B21.lt
            replace hAl := hAl.grow g21
            replace hBl := hBl.grow g21
            replace hEl := hEl.grow g21
            replace OC1 := OC1.grow g21
            replace OR1 := OR1.grow g21
            replace O6 := O6.grow g21
            replace G := G.grow g21
            replace GL17 := GL17.grow g21
            replace GS18 := GS18.grow g21
            replace B1 := B1.grow g21
            replace B2 := B2.grow g21
            replace B3 := B3.grow g21
            have zg21 := g21.size
            refine D_1 (i := 10) (by kernel_rfl) ?_
            refine E_app (i := 10) rfl Try.underlying23 zr3 sz3 by3 rfl rfl O6 rfl (Src.blk B21) (by simp [Value.oneCell']) (by omega) (Pr' := fun i => wv ≤ i) (fun i hi => hi) (by omega) ?_
            intro A22 cap22 w22 X22 m22
            replace O6 := X22
            rw [ints_app] at O6
            clear X22
            replace G := G.above m22 (by intro i h; first | omega | (dsimp only at h; omega))
            replace GL17 := Mod.trans' GL17 m22 (fun _ h _ => h) (fun i h _ => by first | exact h | omega | (dsimp only at h ⊢; omega) | (subst h; rfl) | (subst h; exact ⟨by omega, rfl⟩))
            replace GS18 := Mod.trans' GS18 m22 (fun _ h _ => h) (fun i h _ => by first | exact h | omega | (dsimp only at h ⊢; omega) | (subst h; rfl) | (subst h; exact ⟨by omega, rfl⟩))
            replace hAl := hAl0.grow G
            replace hBl := hBl0.grow G
            replace hEl := hEl0.grow G
            replace OC1 := OC1.mod m22 (by intro k hk h; first | omega | (dsimp only at hk h; omega) | (dsimp only at hk; omega))
            replace OR1 := OR1.mod m22 (by intro k hk h; first | omega | (dsimp only at hk h; omega) | (dsimp only at hk; omega))
            replace B1 := B1.mod m22 (by intro h; first | omega | (dsimp only at h; omega))
            replace B2 := B2.mod m22 (by intro h; first | omega | (dsimp only at h; omega))
            replace B3 := B3.mod m22 (by intro h; first | omega | (dsimp only at h; omega))
            have zm22 := m22.size
            refine ⟨GS18, ?_⟩
            refine D_q (i := 11) rfl (by kernel_rfl) (fun _ _ _ h => h) GS18 (fun _ _ => Y_field Try.underlying33 rfl fz33_1 (by decide) rfl) ?_
            refine D_1 (i := 12) (by kernel_rfl) ?_
            refine E_stM (pre := [_]) (old := [_]) (post := []) (vs := [_]) (i := 12) rfl sz23 rfl rfl rfl (by first | rfl | assumption) B3 rfl rfl ?_
            intro w23 m23 X23
            replace B3 := Blk.eq (ys := [_, _]) X23 rfl
            clear X23
            replace G := G.above m23 (by intro i h; first | omega | (dsimp only at h; omega))
            replace GL17 := Mod.trans' GL17 m23 (fun _ h _ => h) (fun i h _ => by first | exact h | omega | (dsimp only at h ⊢; omega) | (subst h; rfl) | (subst h; exact ⟨by omega, rfl⟩))
            replace GS18 := Mod.trans' GS18 m23 (fun _ h _ => h) (fun i h _ => by first | exact h | omega | (dsimp only at h ⊢; omega) | (subst h; rfl) | (subst h; exact ⟨by omega, rfl⟩))
            replace hAl := hAl0.grow G
            replace hBl := hBl0.grow G
            replace hEl := hEl0.grow G
            replace OC1 := OC1.mod m23 (by intro k hk h; first | omega | (dsimp only at hk h; omega) | (dsimp only at hk; omega))
            replace OR1 := OR1.mod m23 (by intro k hk h; first | omega | (dsimp only at hk h; omega) | (dsimp only at hk; omega))
            replace O6 := O6.mod m23 (by intro k hk h; first | omega | (dsimp only at hk h; omega) | (dsimp only at hk; omega))
            replace B1 := B1.mod m23 (by intro h; first | omega | (dsimp only at h; omega))
            replace B2 := B2.mod m23 (by intro h; first | omega | (dsimp only at h; omega))
            have zm23 := m23.size
            refine ⟨GS18, ?_⟩
            refine D_end (L' := (_ :: _ :: _ :: _ :: _ :: _ :: _ :: _ :: _ :: _ :: _ :: _ :: _ :: _ :: _ :: _ :: _ :: _ :: _ :: _ :: _ :: _ :: _ :: _ :: _ :: _ :: _ :: _ :: _ :: _ :: _ :: _ :: _ :: _ :: _ :: _ :: _ :: _ :: _ :: _ :: _ :: _ :: _ :: _ :: _ :: _ :: _ :: _ :: _ :: _ :: _ :: _ :: _ :: _ :: _ :: _ :: _ :: _ :: _ :: _ :: _ :: _ :: _ :: _ :: _ :: _ :: _ :: _ :: _ :: _ :: _ :: _ :: _ :: [])) (by kernel_rfl) rfl rfl ?_
            refine ib_n ?_
            refine th_n ?_
            refine hK19 _ _ ?_
            clear hK19 K19
            refine wp_region_lit ?_  -- region 14 l15_copying.go:24
            refine S_beg 73 rfl ?_
            refine S_val (Y_move rfl) ?_
            refine S_val (Y_inc rfl rfl (by omega)) ?_
            refine S_val (Y_assign rfl) ?_
            refine S_nil (L' := (_ :: _ :: _ :: _ :: _ :: _ :: _ :: _ :: _ :: _ :: _ :: _ :: _ :: _ :: _ :: _ :: _ :: _ :: _ :: _ :: _ :: _ :: _ :: _ :: _ :: _ :: _ :: _ :: _ :: _ :: _ :: _ :: _ :: _ :: _ :: _ :: _ :: _ :: _ :: _ :: _ :: _ :: _ :: _ :: _ :: _ :: _ :: _ :: _ :: _ :: _ :: _ :: _ :: _ :: _ :: _ :: _ :: _ :: _ :: _ :: _ :: _ :: _ :: _ :: _ :: _ :: _ :: _ :: _ :: _ :: _ :: _ :: _ :: [])) rfl rfl ?_
            refine th_n ?_
            go_roundw  -- e3 of L3
            case rel =>
              refine ⟨?_, GL17⟩
              exact ⟨j + 1, _, _, _, rfl, by omega, by omega, B3, by rw [htj, List.map_append]; exact O6⟩
            case measure =>
              exact dec_nat (by omega)
          · -- operation 8 comes up
            refine E_call rfl rfl en70 (spec_l9Name_c _ _ _ _ _ _ hEl (by omega)) ?_  -- k3 spec.l9Name
            rintro v24 w24 ⟨rfl, g24⟩
            replace hAl := hAl.grow g24
            replace hBl := hBl.grow g24
            replace hEl := hEl.grow g24
            replace OC1 := OC1.grow g24
            replace OR1 := OR1.grow g24
            replace O6 := O6.grow g24
            replace G := G.grow g24
            replace GL17 := GL17.grow g24
            replace GS18 := GS18.grow g24
            replace B1 := B1.grow g24
            replace B2 := B2.grow g24
            replace B3 := B3.grow g24
            have zg24 := g24.size
            refine ⟨GS18, ?_⟩
            refine D_2 (i := 1) (j := 9) (by kernel_rfl) ?_ ?_
            · -- operation 1 comes up
              refine E_val (i := 1) rfl (Y_load Try.underlying23 rfl rfl (B3.at (by rfl))) GS18 ?_
              refine D_1 (i := 9) (by kernel_rfl) ?_
              refine E_bs1 (cs := [_]) (i := 9) rfl Try.underlying23 zr3 sz3 rfl rfl rfl ?_
              intro b26 w26 fb26 g26 B26
              refine ⟨GS18.grow g26, ?_⟩
              have lb26 := B26.lt
              replace hAl := hAl.grow g26
              replace hBl := hBl.grow g26
              replace hEl := hEl.grow g26
              replace OC1 := OC1.grow g26
              replace OR1 := OR1.grow g26
              replace O6 := O6.grow g26
              replace G := G.grow g26
              replace GL17 := GL17.grow g26
              replace GS18 := GS18.grow g26
              replace B1 := B1.grow g26
              replace B2 := B2.grow g26
              replace B3 := B3.grow g26
              have zg26 := g26.size
              refine D_1 (i := 10) (by kernel_rfl) ?_
              refine E_app (i := 10) rfl Try.underlying23 zr3 sz3 by3 rfl rfl O6 rfl (Src.blk B26) (by simp [Value.oneCell']) (by omega) (Pr' := fun i => wv ≤ i) (fun i hi => hi) (by omega) ?_
              intro A27 cap27 w27 X27 m27
              replace O6 := X27
              rw [ints_app] at O6
              clear X27
              replace G := G.above m27 (by intro i h; first | omega | (dsimp only at h; omega))
              replace GL17 := Mod.trans' GL17 m27 (fun _ h _ => h) (fun i h _ => by first | exact h | omega | (dsimp only at h ⊢; omega) | (subst h; rfl) | (subst h; exact ⟨by omega, rfl⟩))
              replace GS18 := Mod.trans' GS18 m27 (fun _ h _ => h) (fun i h _ => by first | exact h | omega | (dsimp only at h ⊢; omega) | (subst h; rfl) | (subst h; exact ⟨by omega, rfl⟩))
              replace hAl := hAl0.grow G
              replace hBl := hBl0.grow G
              replace hEl := hEl0.grow G
              replace OC1 := OC1.mod m27 (by intro k hk h; first | omega | (dsimp only at hk h; omega) | (dsimp only at hk; omega))
              replace OR1 := OR1.mod m27 (by intro k hk h; first | omega | (dsimp only at hk h; omega) | (dsimp only at hk; omega))
              replace B1 := B1.mod m27 (by intro h; first | omega | (dsimp only at h; omega))
              replace B2 := B2.mod m27 (by intro h; first | omega | (dsimp only at h; omega))
              replace B3 := B3.mod m27 (by intro h; first | omega | (dsimp only at h; omega))
              have zm27 := m27.size
              refine ⟨GS18, ?_⟩
              refine D_q (i := 11) rfl (by kernel_rfl) (fun _ _ _ h => h) GS18 (fun _ _ => Y_field Try.underlying33 rfl fz33_1 (by decide) rfl) ?_
              refine D_1 (i := 12) (by kernel_rfl) ?_
              refine E_stM (pre := [_]) (old := [_]) (post := []) (vs := [_]) (i := 12) rfl sz23 rfl rfl rfl (by first | rfl | assumption) B3 rfl rfl ?_
              intro w28 m28 X28
              replace B3 := Blk.eq (ys := [_, _]) X28 rfl
              clear X28
              replace G := G.above m28 (by intro i h; first | omega | (dsimp only at h; omega))
              replace GL17 := Mod.trans' GL17 m28 (fun _ h _ => h) (fun i h _ => by first | exact h | omega | (dsimp only at h ⊢; omega) | (subst h; rfl) | (subst h; exact ⟨by omega, rfl⟩))
              replace GS18 := Mod.trans' GS18 m28 (fun _ h _ => h) (fun i h _ => by first | exact h | omega | (dsimp only at h ⊢; omega) | (subst h; rfl) | (subst h; exact ⟨by omega, rfl⟩))
              replace hAl := hAl0.grow G
              replace hBl := hBl0.grow G
              replace hEl := hEl0.grow G
              replace OC1 := OC1.mod m28 (by intro k hk h; first | omega | (dsimp only at hk h; omega) | (dsimp only at hk; omega))
              replace OR1 := OR1.mod m28 (by intro k hk h; first | omega | (dsimp only at hk h; omega) | (dsimp only at hk; omega))
              replace O6 := O6.mod m28 (by intro k hk h; first | omega | (dsimp only at hk h; omega) | (dsimp only at hk; omega))
              replace B1 := B1.mod m28 (by intro h; first | omega | (dsimp only at h; omega))
              replace B2 := B2.mod m28 (by intro h; first | omega | (dsimp only at h; omega))
              have zm28 := m28.size
              refine ⟨GS18, ?_⟩
              refine D_end (L' := (_ :: _ :: _ :: _ :: _ :: _ :: _ :: _ :: _ :: _ :: _ :: _ :: _ :: _ :: _ :: _ :: _ :: _ :: _ :: _ :: _ :: _ :: _ :: _ :: _ :: _ :: _ :: _ :: _ :: _ :: _ :: _ :: _ :: _ :: _ :: _ :: _ :: _ :: _ :: _ :: _ :: _ :: _ :: _ :: _ :: _ :: _ :: _ :: _ :: _ :: _ :: _ :: _ :: _ :: _ :: _ :: _ :: _ :: _ :: _ :: _ :: _ :: _ :: _ :: _ :: _ :: _ :: _ :: _ :: _ :: _ :: _ :: _ :: [])) (by kernel_rfl) rfl rfl ?_
              refine ib_n ?_
              refine th_n ?_
              refine hK19 _ _ ?_
              clear hK19 K19
              refine wp_region_lit ?_  -- region 14 l15_copying.go:24
              refine S_beg 73 rfl ?_
              refine S_val (Y_move rfl) ?_
              refine S_val (Y_inc rfl rfl (by omega)) ?_
              refine S_val (Y_assign rfl) ?_
              refine S_nil (L' := (_ :: _ :: _ :: _ :: _ :: _ :: _ :: _ :: _ :: _ :: _ :: _ :: _ :: _ :: _ :: _ :: _ :: _ :: _ :: _ :: _ :: _ :: _ :: _ :: _ :: _ :: _ :: _ :: _ :: _ :: _ :: _ :: _ :: _ :: _ :: _ :: _ :: _ :: _ :: _ :: _ :: _ :: _ :: _ :: _ :: _ :: _ :: _ :: _ :: _ :: _ :: _ :: _ :: _ :: _ :: _ :: _ :: _ :: _ :: _ :: _ :: _ :: _ :: _ :: _ :: _ :: _ :: _ :: _ :: _ :: _ :: _ :: _ :: [])) rfl rfl ?_
              refine th_n ?_
              go_roundw  -- e4 of L3
              case rel =>
                refine ⟨?_, GL17⟩
                exact ⟨j + 1, _, _, _, rfl, by omega, by omega, B3, by rw [htj, List.map_append]; exact O6⟩
              case measure =>
                exact dec_nat (by omega)
            · -- operation 9 comes up
              refine E_bs1 (cs := [_]) (i := 9) rfl Try.underlying23 zr3 sz3 rfl rfl rfl ?_
              intro b29 w29 fb29 g29 B29
              refine ⟨GS18.grow g29, ?_⟩
              have lb29 := B29.lt
              replace hAl := hAl.grow g29
              replace hBl := hBl.grow g29
              replace hEl := hEl.grow g29
              replace OC1 := OC1.grow g29
              replace OR1 := OR1.grow g29
              replace O6 := O6.grow g29
              replace G := G.grow g29
              replace GL17 := GL17.grow g29
              replace GS18 := GS18.grow g29
              replace B1 := B1.grow g29
              replace B2 := B2.grow g29
              replace B3 := B3.grow g29
              have zg29 := g29.size
              refine D_1 (i := 1) (by kernel_rfl) ?_
              refine E_val (i := 1) rfl (Y_load Try.underlying23 rfl rfl (B3.at (by rfl))) GS18 ?_
              refine D_1 (i := 10) (by kernel_rfl) ?_
              refine E_app (i := 10) rfl Try.underlying23 zr3 sz3 by3 rfl rfl O6 rfl (Src.blk B29) (by simp [Value.oneCell']) (by omega) (Pr' := fun i => wv ≤ i) (fun i hi => hi) (by omega) ?_
              intro A31 cap31 w31 X31 m31
              replace O6 := X31
              rw [ints_app] at O6
              clear X31
              replace G := G.above m31 (by intro i h; first | omega | (dsimp only at h; omega))
              replace GL17 := Mod.trans' GL17 m31 (fun _ h _ => h) (fun i h _ => by first | exact h | omega | (dsimp only at h ⊢; omega) | (subst h; rfl) | (subst h; exact ⟨by omega, rfl⟩))
              replace GS18 := Mod.trans' GS18 m31 (fun _ h _ => h) (fun i h _ => by first | exact h | omega | (dsimp only at h ⊢; omega) | (subst h; rfl) | (subst h; exact ⟨by omega, rfl⟩))
              replace hAl := hAl0.grow G
              replace hBl := hBl0.grow G
              replace hEl := hEl0.grow G
              replace OC1 := OC1.mod m31 (by intro k hk h; first | omega | (dsimp only at hk h; omega) | (dsimp only at hk; omega))
              replace OR1 := OR1.mod m31 (by intro k hk h; first | omega | (dsimp only at hk h; omega) | (dsimp only at hk; omega))
              replace B1 := B1.mod m31 (by intro h; first | omega | (dsimp only at h; omega))
              replace B2 := B2.mod m31 (by intro h; first | omega | (dsimp only at h; omega))
              replace B3 := B3.mod m31 (by intro h; first | omega | (dsimp only at h; omega))
              have zm31 := m31.size
              refine ⟨GS18, ?_⟩
              refine D_q (i := 11) rfl (by kernel_rfl) (fun _ _ _ h => h) GS18 (fun _ _ => Y_field Try.underlying33 rfl fz33_1 (by decide) rfl) ?_
              refine D_1 (i := 12) (by kernel_rfl) ?_
              refine E_stM (pre := [_]) (old := [_]) (post := []) (vs := [_]) (i := 12) rfl sz23 rfl rfl rfl (by first | rfl | assumption) B3 rfl rfl ?_
              intro w32 m32 X32
              replace B3 := Blk.eq (ys := [_, _]) X32 rfl
              clear X32
              replace G := G.above m32 (by intro i h; first | omega | (dsimp only at h; omega))
              replace GL17 := Mod.trans' GL17 m32 (fun _ h _ => h) (fun i h _ => by first | exact h | omega | (dsimp only at h ⊢; omega) | (subst h; rfl) | (subst h; exact ⟨by omega, rfl⟩))
              replace GS18 := Mod.trans' GS18 m32 (fun _ h _ => h) (fun i h _ => by first | exact h | omega | (dsimp only at h ⊢; omega) | (subst h; rfl) | (subst h; exact ⟨by omega, rfl⟩))
              replace hAl := hAl0.grow G
              replace hBl := hBl0.grow G
              replace hEl := hEl0.grow G
              replace OC1 := OC1.mod m32 (by intro k hk h; first | omega | (dsimp only at hk h; omega) | (dsimp only at hk; omega))
              replace OR1 := OR1.mod m32 (by intro k hk h; first | omega | (dsimp only at hk h; omega) | (dsimp only at hk; omega))
              replace O6 := O6.mod m32 (by intro k hk h; first | omega | (dsimp only at hk h; omega) | (dsimp only at hk; omega))
              replace B1 := B1.mod m32 (by intro h; first | omega | (dsimp only at h; omega))
              replace B2 := B2.mod m32 (by intro h; first | omega | (dsimp only at h; omega))
              have zm32 := m32.size
              refine ⟨GS18, ?_⟩
              refine D_end (L' := (_ :: _ :: _ :: _ :: _ :: _ :: _ :: _ :: _ :: _ :: _ :: _ :: _ :: _ :: _ :: _ :: _ :: _ :: _ :: _ :: _ :: _ :: _ :: _ :: _ :: _ :: _ :: _ :: _ :: _ :: _ :: _ :: _ :: _ :: _ :: _ :: _ :: _ :: _ :: _ :: _ :: _ :: _ :: _ :: _ :: _ :: _ :: _ :: _ :: _ :: _ :: _ :: _ :: _ :: _ :: _ :: _ :: _ :: _ :: _ :: _ :: _ :: _ :: _ :: _ :: _ :: _ :: _ :: _ :: _ :: _ :: _ :: _ :: [])) (by kernel_rfl) rfl rfl ?_
              refine ib_n ?_
              refine th_n ?_
              refine hK19 _ _ ?_
              clear hK19 K19
              refine wp_region_lit ?_  -- region 14 l15_copying.go:24
              refine S_beg 73 rfl ?_
              refine S_val (Y_move rfl) ?_
              refine S_val (Y_inc rfl rfl (by omega)) ?_
              refine S_val (Y_assign rfl) ?_
              refine S_nil (L' := (_ :: _ :: _ :: _ :: _ :: _ :: _ :: _ :: _ :: _ :: _ :: _ :: _ :: _ :: _ :: _ :: _ :: _ :: _ :: _ :: _ :: _ :: _ :: _ :: _ :: _ :: _ :: _ :: _ :: _ :: _ :: _ :: _ :: _ :: _ :: _ :: _ :: _ :: _ :: _ :: _ :: _ :: _ :: _ :: _ :: _ :: _ :: _ :: _ :: _ :: _ :: _ :: _ :: _ :: _ :: _ :: _ :: _ :: _ :: _ :: _ :: _ :: _ :: _ :: _ :: _ :: _ :: _ :: _ :: _ :: _ :: _ :: _ :: [])) rfl rfl ?_
              refine th_n ?_
              go_roundw  -- e5 of L3
              case rel =>
                refine ⟨?_, GL17⟩
                exact ⟨j + 1, _, _, _, rfl, by omega, by omega, B3, by rw [htj, List.map_append]; exact O6⟩
              case measure =>
                exact dec_nat (by omega)
        · -- c3F
          first | with_reducible (replace hb2 := nb_nt hb2) | with_reducible (replace hb2 := nb_nf hb2) | with_reducible (replace hb2 := nb_tt hb2) | with_reducible (replace hb2 := nb_tf hb2) | with_reducible (replace hb2 := nb_bt hb2) | with_reducible (replace hb2 := nb_bf hb2) | skip
          refine wp_exit ?_
          refine th_x ?_
          clear GL17
          refine th_x ?_
          refine ib_e ?_
          refine th_n ?_
          refine hK15 _ _ ?_
          clear hK17 K17 hK15 K15
          refine wp_seq_k fun K20 hK20 => ?_
          refine wp_region_lit ?_  -- region 16 l15_copying.go:27
          refine S_beg 73 rfl ?_
          refine S_val (Y_loadS Try.underlying33 rfl sz33 rfl (by first | assumption | exact B1.row (by rfl) | exact B2.row (by rfl) | exact B3.row (by rfl))) ?_  -- l12
          refine S_stM (pre := []) (old := [_, _]) (post := []) (vs := [_, _]) sz33 rfl rfl rfl (by first | rfl | assumption) B2 rfl rfl ?_
          intro w33 m33 X33
          replace B2 := Blk.eq (ys := [_, _]) X33 rfl
          clear X33
          replace G := G.above m33 (by intro i h; first | omega | (dsimp only at h; omega))
          replace hAl := hAl0.grow G
          replace hBl := hBl0.grow G
          replace hEl := hEl0.grow G
          replace OC1 := OC1.mod m33 (by intro k hk h; first | omega | (dsimp only at hk h; omega) | (dsimp only at hk; omega))
          replace OR1 := OR1.mod m33 (by intro k hk h; first | omega | (dsimp only at hk h; omega) | (dsimp only at hk; omega))
          replace O6 := O6.mod m33 (by intro k hk h; first | omega | (dsimp only at hk h; omega) | (dsimp only at hk; omega))
          replace B1 := B1.mod m33 (by intro h; first | omega | (dsimp only at h; omega))
          replace B3 := B3.mod m33 (by intro h; first | omega | (dsimp only at h; omega))
          have zm33 := m33.size
          refine S_nil (L' := (_ :: _ :: _ :: _ :: _ :: _ :: _ :: _ :: _ :: _ :: _ :: _ :: _ :: _ :: _ :: _ :: _ :: _ :: _ :: _ :: _ :: _ :: _ :: _ :: _ :: _ :: _ :: _ :: _ :: _ :: _ :: _ :: _ :: _ :: _ :: _ :: _ :: _ :: _ :: _ :: _ :: _ :: _ :: _ :: _ :: _ :: _ :: _ :: _ :: _ :: _ :: _ :: _ :: _ :: _ :: _ :: _ :: _ :: _ :: _ :: _ :: _ :: _ :: _ :: _ :: _ :: _ :: _ :: _ :: _ :: _ :: _ :: _ :: [])) rfl rfl ?_
          refine th_n ?_
          refine hK20 _ _ ?_
          clear hK20 K20
          refine wp_ret ?_
          refine ret_rc (cs := [_, _]) Try.underlying33 rfl sz33 rfl rfl (B2.row (by rfl)) ?_  -- r1
          have hjr : j = h.roots.length := by omega
          rw [List.take_of_length_le (by omega)] at O6
          rw [hq1, ← hlk] at OC1
          exact ⟨_, _, _, _, _, _, rs, rfl, by show q1 = (o.map (gcell h.cells o)).length; omega, by simp [gathH]; omega, OH.of_parts (h := gathH h o) (OC.grown OC1 OR1 (fun _ h => h) (fun _ h => h)) O6.oi (fun k b h1 h2 h3 => by omega) (fun k hk => by omega) (fun k hk => by omega), G⟩

set_option maxHeartbeats 400000 in
set_option maxRecDepth 20000 in
theorem impl_CopyHeap_c (Pr : Nat → Prop) (A B : Option Addr) (h : LH) (c d : Nat) (w : World) (hA : RC Pr w A h.cells) (hB : R1 Pr w B (ints h.roots)) (hz : hsize h ≤ 1048576) :
    Calls Try.prog 33 #[.agg #[.slice A h.cells.length c, .slice B h.roots.length d]] w (Ret fun v w' => ∃ A1 B1 n1 c1 n2 c2 rs, v = .agg #[.slice A1 n1 c1, .slice B1 n2 c2] ∧ n1 = (copyV h).cells.length ∧ n2 = (copyV h).roots.length ∧ OH (fun i => w.heap.size ≤ i) w' 80 3 A1 B1 (copyV h) rs ∧ Grow w w') := by
  have hz1 := hsize_cells h
  have hz2 := hsize_roots h
  refine enter Try.func33 rfl Try.ntmps33 (L := (_ :: _ :: _ :: _ :: _ :: _ :: _ :: _ :: _ :: _ :: _ :: [])) rfl ?_
  have G := Mod.refl No w
  have hA0 := hA
  have hB0 := hB
  refine wp_seq_k fun K1 hK1 => ?_
  refine wp_region_lit ?_  -- region 0 l15_copying.go:15
  refine S_beg 11 rfl ?_
  refine S_box (cs := [_, _]) rfl rfl ?_
  intro b1 w1 fb1 g1 B1
  have lb1 := B1.lt
  replace hA := hA.grow g1
  replace hB := hB.grow g1
  replace G := G.grow g1
  have zg1 := g1.size
  refine S_alloc (cs := [_, _]) zr33 rfl ?_
  intro b2 w2 fb2 g2 B2
  have lb2 := B2.lt
  replace hA := hA.grow g2
  replace hB := hB.grow g2
  replace G := G.grow g2
  replace B1 := B1.grow g2
  have zg2 := g2.size
  refine S_nil (L' := (_ :: _ :: _ :: _ :: _ :: _ :: _ :: _ :: _ :: _ :: _ :: [])) rfl rfl ?_
  refine th_n ?_
  refine hK1 _ _ ?_
  clear hK1 K1
  refine wp_seq_k fun K2 hK2 => ?_
  refine wp_seq_k fun K3 hK3 => ?_
  refine wp_region_lit ?_  -- region 1 l15_copying.go:16
  refine S_beg 11 rfl ?_
  refine S_val (Y_loadS Try.underlying33 rfl sz33 rfl (by first | assumption | exact B1.row (by rfl) | exact B2.row (by rfl))) ?_  -- l1
  refine S_call rfl en63 (impl_HeapValid_c _ _ _ _ _ _ _ (by assumption) (by assumption) (by omega)) ?_  -- k1 impl.HeapValid
  rintro v3 w3 ⟨rfl, g3⟩
  replace hA := hA.grow g3
  replace hB := hB.grow g3
  replace G := G.grow g3
  replace B1 := B1.grow g3
  replace B2 := B2.grow g3
  have zg3 := g3.size
  refine S_val (Y_not rfl) ?_
  refine S_nil (L' := (_ :: _ :: _ :: _ :: _ :: _ :: _ :: _ :: _ :: _ :: _ :: [])) rfl rfl ?_
  refine th_n ?_
  refine hK3 _ _ ?_
  clear hK3 K3
  refine S_if rfl (fun hb1 => ?_) (fun hb1 => ?_)  -- c1
  · -- c1T
    first | with_reducible (replace hb1 := nb_nt hb1) | with_reducible (replace hb1 := nb_nf hb1) | with_reducible (replace hb1 := nb_tt hb1) | with_reducible (replace hb1 := nb_tf hb1) | with_reducible (replace hb1 := nb_bt hb1) | with_reducible (replace hb1 := nb_bf hb1) | skip
    refine wp_seq_k fun K4 hK4 => ?_
    refine wp_region_lit ?_  -- region 2 l15_copying.go:17
    refine S_beg 11 rfl ?_
    refine S_val (Y_build (cs := [_, _]) zr33 pc33 rfl rfl) ?_
    refine S_stM (pre := []) (old := [_, _]) (post := []) (vs := [_, _]) sz33 rfl rfl rfl (by first | rfl | assumption) B2 rfl rfl ?_
    intro w4 m4 X4
    replace B2 := Blk.eq (ys := [_, _]) X4 rfl
    clear X4
    replace G := G.above m4 (by intro i h; first | omega | (dsimp only at h; omega))
    replace hA := hA0.grow G
    replace hB := hB0.grow G
    replace B1 := B1.mod m4 (by intro h; first | omega | (dsimp only at h; omega))
    have zm4 := m4.size
    refine S_nil (L' := (_ :: _ :: _ :: _ :: _ :: _ :: _ :: _ :: _ :: _ :: _ :: [])) rfl rfl ?_
    refine th_n ?_
    refine hK4 _ _ ?_
    clear hK4 K4
    refine wp_ret ?_
    refine th_r ?_
    clear hK2 K2
    refine ret_rc (cs := [_, _]) Try.underlying33 rfl sz33 rfl rfl (B2.row (by rfl)) ?_  -- r1
    exact ⟨_, _, _, _, _, _, [], rfl, by rw [copyV_f hb1]; rfl, by rw [copyV_f hb1]; rfl, by rw [copyV_f hb1]; exact OH.nil _ _ _ _ _ _, G⟩
  · -- c1F
    first | with_reducible (replace hb1 := nb_nt hb1) | with_reducible (replace hb1 := nb_nf hb1) | with_reducible (replace hb1 := nb_tt hb1) | with_reducible (replace hb1 := nb_tf hb1) | with_reducible (replace hb1 := nb_bt hb1) | with_reducible (replace hb1 := nb_bf hb1) | skip
    have va := valid_iff.1 hb1
    have hl := va.leads
    have h40 := va.le
    have hr4 := va.roots4
    refine wp_skip ?_
    refine th_n ?_
    refine hK2 _ _ ?_
    clear hK2 K2
    refine wp_seq_k fun K5 hK5 => ?_
    refine D_start 5 11 (fun w => Mod (fun i => i = b2) w) follows rfl rfl ?_  -- d1 region 3 l15_copying.go:19
    intro w5 g5
    replace hA := hA.grow g5
    replace hB := hB.grow g5
    replace G := G.grow g5
    replace B1 := B1.grow g5
    replace B2 := B2.grow g5
    have zg5 := g5.size
    have GS5 := Mod.refl (fun i => i = b2) w5
    refine D_q (i := 0) rfl (by kernel_rfl) (fun _ _ _ h => h) GS5 (fun _ hs => Y_loadS Try.underlying33 rfl sz33 rfl (by first | exact CellsAt.mod (by assumption) hs (by intro h; first | omega | (dsimp only at h; omega)) | exact CellsAt.mod (B1.row (by rfl)) hs (by intro h; first | omega | (dsimp only at h; omega)) | exact CellsAt.mod (B2.row (by rfl)) hs (by intro h; first | omega | (dsimp only at h; omega)))) ?_
    refine D_q (i := 1) rfl (by kernel_rfl) (fun _ _ _ h => h) GS5 (fun _ hs => Y_loadS Try.underlying33 rfl sz33 rfl (by first | exact CellsAt.mod (by assumption) hs (by intro h; first | omega | (dsimp only at h; omega)) | exact CellsAt.mod (B1.row (by rfl)) hs (by intro h; first | omega | (dsimp only at h; omega)) | exact CellsAt.mod (B2.row (by rfl)) hs (by intro h; first | omega | (dsimp only at h; omega)))) ?_
    refine D_1 (i := 2) (by kernel_rfl) ?_
    refine E_call rfl rfl en84 (impl_metOrder_c _ _ _ _ _ _ _ (by assumption) (by assumption) (by omega) (by assumption) (by omega)) ?_  -- k2 impl.metOrder
    rintro v6 w6 ⟨A6, q6, cap6, rfl, hq6, O6, g6⟩
    replace hA := hA.grow g6
    replace hB := hB.grow g6
    replace G := G.grow g6
    replace GS5 := GS5.grow g6
    replace B1 := B1.grow g6
    replace B2 := B2.grow g6
    have zg6 := g6.size
    subst hq6
    replace O6 := O6.lt
    have hbn : Bnd h.cells.length (orderL h.cells h.roots nn) := orderL_bnd hl
    have hol := hbn.len
    have hRo := O6.r1
    refine ⟨GS5, ?_⟩
    refine D_1 (i := 3) (by kernel_rfl) ?_
    refine E_call rfl rfl en83 (impl_gathered_c _ _ _ _ _ h (orderL h.cells h.roots nn) _ _ _ _ hA hB hRo (by omega) va hbn) ?_  -- k3 impl.gathered
    rintro v7 w7 ⟨A7, B7, n17, c17, n27, c27, rs7, rfl, hn17, hn27, O7, g7⟩
    replace hA := hA.grow g7
    replace hB := hB.grow g7
    replace hRo := hRo.grow g7
    replace G := G.grow g7
    replace GS5 := GS5.grow g7
    replace B1 := B1.grow g7
    replace B2 := B2.grow g7
    have zg7 := g7.size
    have hn1 := hn17
    have hn2 := hn27
    have OG := O7.lt
    refine ⟨GS5, ?_⟩
    refine D_1 (i := 4) (by kernel_rfl) ?_
    refine E_stM (pre := []) (old := [_, _]) (post := []) (vs := [_, _]) (i := 4) rfl sz33 rfl rfl rfl (by first | rfl | assumption) B2 rfl rfl ?_
    intro w8 m8 X8
    replace B2 := Blk.eq (ys := [_, _]) X8 rfl
    clear X8
    replace G := G.above m8 (by intro i h; first | omega | (dsimp only at h; omega))
    replace GS5 := Mod.trans' GS5 m8 (fun _ h _ => h) (fun i h _ => by first | exact h | omega | (dsimp only at h ⊢; omega) | (subst h; rfl) | (subst h; exact ⟨by omega, rfl⟩))
    replace hA := hA0.grow G
    replace hB := hB0.grow G
    replace hRo := hRo.mod m8 (by intro k hk h; first | omega | (dsimp only at hk h; omega) | (dsimp only at hk; omega))
    replace OG := OG.mod m8 (by intro k hk h; first | omega | (dsimp only at hk h; omega) | (dsimp only at hk; omega))
    replace B1 := B1.mod m8 (by intro h; first | omega | (dsimp only at h; omega))
    have zm8 := m8.size
    refine ⟨GS5, ?_⟩
    refine D_end (L' := (_ :: _ :: _ :: _ :: _ :: _ :: _ :: _ :: _ :: _ :: _ :: [])) (by kernel_rfl) rfl rfl ?_
    refine th_n ?_
    refine hK5 _ _ ?_
    clear hK5 K5
    refine wp_ret ?_
    refine ret_rc (cs := [_, _]) Try.underlying33 rfl sz33 rfl rfl (B2.row (by rfl)) ?_  -- r2
    exact ⟨_, _, _, _, _, _, _, rfl, by rw [copyV_t hb1]; exact hn1, by rw [copyV_t hb1]; exact hn2, by rw [copyV_t hb1]; exact OG.weak (fun i hi => by omega), G⟩

set_option maxHeartbeats 400000 in
set_option maxRecDepth 20000 in
theorem spec_CopyHeap_c (Pr : Nat → Prop) (A B : Option Addr) (h : LH) (c d : Nat) (w : World) (hA : RC Pr w A h.cells) (hB : R1 Pr w B (ints h.roots)) (hz : hsize h ≤ 1048576) :
    Calls Try.prog 32 #[.agg #[.slice A h.cells.length c, .slice B h.roots.length d]] w (Ret fun v w' => ∃ A1 B1 n1 c1 n2 c2 rs, v = .agg #[.slice A1 n1 c1, .slice B1 n2 c2] ∧ n1 = (copyV h).cells.length ∧ n2 = (copyV h).roots.length ∧ OH (fun i => w.heap.size ≤ i) w' 80 3 A1 B1 (copyV h) rs ∧ Grow w w') := by
  have hz1 := hsize_cells h
  have hz2 := hsize_roots h
  refine enter Try.func32 rfl Try.ntmps32 (L := (_ :: _ :: _ :: _ :: _ :: _ :: _ :: _ :: _ :: _ :: _ :: [])) rfl ?_
  have G := Mod.refl No w
  have hA0 := hA
  have hB0 := hB
  refine wp_seq_k fun K1 hK1 => ?_
  refine wp_region_lit ?_  -- region 0 l15_copying.go:6
  refine S_beg 11 rfl ?_
  refine S_box (cs := [_, _]) rfl rfl ?_
  intro b1 w1 fb1 g1 B1
  have lb1 := B1.lt
  replace hA := hA.grow g1
  replace hB := hB.grow g1
  replace G := G.grow g1
  have zg1 := g1.size
  refine S_alloc (cs := [_, _]) zr33 rfl ?_
  intro b2 w2 fb2 g2 B2
  have lb2 := B2.lt
  replace hA := hA.grow g2
  replace hB := hB.grow g2
  replace G := G.grow g2
  replace B1 := B1.grow g2
  have zg2 := g2.size
  refine S_nil (L' := (_ :: _ :: _ :: _ :: _ :: _ :: _ :: _ :: _ :: _ :: _ :: [])) rfl rfl ?_
  refine th_n ?_
  refine hK1 _ _ ?_
  clear hK1 K1
  refine wp_seq_k fun K2 hK2 => ?_
  refine wp_seq_k fun K3 hK3 => ?_
  refine wp_region_lit ?_  -- region 1 l15_copying.go:7
  refine S_beg 11 rfl ?_
  refine S_val (Y_loadS Try.underlying33 rfl sz33 rfl (by first | assumption | exact B1.row (by rfl) | exact B2.row (by rfl))) ?_  -- l1
  refine S_call rfl en60 (spec_HeapValid_c _ _ _ _ _ _ _ (by assumption) (by assumption) (by omega)) ?_  -- k1 spec.HeapValid
  rintro v3 w3 ⟨rfl, g3⟩
  replace hA := hA.grow g3
  replace hB := hB.grow g3
  replace G := G.grow g3
  replace B1 := B1.grow g3
  replace B2 := B2.grow g3
  have zg3 := g3.size
  refine S_val (Y_not rfl) ?_
  refine S_nil (L' := (_ :: _ :: _ :: _ :: _ :: _ :: _ :: _ :: _ :: _ :: _ :: [])) rfl rfl ?_
  refine th_n ?_
  refine hK3 _ _ ?_
  clear hK3 K3
  refine S_if rfl (fun hb1 => ?_) (fun hb1 => ?_)  -- c1
  · -- c1T
    first | with_reducible (replace hb1 := nb_nt hb1) | with_reducible (replace hb1 := nb_nf hb1) | with_reducible (replace hb1 := nb_tt hb1) | with_reducible (replace hb1 := nb_tf hb1) | with_reducible (replace hb1 := nb_bt hb1) | with_reducible (replace hb1 := nb_bf hb1) | skip
    refine wp_seq_k fun K4 hK4 => ?_
    refine wp_region_lit ?_  -- region 2 l15_copying.go:8
    refine S_beg 11 rfl ?_
    refine S_val (Y_build (cs := [_, _]) zr33 pc33 rfl rfl) ?_
    refine S_stM (pre := []) (old := [_, _]) (post := []) (vs := [_, _]) sz33 rfl rfl rfl (by first | rfl | assumption) B2 rfl rfl ?_
    intro w4 m4 X4
    replace B2 := Blk.eq (ys := [_, _]) X4 rfl
    clear X4
    replace G := G.above m4 (by intro i h; first | omega | (dsimp only at h; omega))
    replace hA := hA0.grow G
    replace hB := hB0.grow G
    replace B1 := B1.mod m4 (by intro h; first | omega | (dsimp only at h; omega))
    have zm4 := m4.size
    refine S_nil (L' := (_ :: _ :: _ :: _ :: _ :: _ :: _ :: _ :: _ :: _ :: _ :: [])) rfl rfl ?_
    refine th_n ?_
    refine hK4 _ _ ?_
    clear hK4 K4
    refine wp_ret ?_
    refine th_r ?_
    clear hK2 K2
    refine ret_rc (cs := [_, _]) Try.underlying33 rfl sz33 rfl rfl (B2.row (by rfl)) ?_  -- r1
    exact ⟨_, _, _, _, _, _, [], rfl, by rw [copyV_f hb1]; rfl, by rw [copyV_f hb1]; rfl, by rw [copyV_f hb1]; exact OH.nil _ _ _ _ _ _, G⟩
  · -- c1F
    first | with_reducible (replace hb1 := nb_nt hb1) | with_reducible (replace hb1 := nb_nf hb1) | with_reducible (replace hb1 := nb_tt hb1) | with_reducible (replace hb1 := nb_tf hb1) | with_reducible (replace hb1 := nb_bt hb1) | with_reducible (replace hb1 := nb_bf hb1) | skip
    have va := valid_iff.1 hb1
    have hl := va.leads
    have h40 := va.le
    have hr4 := va.roots4
    refine wp_skip ?_
    refine th_n ?_
    refine hK2 _ _ ?_
    clear hK2 K2
    refine wp_seq_k fun K5 hK5 => ?_
    refine D_start 5 11 (fun w => Mod (fun i => i = b2) w) follows rfl rfl ?_  -- d1 region 3 l15_copying.go:10
    intro w5 g5
    replace hA := hA.grow g5
    replace hB := hB.grow g5
    replace G := G.grow g5
    replace B1 := B1.grow g5
    replace B2 := B2.grow g5
    have zg5 := g5.size
    have GS5 := Mod.refl (fun i => i = b2) w5
    refine D_q (i := 0) rfl (by kernel_rfl) (fun _ _ _ h => h) GS5 (fun _ hs => Y_loadS Try.underlying33 rfl sz33 rfl (by first | exact CellsAt.mod (by assumption) hs (by intro h; first | omega | (dsimp only at h; omega)) | exact CellsAt.mod (B1.row (by rfl)) hs (by intro h; first | omega | (dsimp only at h; omega)) | exact CellsAt.mod (B2.row (by rfl)) hs (by intro h; first | omega | (dsimp only at h; omega)))) ?_
    refine D_q (i := 1) rfl (by kernel_rfl) (fun _ _ _ h => h) GS5 (fun _ hs => Y_loadS Try.underlying33 rfl sz33 rfl (by first | exact CellsAt.mod (by assumption) hs (by intro h; first | omega | (dsimp only at h; omega)) | exact CellsAt.mod (B1.row (by rfl)) hs (by intro h; first | omega | (dsimp only at h; omega)) | exact CellsAt.mod (B2.row (by rfl)) hs (by intro h; first | omega | (dsimp only at h; omega)))) ?_
    refine D_1 (i := 2) (by kernel_rfl) ?_
    refine E_call rfl rfl en82 (spec_l9Order_c _ _ _ _ _ _ _ (by assumption) (by assumption) (by omega) (by assumption)) ?_  -- k2 spec.l9Order
    rintro v6 w6 ⟨A6, q6, cap6, rfl, hq6, O6, g6⟩
    replace hA := hA.grow g6
    replace hB := hB.grow g6
    replace G := G.grow g6
    replace GS5 := GS5.grow g6
    replace B1 := B1.grow g6
    replace B2 := B2.grow g6
    have zg6 := g6.size
    subst hq6
    replace O6 := O6.lt
    have hbn : Bnd h.cells.length (orderL h.cells h.roots nn) := orderL_bnd hl
    have hol := hbn.len
    have hRo := O6.r1
    refine ⟨GS5, ?_⟩
    refine D_1 (i := 3) (by kernel_rfl) ?_
    refine E_call rfl rfl en81 (spec_l15Move_c _ _ _ _ _ h (orderL h.cells h.roots nn) _ _ _ _ hA hB hRo (by omega) va hbn) ?_  -- k3 spec.l15Move
    rintro v7 w7 ⟨A7, B7, n17, c17, n27, c27, rs7, rfl, hn17, hn27, O7, g7⟩
    replace hA := hA.grow g7
    replace hB := hB.grow g7
    replace hRo := hRo.grow g7
    replace G := G.grow g7
    replace GS5 := GS5.grow g7
    replace B1 := B1.grow g7
    replace B2 := B2.grow g7
    have zg7 := g7.size
    have hn1 := hn17
    have hn2 := hn27
    have OG := O7.lt
    refine ⟨GS5, ?_⟩
    refine D_1 (i := 4) (by kernel_rfl) ?_
    refine E_stM (pre := []) (old := [_, _]) (post := []) (vs := [_, _]) (i := 4) rfl sz33 rfl rfl rfl (by first | rfl | assumption) B2 rfl rfl ?_
    intro w8 m8 X8
    replace B2 := Blk.eq (ys := [_, _]) X8 rfl
    clear X8
    replace G := G.above m8 (by intro i h; first | omega | (dsimp only at h; omega))
    replace GS5 := Mod.trans' GS5 m8 (fun _ h _ => h) (fun i h _ => by first | exact h | omega | (dsimp only at h ⊢; omega) | (subst h; rfl) | (subst h; exact ⟨by omega, rfl⟩))
    replace hA := hA0.grow G
    replace hB := hB0.grow G
    replace hRo := hRo.mod m8 (by intro k hk h; first | omega | (dsimp only at hk h; omega) | (dsimp only at hk; omega))
    replace OG := OG.mod m8 (by intro k hk h; first | omega | (dsimp only at hk h; omega) | (dsimp only at hk; omega))
    replace B1 := B1.mod m8 (by intro h; first | omega | (dsimp only at h; omega))
    have zm8 := m8.size
    refine ⟨GS5, ?_⟩
    refine D_end (L' := (_ :: _ :: _ :: _ :: _ :: _ :: _ :: _ :: _ :: _ :: _ :: [])) (by kernel_rfl) rfl rfl ?_
    refine th_n ?_
    refine hK5 _ _ ?_
    clear hK5 K5
    refine wp_ret ?_
    refine ret_rc (cs := [_, _]) Try.underlying33 rfl sz33 rfl rfl (B2.row (by rfl)) ?_  -- r2
    exact ⟨_, _, _, _, _, _, _, rfl, by rw [copyV_t hb1]; exact hn1, by rw [copyV_t hb1]; exact hn2, by rw [copyV_t hb1]; exact OG.weak (fun i hi => by omega), G⟩

set_option maxHeartbeats 400000 in
set_option maxRecDepth 20000 in
theorem impl_SlideHeap_c (Pr : Nat → Prop) (A B : Option Addr) (h : LH) (c d : Nat) (w : World) (hA : RC Pr w A h.cells) (hB : R1 Pr w B (ints h.roots)) (hz : hsize h ≤ 1048576) :
    Calls Try.prog 43 #[.agg #[.slice A h.cells.length c, .slice B h.roots.length d]] w (Ret fun v w' => ∃ A1 B1 n1 c1 n2 c2 rs, v = .agg #[.slice A1 n1 c1, .slice B1 n2 c2] ∧ n1 = (slideV h).cells.length ∧ n2 = (slideV h).roots.length ∧ OH (fun i => w.heap.size ≤ i) w' 80 3 A1 B1 (slideV h) rs ∧ Grow w w') := by
  have hz1 := hsize_cells h
  have hz2 := hsize_roots h
  refine enter Try.func43 rfl Try.ntmps43 (L := (_ :: _ :: _ :: _ :: _ :: _ :: _ :: _ :: _ :: _ :: _ :: [])) rfl ?_
  have G := Mod.refl No w
  have hA0 := hA
  have hB0 := hB
  refine wp_seq_k fun K1 hK1 => ?_
  refine wp_region_lit ?_  -- region 0 l16_sliding.go:16
  refine S_beg 11 rfl ?_
  refine S_box (cs := [_, _]) rfl rfl ?_
  intro b1 w1 fb1 g1 B1
  have lb1 := B1.lt
  replace hA := hA.grow g1
  replace hB := hB.grow g1
  replace G := G.grow g1
  have zg1 := g1.size
  refine S_alloc (cs := [_, _]) zr33 rfl ?_
  intro b2 w2 fb2 g2 B2
  have lb2 := B2.lt
  replace hA := hA.grow g2
  replace hB := hB.grow g2
  replace G := G.grow g2
  replace B1 := B1.grow g2
  have zg2 := g2.size
  refine S_nil (L' := (_ :: _ :: _ :: _ :: _ :: _ :: _ :: _ :: _ :: _ :: _ :: [])) rfl rfl ?_
  refine th_n ?_
  refine hK1 _ _ ?_
  clear hK1 K1
  refine wp_seq_k fun K2 hK2 => ?_
  refine wp_seq_k fun K3 hK3 => ?_
  refine wp_region_lit ?_  -- region 1 l16_sliding.go:17
  refine S_beg 11 rfl ?_
  refine S_val (Y_loadS Try.underlying33 rfl sz33 rfl (by first | assumption | exact B1.row (by rfl) | exact B2.row (by rfl))) ?_  -- l1
  refine S_call rfl en63 (impl_HeapValid_c _ _ _ _ _ _ _ (by assumption) (by assumption) (by omega)) ?_  -- k1 impl.HeapValid
  rintro v3 w3 ⟨rfl, g3⟩
  replace hA := hA.grow g3
  replace hB := hB.grow g3
  replace G := G.grow g3
  replace B1 := B1.grow g3
  replace B2 := B2.grow g3
  have zg3 := g3.size
  refine S_val (Y_not rfl) ?_
  refine S_nil (L' := (_ :: _ :: _ :: _ :: _ :: _ :: _ :: _ :: _ :: _ :: _ :: [])) rfl rfl ?_
  refine th_n ?_
  refine hK3 _ _ ?_
  clear hK3 K3
  refine S_if rfl (fun hb1 => ?_) (fun hb1 => ?_)  -- c1
  · -- c1T
    first | with_reducible (replace hb1 := nb_nt hb1) | with_reducible (replace hb1 := nb_nf hb1) | with_reducible (replace hb1 := nb_tt hb1) | with_reducible (replace hb1 := nb_tf hb1) | with_reducible (replace hb1 := nb_bt hb1) | with_reducible (replace hb1 := nb_bf hb1) | skip
    refine wp_seq_k fun K4 hK4 => ?_
    refine wp_region_lit ?_  -- region 2 l16_sliding.go:18
    refine S_beg 11 rfl ?_
    refine S_val (Y_build (cs := [_, _]) zr33 pc33 rfl rfl) ?_
    refine S_stM (pre := []) (old := [_, _]) (post := []) (vs := [_, _]) sz33 rfl rfl rfl (by first | rfl | assumption) B2 rfl rfl ?_
    intro w4 m4 X4
    replace B2 := Blk.eq (ys := [_, _]) X4 rfl
    clear X4
    replace G := G.above m4 (by intro i h; first | omega | (dsimp only at h; omega))
    replace hA := hA0.grow G
    replace hB := hB0.grow G
    replace B1 := B1.mod m4 (by intro h; first | omega | (dsimp only at h; omega))
    have zm4 := m4.size
    refine S_nil (L' := (_ :: _ :: _ :: _ :: _ :: _ :: _ :: _ :: _ :: _ :: _ :: [])) rfl rfl ?_
    refine th_n ?_
    refine hK4 _ _ ?_
    clear hK4 K4
    refine wp_ret ?_
    refine th_r ?_
    clear hK2 K2
    refine ret_rc (cs := [_, _]) Try.underlying33 rfl sz33 rfl rfl (B2.row (by rfl)) ?_  -- r1
    exact ⟨_, _, _, _, _, _, [], rfl, by rw [slideV_f hb1]; rfl, by rw [slideV_f hb1]; rfl, by rw [slideV_f hb1]; exact OH.nil _ _ _ _ _ _, G⟩
  · -- c1F
    first | with_reducible (replace hb1 := nb_nt hb1) | with_reducible (replace hb1 := nb_nf hb1) | with_reducible (replace hb1 := nb_tt hb1) | with_reducible (replace hb1 := nb_tf hb1) | with_reducible (replace hb1 := nb_bt hb1) | with_reducible (replace hb1 := nb_bf hb1) | skip
    have va := valid_iff.1 hb1
    have hl := va.leads
    have h40 := va.le
    have hr4 := va.roots4
    refine wp_skip ?_
    refine th_n ?_
    refine hK2 _ _ ?_
    clear hK2 K2
    refine wp_seq_k fun K5 hK5 => ?_
    refine D_start 5 11 (fun w => Mod (fun i => i = b2) w) follows rfl rfl ?_  -- d1 region 3 l16_sliding.go:20
    intro w5 g5
    replace hA := hA.grow g5
    replace hB := hB.grow g5
    replace G := G.grow g5
    replace B1 := B1.grow g5
    replace B2 := B2.grow g5
    have zg5 := g5.size
    have GS5 := Mod.refl (fun i => i = b2) w5
    refine D_q (i := 0) rfl (by kernel_rfl) (fun _ _ _ h => h) GS5 (fun _ hs => Y_loadS Try.underlying33 rfl sz33 rfl (by first | exact CellsAt.mod (by assumption) hs (by intro h; first | omega | (dsimp only at h; omega)) | exact CellsAt.mod (B1.row (by rfl)) hs (by intro h; first | omega | (dsimp only at h; omega)) | exact CellsAt.mod (B2.row (by rfl)) hs (by intro h; first | omega | (dsimp only at h; omega)))) ?_
    refine D_q (i := 1) rfl (by kernel_rfl) (fun _ _ _ h => h) GS5 (fun _ hs => Y_loadS Try.underlying33 rfl sz33 rfl (by first | exact CellsAt.mod (by assumption) hs (by intro h; first | omega | (dsimp only at h; omega)) | exact CellsAt.mod (B1.row (by rfl)) hs (by intro h; first | omega | (dsimp only at h; omega)) | exact CellsAt.mod (B2.row (by rfl)) hs (by intro h; first | omega | (dsimp only at h; omega)))) ?_
    refine D_1 (i := 2) (by kernel_rfl) ?_
    refine E_call rfl rfl en73 (impl_slideOrder_c _ _ _ _ _ _ _ (by assumption) (by assumption) (by omega) (by assumption)) ?_  -- k2 impl.slideOrder
    rintro v6 w6 ⟨A6, q6, cap6, rfl, hq6, O6, g6⟩
    replace hA := hA.grow g6
    replace hB := hB.grow g6
    replace G := G.grow g6
    replace GS5 := GS5.grow g6
    replace B1 := B1.grow g6
    replace B2 := B2.grow g6
    have zg6 := g6.size
    subst hq6
    replace O6 := O6.lt
    have hbn : Bnd h.cells.length (slideL h) := selL_bnd _ _
    have hol := hbn.len
    have hRo := O6.r1
    refine ⟨GS5, ?_⟩
    refine D_1 (i := 3) (by kernel_rfl) ?_
    refine E_call rfl rfl en83 (impl_gathered_c _ _ _ _ _ h (slideL h) _ _ _ _ hA hB hRo (by omega) va hbn) ?_  -- k3 impl.gathered
    rintro v7 w7 ⟨A7, B7, n17, c17, n27, c27, rs7, rfl, hn17, hn27, O7, g7⟩
    replace hA := hA.grow g7
    replace hB := hB.grow g7
    replace hRo := hRo.grow g7
    replace G := G.grow g7
    replace GS5 := GS5.grow g7
    replace B1 := B1.grow g7
    replace B2 := B2.grow g7
    have zg7 := g7.size
    have hn1 := hn17
    have hn2 := hn27
    have OG := O7.lt
    refine ⟨GS5, ?_⟩
    refine D_1 (i := 4) (by kernel_rfl) ?_
    refine E_stM (pre := []) (old := [_, _]) (post := []) (vs := [_, _]) (i := 4) rfl sz33 rfl rfl rfl (by first | rfl | assumption) B2 rfl rfl ?_
    intro w8 m8 X8
    replace B2 := Blk.eq (ys := [_, _]) X8 rfl
    clear X8
    replace G := G.above m8 (by intro i h; first | omega | (dsimp only at h; omega))
    replace GS5 := Mod.trans' GS5 m8 (fun _ h _ => h) (fun i h _ => by first | exact h | omega | (dsimp only at h ⊢; omega) | (subst h; rfl) | (subst h; exact ⟨by omega, rfl⟩))
    replace hA := hA0.grow G
    replace hB := hB0.grow G
    replace hRo := hRo.mod m8 (by intro k hk h; first | omega | (dsimp only at hk h; omega) | (dsimp only at hk; omega))
    replace OG := OG.mod m8 (by intro k hk h; first | omega | (dsimp only at hk h; omega) | (dsimp only at hk; omega))
    replace B1 := B1.mod m8 (by intro h; first | omega | (dsimp only at h; omega))
    have zm8 := m8.size
    refine ⟨GS5, ?_⟩
    refine D_end (L' := (_ :: _ :: _ :: _ :: _ :: _ :: _ :: _ :: _ :: _ :: _ :: [])) (by kernel_rfl) rfl rfl ?_
    refine th_n ?_
    refine hK5 _ _ ?_
    clear hK5 K5
    refine wp_ret ?_
    refine ret_rc (cs := [_, _]) Try.underlying33 rfl sz33 rfl rfl (B2.row (by rfl)) ?_  -- r2
    exact ⟨_, _, _, _, _, _, _, rfl, by rw [slideV_t hb1]; exact hn1, by rw [slideV_t hb1]; exact hn2, by rw [slideV_t hb1]; exact OG.weak (fun i hi => by omega), G⟩

set_option maxHeartbeats 400000 in
set_option maxRecDepth 20000 in
theorem spec_SlideHeap_c (Pr : Nat → Prop) (A B : Option Addr) (h : LH) (c d : Nat) (w : World) (hA : RC Pr w A h.cells) (hB : R1 Pr w B (ints h.roots)) (hz : hsize h ≤ 1048576) :
    Calls Try.prog 42 #[.agg #[.slice A h.cells.length c, .slice B h.roots.length d]] w (Ret fun v w' => ∃ A1 B1 n1 c1 n2 c2 rs, v = .agg #[.slice A1 n1 c1, .slice B1 n2 c2] ∧ n1 = (slideV h).cells.length ∧ n2 = (slideV h).roots.length ∧ OH (fun i => w.heap.size ≤ i) w' 80 3 A1 B1 (slideV h) rs ∧ Grow w w') := by
  have hz1 := hsize_cells h
  have hz2 := hsize_roots h
  refine enter Try.func42 rfl Try.ntmps42 (L := (_ :: _ :: _ :: _ :: _ :: _ :: _ :: _ :: _ :: _ :: _ :: [])) rfl ?_
  have G := Mod.refl No w
  have hA0 := hA
  have hB0 := hB
  refine wp_seq_k fun K1 hK1 => ?_
  refine wp_region_lit ?_  -- region 0 l16_sliding.go:18
  refine S_beg 11 rfl ?_
  refine S_box (cs := [_, _]) rfl rfl ?_
  intro b1 w1 fb1 g1 B1
  have lb1 := B1.lt
  replace hA := hA.grow g1
  replace hB := hB.grow g1
  replace G := G.grow g1
  have zg1 := g1.size
  refine S_alloc (cs := [_, _]) zr33 rfl ?_
  intro b2 w2 fb2 g2 B2
  have lb2 := B2.lt
  replace hA := hA.grow g2
  replace hB := hB.grow g2
  replace G := G.grow g2
  replace B1 := B1.grow g2
  have zg2 := g2.size
  refine S_nil (L' := (_ :: _ :: _ :: _ :: _ :: _ :: _ :: _ :: _ :: _ :: _ :: [])) rfl rfl ?_
  refine th_n ?_
  refine hK1 _ _ ?_
  clear hK1 K1
  refine wp_seq_k fun K2 hK2 => ?_
  refine wp_seq_k fun K3 hK3 => ?_
  refine wp_region_lit ?_  -- region 1 l16_sliding.go:19
  refine S_beg 11 rfl ?_
  refine S_val (Y_loadS Try.underlying33 rfl sz33 rfl (by first | assumption | exact B1.row (by rfl) | exact B2.row (by rfl))) ?_  -- l1
  refine S_call rfl en60 (spec_HeapValid_c _ _ _ _ _ _ _ (by assumption) (by assumption) (by omega)) ?_  -- k1 spec.HeapValid
  rintro v3 w3 ⟨rfl, g3⟩
  replace hA := hA.grow g3
  replace hB := hB.grow g3
  replace G := G.grow g3
  replace B1 := B1.grow g3
  replace B2 := B2.grow g3
  have zg3 := g3.size
  refine S_val (Y_not rfl) ?_
  refine S_nil (L' := (_ :: _ :: _ :: _ :: _ :: _ :: _ :: _ :: _ :: _ :: _ :: [])) rfl rfl ?_
  refine th_n ?_
  refine hK3 _ _ ?_
  clear hK3 K3
  refine S_if rfl (fun hb1 => ?_) (fun hb1 => ?_)  -- c1
  · -- c1T
    first | with_reducible (replace hb1 := nb_nt hb1) | with_reducible (replace hb1 := nb_nf hb1) | with_reducible (replace hb1 := nb_tt hb1) | with_reducible (replace hb1 := nb_tf hb1) | with_reducible (replace hb1 := nb_bt hb1) | with_reducible (replace hb1 := nb_bf hb1) | skip
    refine wp_seq_k fun K4 hK4 => ?_
    refine wp_region_lit ?_  -- region 2 l16_sliding.go:20
    refine S_beg 11 rfl ?_
    refine S_val (Y_build (cs := [_, _]) zr33 pc33 rfl rfl) ?_
    refine S_stM (pre := []) (old := [_, _]) (post := []) (vs := [_, _]) sz33 rfl rfl rfl (by first | rfl | assumption) B2 rfl rfl ?_
    intro w4 m4 X4
    replace B2 := Blk.eq (ys := [_, _]) X4 rfl
    clear X4
    replace G := G.above m4 (by intro i h; first | omega | (dsimp only at h; omega))
    replace hA := hA0.grow G
    replace hB := hB0.grow G
    replace B1 := B1.mod m4 (by intro h; first | omega | (dsimp only at h; omega))
    have zm4 := m4.size
    refine S_nil (L' := (_ :: _ :: _ :: _ :: _ :: _ :: _ :: _ :: _ :: _ :: _ :: [])) rfl rfl ?_
    refine th_n ?_
    refine hK4 _ _ ?_
    clear hK4 K4
    refine wp_ret ?_
    refine th_r ?_
    clear hK2 K2
    refine ret_rc (cs := [_, _]) Try.underlying33 rfl sz33 rfl rfl (B2.row (by rfl)) ?_  -- r1
    exact ⟨_, _, _, _, _, _, [], rfl, by rw [slideV_f hb1]; rfl, by rw [slideV_f hb1]; rfl, by rw [slideV_f hb1]; exact OH.nil _ _ _ _ _ _, G⟩
  · -- c1F
    first | with_reducible (replace hb1 := nb_nt hb1) | with_reducible (replace hb1 := nb_nf hb1) | with_reducible (replace hb1 := nb_tt hb1) | with_reducible (replace hb1 := nb_tf hb1) | with_reducible (replace hb1 := nb_bt hb1) | with_reducible (replace hb1 := nb_bf hb1) | skip
    have va := valid_iff.1 hb1
    have hl := va.leads
    have h40 := va.le
    have hr4 := va.roots4
    refine wp_skip ?_
    refine th_n ?_
    refine hK2 _ _ ?_
    clear hK2 K2
    refine wp_seq_k fun K5 hK5 => ?_
    refine D_start 5 11 (fun w => Mod (fun i => i = b2) w) follows rfl rfl ?_  -- d1 region 3 l16_sliding.go:22
    intro w5 g5
    replace hA := hA.grow g5
    replace hB := hB.grow g5
    replace G := G.grow g5
    replace B1 := B1.grow g5
    replace B2 := B2.grow g5
    have zg5 := g5.size
    have GS5 := Mod.refl (fun i => i = b2) w5
    refine D_q (i := 0) rfl (by kernel_rfl) (fun _ _ _ h => h) GS5 (fun _ hs => Y_loadS Try.underlying33 rfl sz33 rfl (by first | exact CellsAt.mod (by assumption) hs (by intro h; first | omega | (dsimp only at h; omega)) | exact CellsAt.mod (B1.row (by rfl)) hs (by intro h; first | omega | (dsimp only at h; omega)) | exact CellsAt.mod (B2.row (by rfl)) hs (by intro h; first | omega | (dsimp only at h; omega)))) ?_
    refine D_q (i := 1) rfl (by kernel_rfl) (fun _ _ _ h => h) GS5 (fun _ hs => Y_loadS Try.underlying33 rfl sz33 rfl (by first | exact CellsAt.mod (by assumption) hs (by intro h; first | omega | (dsimp only at h; omega)) | exact CellsAt.mod (B1.row (by rfl)) hs (by intro h; first | omega | (dsimp only at h; omega)) | exact CellsAt.mod (B2.row (by rfl)) hs (by intro h; first | omega | (dsimp only at h; omega)))) ?_
    refine D_1 (i := 2) (by kernel_rfl) ?_
    refine E_call rfl rfl en69 (spec_l16Order_c _ _ _ _ _ _ _ (by assumption) (by assumption) (by omega) (by assumption)) ?_  -- k2 spec.l16Order
    rintro v6 w6 ⟨A6, q6, cap6, rfl, hq6, O6, g6⟩
    replace hA := hA.grow g6
    replace hB := hB.grow g6
    replace G := G.grow g6
    replace GS5 := GS5.grow g6
    replace B1 := B1.grow g6
    replace B2 := B2.grow g6
    have zg6 := g6.size
    subst hq6
    replace O6 := O6.lt
    have hbn : Bnd h.cells.length (slideL h) := selL_bnd _ _
    have hol := hbn.len
    have hRo := O6.r1
    refine ⟨GS5, ?_⟩
    refine D_1 (i := 3) (by kernel_rfl) ?_
    refine E_call rfl rfl en81 (spec_l15Move_c _ _ _ _ _ h (slideL h) _ _ _ _ hA hB hRo (by omega) va hbn) ?_  -- k3 spec.l15Move
    rintro v7 w7 ⟨A7, B7, n17, c17, n27, c27, rs7, rfl, hn17, hn27, O7, g7⟩
    replace hA := hA.grow g7
    replace hB := hB.grow g7
    replace hRo := hRo.grow g7
    replace G := G.grow g7
    replace GS5 := GS5.grow g7
    replace B1 := B1.grow g7
    replace B2 := B2.grow g7
    have zg7 := g7.size
    have hn1 := hn17
    have hn2 := hn27
    have OG := O7.lt
    refine ⟨GS5, ?_⟩
    refine D_1 (i := 4) (by kernel_rfl) ?_
    refine E_stM (pre := []) (old := [_, _]) (post := []) (vs := [_, _]) (i := 4) rfl sz33 rfl rfl rfl (by first | rfl | assumption) B2 rfl rfl ?_
    intro w8 m8 X8
    replace B2 := Blk.eq (ys := [_, _]) X8 rfl
    clear X8
    replace G := G.above m8 (by intro i h; first | omega | (dsimp only at h; omega))
    replace GS5 := Mod.trans' GS5 m8 (fun _ h _ => h) (fun i h _ => by first | exact h | omega | (dsimp only at h ⊢; omega) | (subst h; rfl) | (subst h; exact ⟨by omega, rfl⟩))
    replace hA := hA0.grow G
    replace hB := hB0.grow G
    replace hRo := hRo.mod m8 (by intro k hk h; first | omega | (dsimp only at hk h; omega) | (dsimp only at hk; omega))
    replace OG := OG.mod m8 (by intro k hk h; first | omega | (dsimp only at hk h; omega) | (dsimp only at hk; omega))
    replace B1 := B1.mod m8 (by intro h; first | omega | (dsimp only at h; omega))
    have zm8 := m8.size
    refine ⟨GS5, ?_⟩
    refine D_end (L' := (_ :: _ :: _ :: _ :: _ :: _ :: _ :: _ :: _ :: _ :: _ :: [])) (by kernel_rfl) rfl rfl ?_
    refine th_n ?_
    refine hK5 _ _ ?_
    clear hK5 K5
    refine wp_ret ?_
    refine ret_rc (cs := [_, _]) Try.underlying33 rfl sz33 rfl rfl (B2.row (by rfl)) ?_  -- r2
    exact ⟨_, _, _, _, _, _, _, rfl, by rw [slideV_t hb1]; exact hn1, by rw [slideV_t hb1]; exact hn2, by rw [slideV_t hb1]; exact OG.weak (fun i hi => by omega), G⟩

end Go.Proofs.Ytdfifnplgbceaab
