/-
  Walks through functions of the program and the reference, and the plain laws behind them: what one claim needs of them.
  Conditions: those that each theorem states.
-/
import Derived.Test.YtikgflhepclfgacQb3
set_option linter.unusedVariables false
set_option linter.unusedSimpArgs false
namespace Go.Proofs.Ytikgflhepclfgac
/-! WalkY -/
section
open Go Go.RowKit
attribute [local irreducible] wpList wpAnyH Code.wp dOp
set_option maxHeartbeats 400000 in
set_option maxRecDepth 20000 in
theorem impl_clone_int__c (Pr : Nat → Prop) (A : Option Addr) (xs : List Int) (c : Nat) (w : World) (hA : R1 Pr w A (ints xs)) (hx : xs.length ≤ 1048576) :
    Calls Try.prog 74 #[.slice A xs.length c] w (Ret fun v w' => ∃ A q cap, v = .slice A q cap ∧ q = xs.length ∧ OW (fun i => w.heap.size ≤ i) w' 3 1 A q cap (ints xs) ∧ Grow w w') := by
 refine enter Try.func74 rfl Try.ntmps74 (L := [_,_,_,_,_,_,_,_]) rfl ?_
 have G := Mod.refl No w
 have hA0 := hA
 refine wp_seq_k fun K1 hK1 => ?_
 refine Sb 8 rfl ?_  -- 0
 refine S_val (Y_assign rfl) ?_
 refine S_nl rfl rfl ?_
 refine th_n (hK1 _ _ ?_)
 clear hK1 K1
 refine wp_seq_k fun K2 hK2 => ?_
 refine Sb 8 rfl ?_  -- 1
 refine S_val (Y_move rfl) ?_
 refine S_val (Y_len Try.underlying23 rfl) ?_
 refine S_make (n := xs.length) (l := 0) (z := [.int .i64 0]) Try.underlying23 zr3 sz3 by3 rfl rfl (by omega) (by omega) (by omega) ?_
 intro b1 w1 fb1 g1 B1
 have lb1 := B1.lt
 replace hA := hA.grow g1
 replace G := G.grow g1
 have zg1 := g1.size
 have O1 := OW.room (Pr := fun i => w.heap.size ≤ i) (s := 1) B1 rfl (by unfold maxLen; omega) (by omega)
 refine S_val (Y_move rfl) ?_
 refine S_app (news := ints xs) Try.underlying23 zr3 sz3 by3 rfl rfl O1 (by rw [ints_len]; omega) (by have hsr := Src.r1 hA; rw [ints_len] at hsr; exact hsr) ints_one (by omega) (Pr' := fun i => w.heap.size ≤ i) (fun i hi => hi) (by omega) ?_
 intro A2 cap2 w2 X2 m2
 replace O1 := X2
 rw [List.nil_append] at O1
 clear X2
 replace G := G.abv m2
 replace hA := hA0.grow G
 have zm2 := m2.size
 refine S_val (Y_assign rfl) ?_
 refine S_nl rfl rfl ?_
 refine th_n (hK2 _ _ ?_)
 clear hK2 K2
 refine wp_ret ?_
 refine ret_r1 rfl rfl ?_  -- r1
 exact ⟨_, _, _, rfl, by omega, O1, G⟩
set_option maxHeartbeats 400000 in
set_option maxRecDepth 20000 in
theorem impl_gathered_c (Pr PF : Nat → Prop) (A B E : Option Addr) (h : LH) (o : List Int) (c d e : Nat) (w : World) (hA : RC Pr w A h.cells) (hB : R1 Pr w B (ints h.roots)) (hE : R1 PF w E (ints o)) (hz : hsize h ≤ 1048576) (va : Valid h) (hbn : Bnd h.cells.length o) :
    Calls Try.prog 97 #[.agg #[.slice A h.cells.length c, .slice B h.roots.length d], .slice E o.length e] w (Ret fun v w' => ∃ A1 B1 n1 c1 n2 c2 rs, v = .agg #[.slice A1 n1 c1, .slice B1 n2 c2] ∧ n1 = (gathH h o).cells.length ∧ n2 = (gathH h o).roots.length ∧ OH (fun i => w.heap.size ≤ i) w' 63 3 A1 B1 (gathH h o) rs ∧ Grow w w') := by
 have hz1 := hsize_cells h
 have hz2 := hsize_roots h
 have hne : (63 : TypeId) ≠ 3 := by decide
 have hol := hbn.len
 have h40 := va.le
 have hr4 := va.roots4
 refine enter Try.func97 rfl Try.ntmps97 (L := [_,_,_,_,_,_,_,_,_,_,_,_,_,_,_,_,_,_,_,_,_,_,_,_,_,_,_,_,_,_,_,_,_,_,_,_,_,_,_,_,_,_,_,_,_]) rfl ?_
 have G := Mod.refl No w
 have hA0 := hA
 have hB0 := hB
 have hE0 := hE
 refine wp_seq_k fun K1 hK1 => ?_
 refine Sb 45 rfl ?_  -- 0
 refine S_box (cs := [_, _]) rfl rfl ?_
 intro b1 w1 fb1 g1 B1
 have lb1 := B1.lt
 replace hA := hA.grow g1
 replace hB := hB.grow g1
 replace hE := hE.grow g1
 replace G := G.grow g1
 have zg1 := g1.size
 refine S_alloc (cs := [_, _]) zr32 rfl ?_
 intro b2 w2 fb2 g2 B2
 have lb2 := B2.lt
 replace hA := hA.grow g2
 replace hB := hB.grow g2
 replace hE := hE.grow g2
 replace G := G.grow g2
 replace B1 := B1.grow g2
 have zg2 := g2.size
 refine S_nl rfl rfl ?_
 refine th_n (hK1 _ _ ?_)
 clear hK1 K1
 refine wp_seq_k fun K2 hK2 => ?_
 refine Sb 45 rfl ?_  -- 1
 refine S_val (Y_move rfl) ?_
 refine S_val (Y_field Try.underlying32 rfl fz32_0 (by decide) rfl) ?_
 refine S_val (Y_load Try.underlying30 rfl rfl (B1.at (by rfl))) ?_  -- l1
 refine S_val (Y_len Try.underlying30 rfl) ?_
 refine S_call rfl en79 (impl_numbersIn_c _ _ _ _ _ _ hE hbn (by omega)) ?_  -- k1 impl.numbersIn
 rintro v3 w3 ⟨b3, rfl, fb3, B3, g3⟩
 replace hA := hA.grow g3
 replace hB := hB.grow g3
 replace hE := hE.grow g3
 replace G := G.grow g3
 replace B1 := B1.grow g3
 replace B2 := B2.grow g3
 have zg3 := g3.size
 have lb3 := B3.lt
 have hRn := R1.of_blkE B3
 refine S_val (Y_assign rfl) ?_
 refine S_nl rfl rfl ?_
 refine th_n (hK2 _ _ ?_)
 clear hK2 K2
 refine wp_seq_k fun K3 hK3 => ?_
 refine Sb 45 rfl ?_  -- 2
 refine S_val (Y_field Try.underlying32 rfl fz32_1 (by decide) rfl) ?_
 refine S_val (Y_load Try.underlying23 rfl rfl (B1.at (by rfl))) ?_  -- l2
 refine S_val (Y_move rfl) ?_
 refine S_call rfl en80 (impl_renamed_c _ _ _ _ _ o _ _ _ _ hB hRn (by omega) (valid_roots va) (fun x hx => (hbn.2 x hx).1)) ?_  -- k2 impl.renamed
 rintro v4 w4 ⟨A4, q4, cap4, rfl, hq4, O4, g4⟩
 replace hA := hA.grow g4
 replace hB := hB.grow g4
 replace hE := hE.grow g4
 replace hRn := hRn.grow g4
 replace G := G.grow g4
 replace B1 := B1.grow g4
 replace B2 := B2.grow g4
 replace B3 := B3.grow g4
 have zg4 := g4.size
 subst hq4
 replace O4 := O4.lt
 have OX := O4
 refine S_val (Y_build (cs := [_, _]) zr32 pc32 rfl rfl) ?_
 refine S_alloc (cs := [_, _]) zr32 rfl ?_
 intro b5 w5 fb5 g5 B5
 have lb5 := B5.lt
 replace hA := hA.grow g5
 replace hB := hB.grow g5
 replace hE := hE.grow g5
 replace hRn := hRn.grow g5
 replace OX := OX.grow g5
 replace G := G.grow g5
 replace B1 := B1.grow g5
 replace B2 := B2.grow g5
 replace B3 := B3.grow g5
 have zg5 := g5.size
 refine S_stM (pre := []) (old := [_, _]) (post := []) (vs := [_, _]) sz32 rfl rfl rfl (by first | rfl | assumption) B5 rfl rfl ?_
 intro w6 m6 X6
 replace B5 := Blk.eq (ys := [_, _]) X6 rfl
 clear X6
 replace G := G.abv m6
 replace hA := hA0.grow G
 replace hB := hB0.grow G
 replace hE := hE0.grow G
 replace hRn := hRn.md m6
 replace OX := OX.md m6
 replace B1 := B1.md m6
 replace B2 := B2.md m6
 replace B3 := B3.md m6
 have zm6 := m6.size
 refine S_nl rfl rfl ?_
 refine th_n (hK3 _ _ ?_)
 clear hK3 K3
 refine wp_seq_k fun K4 hK4 => ?_
 refine wp_seq_k fun K5 hK5 => ?_
 refine Sb 45 rfl ?_  -- 3
 refine S_val (Y_move rfl) ?_
 refine S_val (Y_len Try.underlying23 rfl) ?_
 refine S_val (Y_move rfl) ?_
 refine S_nl rfl rfl ?_
 refine th_n (hK5 _ _ ?_)
 clear hK5 K5
 refine wp_block ?_
 obtain ⟨wz, hwz⟩ : ∃ x, x = w6.heap.size := ⟨_, rfl⟩
 have OC1 : OW (fun i => wz ≤ i) w6 63 3 none 0 0 (flatC ([] : List LC) []) := OW.nil _ _ _ _
 have OR1 : ORs (fun i => wz ≤ i) w6 3 ([] : List LC) [] := ORs.nil _ _ _
 go_loopw [22] (fun u22 wr => (∃ (k q cap : Nat) (A1 : Option Addr) (rs : List (Option Addr × Nat)), u22 = .int .i64 k ∧ k ≤ o.length ∧ q = k ∧ Blk wr b5 32 [.slice A1 q cap, .slice A4 h.roots.length cap4].toArray ∧ OW (fun i => wz ≤ i) wr 63 3 A1 q cap (flatC ((o.take k).map (gcell h.cells o)) rs) ∧ ORs (fun i => wz ≤ i) wr 3 ((o.take k).map (gcell h.cells o)) rs) ∧ Mod (fun i => i = b5 ∨ wz ≤ i) w6 wr) (fun u22 wr => o.length - (intOf u22).toNat)  -- L1
 case atStart =>
  refine ⟨?_, Mod.refl _ _⟩
  exact ⟨0, 0, 0, none, [], rfl, by omega, rfl, B5, OC1, OR1⟩
 case round =>
  obtain ⟨w7, rfl⟩ : ∃ x : World, x = wr := ⟨_, rfl⟩
  obtain ⟨hrel, g7⟩ := hrel
  clear B5
  clear OC1
  clear OR1
  replace G := G.abv g7
  replace hA := hA0.grow G
  replace hB := hB0.grow G
  replace hE := hE0.grow G
  replace hRn := hRn.md g7
  replace OX := OX.md g7
  replace B1 := B1.md g7
  replace B2 := B2.md g7
  replace B3 := B3.md g7
  have zg7 := g7.size
  obtain ⟨k, q1, cap1, A1, rs, rfl, hk, hq1, B5, OC1, OR1⟩ := hrel
  have hlk : ((o.take k).map (gcell h.cells o)).length = k := by simp; omega
  have GL7 := g7
  refine wp_seq_k fun K6 hK6 => ?_
  refine Sb 45 rfl ?_  -- 4
  refine S_val (Y_lss rfl rfl) ?_
  refine S_nl rfl rfl ?_
  refine th_n (hK6 _ _ ?_)
  clear hK6 K6
  refine wp_seq_k fun K7 hK7 => ?_
  refine S_if rfl (fun hb1 => ?_) (fun hb1 => ?_)  -- c1
  · -- c1T
   replace hb1 := nb_tt hb1
   have hk1 : k < o.length := by omega
   obtain ⟨n, hn, hnN, hng⟩ := bnd_at hbn hk1
   obtain ⟨g4, o4, rfl, hp4, hc4⟩ := hE.int hk1
   rw [hn] at hc4
   obtain ⟨g2, o2, E2, d2, rfl, hp2, cc20, hE20⟩ := hA0.cell hnN
   have cc2 := cc20.grow G
   have hE2 := hE20.grow G
   have hr3 := va.refs3 hnN
   have hgs := gath_succ (h := h) hk1 hn hnN
   replace OC1 := OC1.lt
   replace OR1 := OR1.lt
   refine wp_skip ?_
   refine th_n (hK7 _ _ ?_)
   clear hK7 K7
   refine wp_seq_k fun K8 hK8 => ?_
   refine wp_block ?_
   refine wp_seq_k fun K9 hK9 => ?_
   refine Sb 45 rfl ?_  -- 5
   refine S_val (Y_index Try.underlying23 sz3 rfl rfl (by first | assumption | omega)) ?_
   refine S_val (Y_load Try.underlying3 rfl rfl (by first | assumption | exact cc2.at (by rfl) | exact B1.at (by rfl) | exact B2.at (by rfl) | exact B3.at (by rfl) | exact B5.at (by rfl))) ?_  -- l3
   refine S_val (Y_assign rfl) ?_
   refine S_nl rfl rfl ?_
   refine th_n (hK9 _ _ ?_)
   clear hK9 K9
   refine wp_seq_k fun K10 hK10 => ?_
   refine Sb 45 rfl ?_  -- 6
   refine S_val (Y_field Try.underlying32 rfl fz32_0 (by decide) rfl) ?_
   refine S_val (Y_load Try.underlying30 rfl rfl (B1.at (by rfl))) ?_  -- l4
   refine S_val (Y_move rfl) ?_
   refine S_val (Y_index Try.underlying30 sz63 rfl rfl (by first | assumption | omega)) ?_
   refine S_val (Y_loadS Try.underlying63 rfl sz63 rfl (by first | assumption | exact B1.row (by rfl) | exact B2.row (by rfl) | exact B3.row (by rfl) | exact B5.row (by rfl))) ?_  -- l5
   refine S_alloc (cs := [_, _, _]) zr63 rfl ?_
   intro b8 w8 fb8 g8 B8
   have lb8 := B8.lt
   replace hA := hA.grow g8
   replace hB := hB.grow g8
   replace hE := hE.grow g8
   replace cc2 := cc2.grow g8
   replace hE2 := hE2.grow g8
   replace hRn := hRn.grow g8
   replace OX := OX.grow g8
   replace OC1 := OC1.grow g8
   replace OR1 := OR1.grow g8
   replace G := G.grow g8
   replace GL7 := GL7.grow g8
   replace B1 := B1.grow g8
   replace B2 := B2.grow g8
   replace B3 := B3.grow g8
   replace B5 := B5.grow g8
   have zg8 := g8.size
   refine S_stM (pre := []) (old := [_, _, _]) (post := []) (vs := [_, _, _]) sz63 rfl rfl rfl (by first | rfl | assumption) B8 rfl rfl ?_
   intro w9 m9 X9
   replace B8 := Blk.eq (ys := [_, _, _]) X9 rfl
   clear X9
   replace G := G.abv m9
   first | replace GL7 := GL7.abv m9 | clear GL7
   replace hA := hA0.grow G
   replace hB := hB0.grow G
   replace hE := hE0.grow G
   replace cc2 := cc20.grow G
   replace hE2 := hE20.grow G
   replace hRn := hRn.md m9
   replace OX := OX.md m9
   replace OC1 := OC1.md m9
   replace OR1 := OR1.md m9
   replace B1 := B1.md m9
   replace B2 := B2.md m9
   replace B3 := B3.md m9
   replace B5 := B5.md m9
   have zm9 := m9.size
   refine S_nl rfl rfl ?_
   refine th_n (hK10 _ _ ?_)
   clear hK10 K10
   refine D_start 13 45 (fun w => Mod (fun i => i = b5 ∨ (wz ≤ i ∧ i ≠ b8)) w) follows rfl rfl ?_  -- d1 r7
   intro w10 g10
   replace hA := hA.grow g10
   replace hB := hB.grow g10
   replace hE := hE.grow g10
   replace cc2 := cc2.grow g10
   replace hE2 := hE2.grow g10
   replace hRn := hRn.grow g10
   replace OX := OX.grow g10
   replace OC1 := OC1.grow g10
   replace OR1 := OR1.grow g10
   replace G := G.grow g10
   replace GL7 := GL7.grow g10
   replace B1 := B1.grow g10
   replace B2 := B2.grow g10
   replace B3 := B3.grow g10
   replace B5 := B5.grow g10
   replace B8 := B8.grow g10
   have zg10 := g10.size
   have GS10 := Mod.refl (fun i => i = b5 ∨ (wz ≤ i ∧ i ≠ b8)) w10
   refine Dq (i := 0) rfl GS10 (fun _ _ => Y_field Try.underlying32 rfl fz32_0 (by decide) rfl) ?_
   refine Dq (i := 2) rfl GS10 (fun _ _ => Y_field Try.underlying63 rfl fz63_1 (by decide) rfl) ?_
   refine Dq (i := 3) rfl GS10 (fun _ hs => Y_load Try.underlying3 rfl rfl (by first | exact hs.cell (B8.at (by rfl)) (by intro h; first | omega | (dsimp only at h; omega)))) ?_
   refine Dq (i := 4) rfl GS10 (fun _ _ => Y_field Try.underlying63 rfl fz63_2 (by decide) rfl) ?_
   refine Dq (i := 5) rfl GS10 (fun _ hs => Y_load Try.underlying23 rfl rfl (by first | exact hs.cell (B8.at (by rfl)) (by intro h; first | omega | (dsimp only at h; omega)))) ?_
   refine Dq (i := 6) rfl GS10 (fun _ _ => Y_move rfl) ?_
   refine D_2 (i := 1) (j := 7) (by kernel_rfl) ?_ ?_
   · -- operation 1 comes up
    refine E_val (i := 1) rfl (Y_load Try.underlying30 rfl rfl (B5.at (by rfl))) GS10 ?_
    refine D_1 (i := 7) (by kernel_rfl) ?_
    refine E_call rfl rfl en80 (impl_renamed_c _ _ _ _ _ o _ _ _ _ hE2 hRn (by omega) (valid_refs va hnN) (fun x hx => (hbn.2 x hx).1)) ?_  -- k3 impl.renamed
    rintro v12 w12 ⟨A12, q12, cap12, rfl, hq12, O12, g12⟩
    replace hA := hA.grow g12
    replace hB := hB.grow g12
    replace hE := hE.grow g12
    replace cc2 := cc2.grow g12
    replace hE2 := hE2.grow g12
    replace hRn := hRn.grow g12
    replace OX := OX.grow g12
    replace OC1 := OC1.grow g12
    replace OR1 := OR1.grow g12
    replace G := G.grow g12
    replace GL7 := GL7.grow g12
    replace GS10 := GS10.grow g12
    replace B1 := B1.grow g12
    replace B2 := B2.grow g12
    replace B3 := B3.grow g12
    replace B5 := B5.grow g12
    replace B8 := B8.grow g12
    have zg12 := g12.size
    replace hq12 : q12 = (h.cells[n].refs.map (nameIn o)).length := hq12.trans (List.length_map ..).symm
    subst hq12
    obtain ⟨AY, rfl⟩ : ∃ x, x = A12 := ⟨_, rfl⟩
    obtain ⟨capY, rfl⟩ : ∃ x, x = cap12 := ⟨_, rfl⟩
    have OY := O12
    refine ⟨GS10, ?_⟩
    refine Dq (i := 8) rfl GS10 (fun _ _ => Y_build (cs := [_, _, _]) zr63 pc63 rfl rfl) ?_
    refine D_1 (i := 9) (by kernel_rfl) ?_
    refine E_bs1 (cs := [_, _, _]) (i := 9) rfl Try.underlying30 zr63 sz63 rfl rfl rfl ?_
    intro b13 w13 fb13 g13 B13
    refine ⟨GS10.grow g13, ?_⟩
    have lb13 := B13.lt
    replace hA := hA.grow g13
    replace hB := hB.grow g13
    replace hE := hE.grow g13
    replace cc2 := cc2.grow g13
    replace hE2 := hE2.grow g13
    replace hRn := hRn.grow g13
    replace OX := OX.grow g13
    replace OC1 := OC1.grow g13
    replace OR1 := OR1.grow g13
    replace OY := OY.grow g13
    replace G := G.grow g13
    replace GL7 := GL7.grow g13
    replace GS10 := GS10.grow g13
    replace B1 := B1.grow g13
    replace B2 := B2.grow g13
    replace B3 := B3.grow g13
    replace B5 := B5.grow g13
    replace B8 := B8.grow g13
    have zg13 := g13.size
    refine D_1 (i := 10) (by kernel_rfl) ?_
    refine E_app2 (i := 10) rfl Try.underlying30 zr63 sz63 by63 rfl rfl OC1 rfl (Src.blk B13) (by simp [Value.oneCell']) (by omega) (Pr' := fun i => wz ≤ i ∧ i ≠ b8) (fun i hi => by omega) (by omega) ?_
    intro A14 cap14 w14 X14 m14 n14
    replace OR1 := OR1.app OC1 hne n14
    replace OC1 := X14
    clear X14 n14
    replace G := G.abv m14
    replace GL7 := GL7.trn m14
    replace GS10 := GS10.trn m14
    replace hA := hA0.grow G
    replace hB := hB0.grow G
    replace hE := hE0.grow G
    replace cc2 := cc20.grow G
    replace hE2 := hE20.grow G
    replace hRn := hRn.md m14
    replace OX := OX.md m14
    replace OY := OY.md m14
    replace B1 := B1.md m14
    replace B2 := B2.md m14
    replace B3 := B3.md m14
    replace B5 := B5.md m14
    replace B8 := B8.md m14
    have zm14 := m14.size
    refine ⟨GS10, ?_⟩
    have OR2 := OR1.more (c := ⟨true, h.cells[n].data, h.cells[n].refs.map (nameIn o)⟩) OY (fun i hi => by omega) (Pr' := fun i => wz ≤ i) (fun i hi => by omega) (fun i hi => by omega)
    replace OC1 : OW (fun i => wz ≤ i ∧ i ≠ b8) w14 63 3 A14 (q1 + 1) cap14 (flatC ((o.take (k + 1)).map (gcell h.cells o)) (rs ++ [(AY, capY)])) := by rw [hgs, ← flat_more OR1.len]; exact OC1
    rw [← hgs] at OR2
    refine Dq (i := 11) rfl GS10 (fun _ _ => Y_field Try.underlying32 rfl fz32_0 (by decide) rfl) ?_
    refine D_1 (i := 12) (by kernel_rfl) ?_
    refine E_stM (pre := []) (old := [_]) (post := [_]) (vs := [_]) (i := 12) rfl sz30 rfl rfl rfl (by first | rfl | assumption) B5 rfl rfl ?_
    intro w15 m15 X15
    replace B5 := Blk.eq (ys := [_, _]) X15 rfl
    clear X15
    replace G := G.abv m15
    replace GL7 := GL7.trn m15
    replace GS10 := GS10.trn m15
    replace hA := hA0.grow G
    replace hB := hB0.grow G
    replace hE := hE0.grow G
    replace cc2 := cc20.grow G
    replace hE2 := hE20.grow G
    replace hRn := hRn.md m15
    replace OX := OX.md m15
    replace OC1 := OC1.md m15
    replace OR2 := OR2.md m15
    replace B1 := B1.md m15
    replace B2 := B2.md m15
    replace B3 := B3.md m15
    replace B8 := B8.md m15
    have zm15 := m15.size
    refine ⟨GS10, ?_⟩
    refine D_en (by kernel_rfl) rfl rfl ?_
    refine ib_n ?_
    refine th_n (hK8 _ _ ?_)
    clear hK8 K8
    refine Sb 45 rfl ?_  -- 8
    refine S_val (Y_inc rfl rfl (by omega)) ?_
    refine S_val (Y_move rfl) ?_
    refine S_nl rfl rfl ?_
    refine th_n ?_
    go_roundw  -- e1 of L1
    case rel =>
     refine ⟨?_, GL7⟩
     exact ⟨k + 1, _, _, _, _, rfl, by omega, by omega, B5, OC1.weak (fun i hi => hi.1), OR2⟩
    case measure =>
     exact dec_nat (by omega)
   · -- operation 7 comes up
    refine E_call rfl rfl en80 (impl_renamed_c _ _ _ _ _ o _ _ _ _ hE2 hRn (by omega) (valid_refs va hnN) (fun x hx => (hbn.2 x hx).1)) ?_  -- k4 impl.renamed
    rintro v16 w16 ⟨A16, q16, cap16, rfl, hq16, O16, g16⟩
    replace hA := hA.grow g16
    replace hB := hB.grow g16
    replace hE := hE.grow g16
    replace cc2 := cc2.grow g16
    replace hE2 := hE2.grow g16
    replace hRn := hRn.grow g16
    replace OX := OX.grow g16
    replace OC1 := OC1.grow g16
    replace OR1 := OR1.grow g16
    replace G := G.grow g16
    replace GL7 := GL7.grow g16
    replace GS10 := GS10.grow g16
    replace B1 := B1.grow g16
    replace B2 := B2.grow g16
    replace B3 := B3.grow g16
    replace B5 := B5.grow g16
    replace B8 := B8.grow g16
    have zg16 := g16.size
    replace hq16 : q16 = (h.cells[n].refs.map (nameIn o)).length := hq16.trans (List.length_map ..).symm
    subst hq16
    obtain ⟨AY, rfl⟩ : ∃ x, x = A16 := ⟨_, rfl⟩
    obtain ⟨capY, rfl⟩ : ∃ x, x = cap16 := ⟨_, rfl⟩
    have OY := O16
    refine ⟨GS10, ?_⟩
    refine Dq (i := 8) rfl GS10 (fun _ _ => Y_build (cs := [_, _, _]) zr63 pc63 rfl rfl) ?_
    refine D_2 (i := 1) (j := 9) (by kernel_rfl) ?_ ?_
    · -- operation 1 comes up
     refine E_val (i := 1) rfl (Y_load Try.underlying30 rfl rfl (B5.at (by rfl))) GS10 ?_
     refine D_1 (i := 9) (by kernel_rfl) ?_
     refine E_bs1 (cs := [_, _, _]) (i := 9) rfl Try.underlying30 zr63 sz63 rfl rfl rfl ?_
     intro b18 w18 fb18 g18 B18
     refine ⟨GS10.grow g18, ?_⟩
     have lb18 := B18.lt
     replace hA := hA.grow g18
     replace hB := hB.grow g18
     replace hE := hE.grow g18
     replace cc2 := cc2.grow g18
     replace hE2 := hE2.grow g18
     replace hRn := hRn.grow g18
     replace OX := OX.grow g18
     replace OC1 := OC1.grow g18
     replace OR1 := OR1.grow g18
     replace OY := OY.grow g18
     replace G := G.grow g18
     replace GL7 := GL7.grow g18
     replace GS10 := GS10.grow g18
     replace B1 := B1.grow g18
     replace B2 := B2.grow g18
     replace B3 := B3.grow g18
     replace B5 := B5.grow g18
     replace B8 := B8.grow g18
     have zg18 := g18.size
     refine D_1 (i := 10) (by kernel_rfl) ?_
     refine E_app2 (i := 10) rfl Try.underlying30 zr63 sz63 by63 rfl rfl OC1 rfl (Src.blk B18) (by simp [Value.oneCell']) (by omega) (Pr' := fun i => wz ≤ i ∧ i ≠ b8) (fun i hi => by omega) (by omega) ?_
     intro A19 cap19 w19 X19 m19 n19
     replace OR1 := OR1.app OC1 hne n19
     replace OC1 := X19
     clear X19 n19
     replace G := G.abv m19
     replace GL7 := GL7.trn m19
     replace GS10 := GS10.trn m19
     replace hA := hA0.grow G
     replace hB := hB0.grow G
     replace hE := hE0.grow G
     replace cc2 := cc20.grow G
     replace hE2 := hE20.grow G
     replace hRn := hRn.md m19
     replace OX := OX.md m19
     replace OY := OY.md m19
     replace B1 := B1.md m19
     replace B2 := B2.md m19
     replace B3 := B3.md m19
     replace B5 := B5.md m19
     replace B8 := B8.md m19
     have zm19 := m19.size
     refine ⟨GS10, ?_⟩
     have OR2 := OR1.more (c := ⟨true, h.cells[n].data, h.cells[n].refs.map (nameIn o)⟩) OY (fun i hi => by omega) (Pr' := fun i => wz ≤ i) (fun i hi => by omega) (fun i hi => by omega)
     replace OC1 : OW (fun i => wz ≤ i ∧ i ≠ b8) w19 63 3 A19 (q1 + 1) cap19 (flatC ((o.take (k + 1)).map (gcell h.cells o)) (rs ++ [(AY, capY)])) := by rw [hgs, ← flat_more OR1.len]; exact OC1
     rw [← hgs] at OR2
     refine Dq (i := 11) rfl GS10 (fun _ _ => Y_field Try.underlying32 rfl fz32_0 (by decide) rfl) ?_
     refine D_1 (i := 12) (by kernel_rfl) ?_
     refine E_stM (pre := []) (old := [_]) (post := [_]) (vs := [_]) (i := 12) rfl sz30 rfl rfl rfl (by first | rfl | assumption) B5 rfl rfl ?_
     intro w20 m20 X20
     replace B5 := Blk.eq (ys := [_, _]) X20 rfl
     clear X20
     replace G := G.abv m20
     replace GL7 := GL7.trn m20
     replace GS10 := GS10.trn m20
     replace hA := hA0.grow G
     replace hB := hB0.grow G
     replace hE := hE0.grow G
     replace cc2 := cc20.grow G
     replace hE2 := hE20.grow G
     replace hRn := hRn.md m20
     replace OX := OX.md m20
     replace OC1 := OC1.md m20
     replace OR2 := OR2.md m20
     replace B1 := B1.md m20
     replace B2 := B2.md m20
     replace B3 := B3.md m20
     replace B8 := B8.md m20
     have zm20 := m20.size
     refine ⟨GS10, ?_⟩
     refine D_en (by kernel_rfl) rfl rfl ?_
     refine ib_n ?_
     refine th_n (hK8 _ _ ?_)
     clear hK8 K8
     refine Sb 45 rfl ?_  -- 8
     refine S_val (Y_inc rfl rfl (by omega)) ?_
     refine S_val (Y_move rfl) ?_
     refine S_nl rfl rfl ?_
     refine th_n ?_
     go_roundw  -- e2 of L1
     case rel =>
      refine ⟨?_, GL7⟩
      exact ⟨k + 1, _, _, _, _, rfl, by omega, by omega, B5, OC1.weak (fun i hi => hi.1), OR2⟩
     case measure =>
      exact dec_nat (by omega)
    · -- operation 9 comes up
     refine E_bs1 (cs := [_, _, _]) (i := 9) rfl Try.underlying30 zr63 sz63 rfl rfl rfl ?_
     intro b21 w21 fb21 g21 B21
     refine ⟨GS10.grow g21, ?_⟩
     have lb21 := B21.lt
     replace hA := hA.grow g21
     replace hB := hB.grow g21
     replace hE := hE.grow g21
     replace cc2 := cc2.grow g21
     replace hE2 := hE2.grow g21
     replace hRn := hRn.grow g21
     replace OX := OX.grow g21
     replace OC1 := OC1.grow g21
     replace OR1 := OR1.grow g21
     replace OY := OY.grow g21
     replace G := G.grow g21
     replace GL7 := GL7.grow g21
     replace GS10 := GS10.grow g21
     replace B1 := B1.grow g21
     replace B2 := B2.grow g21
     replace B3 := B3.grow g21
     replace B5 := B5.grow g21
     replace B8 := B8.grow g21
     have zg21 := g21.size
     refine D_1 (i := 1) (by kernel_rfl) ?_
     refine E_val (i := 1) rfl (Y_load Try.underlying30 rfl rfl (B5.at (by rfl))) GS10 ?_
     refine D_1 (i := 10) (by kernel_rfl) ?_
     refine E_app2 (i := 10) rfl Try.underlying30 zr63 sz63 by63 rfl rfl OC1 rfl (Src.blk B21) (by simp [Value.oneCell']) (by omega) (Pr' := fun i => wz ≤ i ∧ i ≠ b8) (fun i hi => by omega) (by omega) ?_
     intro A23 cap23 w23 X23 m23 n23
     replace OR1 := OR1.app OC1 hne n23
     replace OC1 := X23
     clear X23 n23
     replace G := G.abv m23
     replace GL7 := GL7.trn m23
     replace GS10 := GS10.trn m23
     replace hA := hA0.grow G
     replace hB := hB0.grow G
     replace hE := hE0.grow G
     replace cc2 := cc20.grow G
     replace hE2 := hE20.grow G
     replace hRn := hRn.md m23
     replace OX := OX.md m23
     replace OY := OY.md m23
     replace B1 := B1.md m23
     replace B2 := B2.md m23
     replace B3 := B3.md m23
     replace B5 := B5.md m23
     replace B8 := B8.md m23
     have zm23 := m23.size
     refine ⟨GS10, ?_⟩
     have OR2 := OR1.more (c := ⟨true, h.cells[n].data, h.cells[n].refs.map (nameIn o)⟩) OY (fun i hi => by omega) (Pr' := fun i => wz ≤ i) (fun i hi => by omega) (fun i hi => by omega)
     replace OC1 : OW (fun i => wz ≤ i ∧ i ≠ b8) w23 63 3 A23 (q1 + 1) cap23 (flatC ((o.take (k + 1)).map (gcell h.cells o)) (rs ++ [(AY, capY)])) := by rw [hgs, ← flat_more OR1.len]; exact OC1
     rw [← hgs] at OR2
     refine Dq (i := 11) rfl GS10 (fun _ _ => Y_field Try.underlying32 rfl fz32_0 (by decide) rfl) ?_
     refine D_1 (i := 12) (by kernel_rfl) ?_
     refine E_stM (pre := []) (old := [_]) (post := [_]) (vs := [_]) (i := 12) rfl sz30 rfl rfl rfl (by first | rfl | assumption) B5 rfl rfl ?_
     intro w24 m24 X24
     replace B5 := Blk.eq (ys := [_, _]) X24 rfl
     clear X24
     replace G := G.abv m24
     replace GL7 := GL7.trn m24
     replace GS10 := GS10.trn m24
     replace hA := hA0.grow G
     replace hB := hB0.grow G
     replace hE := hE0.grow G
     replace cc2 := cc20.grow G
     replace hE2 := hE20.grow G
     replace hRn := hRn.md m24
     replace OX := OX.md m24
     replace OC1 := OC1.md m24
     replace OR2 := OR2.md m24
     replace B1 := B1.md m24
     replace B2 := B2.md m24
     replace B3 := B3.md m24
     replace B8 := B8.md m24
     have zm24 := m24.size
     refine ⟨GS10, ?_⟩
     refine D_en (by kernel_rfl) rfl rfl ?_
     refine ib_n ?_
     refine th_n (hK8 _ _ ?_)
     clear hK8 K8
     refine Sb 45 rfl ?_  -- 8
     refine S_val (Y_inc rfl rfl (by omega)) ?_
     refine S_val (Y_move rfl) ?_
     refine S_nl rfl rfl ?_
     refine th_n ?_
     go_roundw  -- e3 of L1
     case rel =>
      refine ⟨?_, GL7⟩
      exact ⟨k + 1, _, _, _, _, rfl, by omega, by omega, B5, OC1.weak (fun i hi => hi.1), OR2⟩
     case measure =>
      exact dec_nat (by omega)
  · -- c1F
   replace hb1 := nb_tf hb1
   refine wp_exit ?_
   refine th_x ?_
   try clear GL7
   refine th_x ?_
   refine ib_e ?_
   refine th_n (hK4 _ _ ?_)
   clear hK7 K7 hK4 K4
   refine wp_seq_k fun K11 hK11 => ?_
   refine Sb 45 rfl ?_  -- 9
   refine S_val (Y_loadS Try.underlying32 rfl sz32 rfl (B5.row (by rfl))) ?_  -- l8
   refine S_stM (pre := []) (old := [_, _]) (post := []) (vs := [_, _]) sz32 rfl rfl rfl (by first | rfl | assumption) B2 rfl rfl ?_
   intro w25 m25 X25
   replace B2 := Blk.eq (ys := [_, _]) X25 rfl
   clear X25
   replace G := G.abv m25
   replace hA := hA0.grow G
   replace hB := hB0.grow G
   replace hE := hE0.grow G
   replace hRn := hRn.md m25
   replace OX := OX.md m25
   replace OC1 := OC1.md m25
   replace OR1 := OR1.md m25
   replace B1 := B1.md m25
   replace B3 := B3.md m25
   replace B5 := B5.md m25
   have zm25 := m25.size
   refine S_nl rfl rfl ?_
   refine th_n (hK11 _ _ ?_)
   clear hK11 K11
   refine wp_ret ?_
   refine ret_rc (cs := [_, _]) Try.underlying32 rfl sz32 rfl rfl (B2.row (by rfl)) ?_  -- r1
   rw [List.take_of_length_le (by omega)] at hlk OC1 OR1
   rw [hq1, ← hlk] at OC1
   exact ⟨_, _, _, _, _, _, rs, rfl, by show q1 = (o.map (gcell h.cells o)).length; omega, by simp [gathH], OH.of_parts (h := gathH h o) (OC.grown OC1 OR1 (fun _ h => h) (fun _ h => h)) OX.oi (fun k b h1 h2 h3 => by omega) (fun k hk => by omega) (fun k hk => by omega), G⟩
set_option maxHeartbeats 400000 in
set_option maxRecDepth 20000 in
theorem spec_l15Move_c (Pr PF : Nat → Prop) (A B E : Option Addr) (h : LH) (o : List Int) (c d e : Nat) (w : World) (hA : RC Pr w A h.cells) (hB : R1 Pr w B (ints h.roots)) (hE : R1 PF w E (ints o)) (hz : hsize h ≤ 1048576) (va : Valid h) (hbn : Bnd h.cells.length o) :
    Calls Try.prog 98 #[.agg #[.slice A h.cells.length c, .slice B h.roots.length d], .slice E o.length e] w (Ret fun v w' => ∃ A1 B1 n1 c1 n2 c2 rs, v = .agg #[.slice A1 n1 c1, .slice B1 n2 c2] ∧ n1 = (gathH h o).cells.length ∧ n2 = (gathH h o).roots.length ∧ OH (fun i => w.heap.size ≤ i) w' 63 3 A1 B1 (gathH h o) rs ∧ Grow w w') := by
 have hz1 := hsize_cells h
 have hz2 := hsize_roots h
 have hne : (63 : TypeId) ≠ 3 := by decide
 have hol := hbn.len
 have h40 := va.le
 have hr4 := va.roots4
 have hAl := hA.below
 have hBl := hB.below
 have hEl := hE.below
 refine enter Try.func98 rfl Try.ntmps98 (L := [_,_,_,_,_,_,_,_,_,_,_,_,_,_,_,_,_,_,_,_,_,_,_,_,_,_,_,_,_,_,_,_,_,_,_,_,_,_,_,_,_,_,_,_,_,_,_,_,_,_,_,_,_,_,_,_,_,_,_,_,_,_,_,_,_,_,_,_,_,_,_,_,_]) rfl ?_
 have G := Mod.refl No w
 have hAl0 := hAl
 have hBl0 := hBl
 have hEl0 := hEl
 refine wp_seq_k fun K1 hK1 => ?_
 refine Sb 73 rfl ?_  -- 0
 refine S_box (cs := [_, _]) rfl rfl ?_
 intro b1 w1 fb1 g1 B1
 have lb1 := B1.lt
 replace hAl := hAl.grow g1
 replace hBl := hBl.grow g1
 replace hEl := hEl.grow g1
 replace G := G.grow g1
 have zg1 := g1.size
 refine S_alloc (cs := [_, _]) zr32 rfl ?_
 intro b2 w2 fb2 g2 B2
 have lb2 := B2.lt
 replace hAl := hAl.grow g2
 replace hBl := hBl.grow g2
 replace hEl := hEl.grow g2
 replace G := G.grow g2
 replace B1 := B1.grow g2
 have zg2 := g2.size
 refine S_nl rfl rfl ?_
 refine th_n (hK1 _ _ ?_)
 clear hK1 K1
 refine wp_seq_k fun K2 hK2 => ?_
 refine Sb 73 rfl ?_  -- 1
 refine S_val (Y_build (cs := [_, _]) zr32 pc32 rfl rfl) ?_
 refine S_alloc (cs := [_, _]) zr32 rfl ?_
 intro b3 w3 fb3 g3 B3
 have lb3 := B3.lt
 replace hAl := hAl.grow g3
 replace hBl := hBl.grow g3
 replace hEl := hEl.grow g3
 replace G := G.grow g3
 replace B1 := B1.grow g3
 replace B2 := B2.grow g3
 have zg3 := g3.size
 refine S_stM (pre := []) (old := [_, _]) (post := []) (vs := [_, _]) sz32 rfl rfl rfl (by first | rfl | assumption) B3 rfl rfl ?_
 intro w4 m4 X4
 replace B3 := Blk.eq (ys := [_, _]) X4 rfl
 clear X4
 replace G := G.abv m4
 replace hAl := hAl0.grow G
 replace hBl := hBl0.grow G
 replace hEl := hEl0.grow G
 replace B1 := B1.md m4
 replace B2 := B2.md m4
 have zm4 := m4.size
 refine S_nl rfl rfl ?_
 refine th_n (hK2 _ _ ?_)
 clear hK2 K2
 refine wp_seq_k fun K3 hK3 => ?_
 refine wp_seq_k fun K4 hK4 => ?_
 refine Sb 73 rfl ?_  -- 2
 refine S_val (Y_assign rfl) ?_
 refine S_nl rfl rfl ?_
 refine th_n (hK4 _ _ ?_)
 clear hK4 K4
 refine wp_block ?_
 obtain ⟨wz, hwz⟩ : ∃ x, x = w4.heap.size := ⟨_, rfl⟩
 have OC1 : OW (fun i => wz ≤ i) w4 63 3 none 0 0 (flatC ([] : List LC) []) := OW.nil _ _ _ _
 have OR1 : ORs (fun i => wz ≤ i) w4 3 ([] : List LC) [] := ORs.nil _ _ _
 go_loopw [6] (fun u6 wr => (∃ (k q cap : Nat) (A1 : Option Addr) (rs : List (Option Addr × Nat)), u6 = .int .i64 k ∧ k ≤ o.length ∧ q = k ∧ Blk wr b3 32 [.slice A1 q cap, .slice none 0 0].toArray ∧ OW (fun i => wz ≤ i) wr 63 3 A1 q cap (flatC ((o.take k).map (gcell h.cells o)) rs) ∧ ORs (fun i => wz ≤ i) wr 3 ((o.take k).map (gcell h.cells o)) rs) ∧ Mod (fun i => i = b3 ∨ wz ≤ i) w4 wr) (fun u6 wr => o.length - (intOf u6).toNat)  -- L1
 case atStart =>
  refine ⟨?_, Mod.refl _ _⟩
  exact ⟨0, 0, 0, none, [], rfl, by omega, rfl, B3, OC1, OR1⟩
 case round =>
  obtain ⟨w5, rfl⟩ : ∃ x : World, x = wr := ⟨_, rfl⟩
  obtain ⟨hrel, g5⟩ := hrel
  clear B3
  clear OC1
  clear OR1
  replace G := G.abv g5
  replace hAl := hAl0.grow G
  replace hBl := hBl0.grow G
  replace hEl := hEl0.grow G
  replace B1 := B1.md g5
  replace B2 := B2.md g5
  have zg5 := g5.size
  obtain ⟨k, q1, cap1, A1, rs, rfl, hk, hq1, B3, OC1, OR1⟩ := hrel
  have hlk : ((o.take k).map (gcell h.cells o)).length = k := by simp; omega
  have GL5 := g5
  refine wp_seq_k fun K5 hK5 => ?_
  refine wp_seq_k fun K6 hK6 => ?_
  refine Sb 73 rfl ?_  -- 3
  refine S_val (Y_move rfl) ?_
  refine S_val (Y_move rfl) ?_
  refine S_val (Y_len Try.underlying23 rfl) ?_
  refine S_val (Y_lss rfl rfl) ?_
  refine S_nl rfl rfl ?_
  refine th_n (hK6 _ _ ?_)
  clear hK6 K6
  refine S_if rfl (fun hb1 => ?_) (fun hb1 => ?_)  -- c1
  · -- c1T
   replace hb1 := nb_tt hb1
   have hk1 : k < o.length := by omega
   obtain ⟨n, hn, hnN, hng⟩ := bnd_at hbn hk1
   obtain ⟨g2, o2, E2, d2, rfl, hp2, cc20, hE20⟩ := hAl0.cell hnN
   have cc2 := cc20.grow G
   have hE2 := hE20.grow G
   have hr3 := va.refs3 hnN
   have hgs := gath_succ (h := h) hk1 hn hnN
   replace OC1 := OC1.lt
   replace OR1 := OR1.lt
   refine wp_skip ?_
   refine th_n (hK5 _ _ ?_)
   clear hK5 K5
   refine wp_seq_k fun K7 hK7 => ?_
   refine wp_block ?_
   refine wp_seq_k fun K8 hK8 => ?_
   refine D_start 10 73 (fun w => Mod (No) w) follows rfl rfl ?_  -- d1 r5
   intro w6 g6
   replace hAl := hAl.grow g6
   replace hBl := hBl.grow g6
   replace hEl := hEl.grow g6
   replace cc2 := cc2.grow g6
   replace hE2 := hE2.grow g6
   replace OC1 := OC1.grow g6
   replace OR1 := OR1.grow g6
   replace G := G.grow g6
   replace GL5 := GL5.grow g6
   replace B1 := B1.grow g6
   replace B2 := B2.grow g6
   replace B3 := B3.grow g6
   have zg6 := g6.size
   have GS6 := Mod.refl (No) w6
   obtain ⟨g4, o4, rfl, hp4, hc4⟩ := hEl.int hk1
   rw [hn] at hc4
   have B1d6 := B1
   refine Dq (i := 0) rfl GS6 (fun _ _ => Y_field Try.underlying32 rfl fz32_0 (by decide) rfl) ?_
   refine Dq (i := 1) rfl GS6 (fun _ hs => Y_load Try.underlying30 rfl rfl (hs.cell0 (B1.at (by rfl)))) ?_
   refine Dq (i := 2) rfl GS6 (fun _ _ => Y_move rfl) ?_
   refine Dq (i := 3) rfl GS6 (fun _ _ => Y_move rfl) ?_
   refine Dq (i := 4) rfl GS6 (fun _ _ => Y_index Try.underlying23 sz3 rfl rfl (by first | assumption | omega)) ?_
   refine Dq (i := 5) rfl GS6 (fun _ hs => Y_load Try.underlying3 rfl rfl (by first | exact hs.cell0 (by assumption) | exact hs.cell0 (cc2.at (by rfl)) | exact hs.cell0 (B1.at (by rfl)) | exact hs.cell0 (B2.at (by rfl)) | exact hs.cell0 (B3.at (by rfl)))) ?_
   refine Dq (i := 6) rfl GS6 (fun _ _ => Y_index Try.underlying30 sz63 rfl rfl (by first | assumption | omega)) ?_
   refine Dq (i := 7) rfl GS6 (fun _ hs => Y_loadS Try.underlying63 rfl sz63 rfl (by first | exact hs.cells0 (by assumption) | exact hs.cells0 (B1.row (by rfl)) | exact hs.cells0 (B2.row (by rfl)) | exact hs.cells0 (B3.row (by rfl)))) ?_
   refine D_1 (i := 8) (by kernel_rfl) ?_
   refine E_alloc (cs := [_, _, _]) rfl zr63 rfl (fun b7 w7 fb7 g7 B7 => ⟨GS6.grow g7, ?_⟩)
   have lb7 := B7.lt
   replace hAl := hAl.grow g7
   replace hBl := hBl.grow g7
   replace hEl := hEl.grow g7
   replace cc2 := cc2.grow g7
   replace hE2 := hE2.grow g7
   replace OC1 := OC1.grow g7
   replace OR1 := OR1.grow g7
   replace G := G.grow g7
   replace GL5 := GL5.grow g7
   replace GS6 := GS6.grow g7
   replace B1 := B1.grow g7
   replace B2 := B2.grow g7
   replace B3 := B3.grow g7
   have zg7 := g7.size
   refine D_1 (i := 9) (by kernel_rfl) ?_
   refine E_stM (pre := []) (old := [_, _, _]) (post := []) (vs := [_, _, _]) (i := 9) rfl sz63 rfl rfl rfl (by first | rfl | assumption) B7 rfl rfl ?_
   intro w8 m8 X8
   replace B7 := Blk.eq (ys := [_, _, _]) X8 rfl
   clear X8
   replace G := G.abv m8
   first | replace GL5 := GL5.abv m8 | clear GL5
   replace GS6 := GS6.abv m8
   replace hAl := hAl0.grow G
   replace hBl := hBl0.grow G
   replace hEl := hEl0.grow G
   replace cc2 := cc20.grow G
   replace hE2 := hE20.grow G
   replace OC1 := OC1.md m8
   replace OR1 := OR1.md m8
   replace B1 := B1.md m8
   replace B2 := B2.md m8
   replace B3 := B3.md m8
   have zm8 := m8.size
   refine ⟨GS6, ?_⟩
   refine D_en (by kernel_rfl) rfl rfl ?_
   refine th_n (hK8 _ _ ?_)
   clear hK8 K8
   refine wp_seq_k fun K9 hK9 => ?_
   refine Sb 73 rfl ?_  -- 6
   refine S_bs0 Try.underlying23 sz3 ?_
   intro b9 w9 fb9 g9 B9
   have lb9 := B9.lt
   replace hAl := hAl.grow g9
   replace hBl := hBl.grow g9
   replace hEl := hEl.grow g9
   replace cc2 := cc2.grow g9
   replace hE2 := hE2.grow g9
   replace OC1 := OC1.grow g9
   replace OR1 := OR1.grow g9
   replace G := G.grow g9
   replace GL5 := GL5.grow g9
   replace B1 := B1.grow g9
   replace B2 := B2.grow g9
   replace B3 := B3.grow g9
   replace B7 := B7.grow g9
   have zg9 := g9.size
   refine S_val (Y_assign rfl) ?_
   refine S_nl rfl rfl ?_
   refine th_n (hK9 _ _ ?_)
   clear hK9 K9
   refine wp_seq_k fun K10 hK10 => ?_
   refine wp_seq_k fun K11 hK11 => ?_
   refine Sb 73 rfl ?_  -- 7
   refine S_val (Y_assign rfl) ?_
   refine S_nl rfl rfl ?_
   refine th_n (hK11 _ _ ?_)
   clear hK11 K11
   refine wp_block ?_
   obtain ⟨wy, hwy⟩ : ∃ x, x = w9.heap.size := ⟨_, rfl⟩
   have O5 : OW (fun i => i = b9 ∨ wy ≤ i) w9 3 1 (some ⟨b9, 0, none⟩) 0 0 (ints []) := OW.of_blk B9 rfl (by decide) (.inl rfl)
   go_loopw [8, 9] (fun u8 u9 wr => (∃ (j q cap : Nat) (A1 : Option Addr), u9 = .int .i64 j ∧ u8 = .slice A1 q cap ∧ j ≤ h.cells[n].refs.length ∧ q = j ∧ OW (fun i => i = b9 ∨ wy ≤ i) wr 3 1 A1 q cap (ints ((h.cells[n].refs.take j).map (nameIn o)))) ∧ Mod (fun i => i = b9 ∨ wy ≤ i) w9 wr) (fun u8 u9 wr => h.cells[n].refs.length - (intOf u9).toNat)  -- L2
   case atStart =>
    refine ⟨?_, Mod.refl _ _⟩
    exact ⟨0, _, _, _, rfl, rfl, by omega, rfl, O5⟩
   case round =>
    obtain ⟨w10, rfl⟩ : ∃ x : World, x = wr := ⟨_, rfl⟩
    obtain ⟨hrel, g10⟩ := hrel
    clear O5
    replace G := G.abv g10
    first | replace GL5 := GL5.abv g10 | clear GL5
    replace hAl := hAl0.grow G
    replace hBl := hBl0.grow G
    replace hEl := hEl0.grow G
    replace cc2 := cc20.grow G
    replace hE2 := hE20.grow G
    replace OC1 := OC1.md g10
    replace OR1 := OR1.md g10
    replace B1 := B1.md g10
    replace B2 := B2.md g10
    replace B3 := B3.md g10
    replace B7 := B7.md g10
    have zg10 := g10.size
    obtain ⟨j, q2, capY, AY, rfl, rfl, hj, hq2, O5⟩ := hrel
    have GL10 := g10
    refine wp_seq_k fun K12 hK12 => ?_
    refine wp_seq_k fun K13 hK13 => ?_
    refine Sb 73 rfl ?_  -- 8
    refine S_val (Y_move rfl) ?_
    refine S_val (Y_field Try.underlying63 rfl fz63_2 (by decide) rfl) ?_
    refine S_val (Y_load Try.underlying23 rfl rfl (B7.at (by rfl))) ?_  -- l4
    refine S_val (Y_len Try.underlying23 rfl) ?_
    refine S_val (Y_lss rfl rfl) ?_
    refine S_nl rfl rfl ?_
    refine th_n (hK13 _ _ ?_)
    clear hK13 K13
    refine S_if rfl (fun hb2 => ?_) (fun hb2 => ?_)  -- c2
    · -- c2T
     replace hb2 := nb_tt hb2
     have hj1 : j < h.cells[n].refs.length := by omega
     obtain ⟨g5, o5, rfl, hp5, hc5⟩ := hE2.int hj1
     have htj := List.take_succ_eq_append_getElem hj1
     refine wp_skip ?_
     refine th_n (hK12 _ _ ?_)
     clear hK12 K12
     refine wp_seq_k fun K14 hK14 => ?_
     refine wp_block ?_
     refine Sb 73 rfl ?_  -- 10
     refine S_val (Y_move rfl) ?_
     refine S_val (Y_move rfl) ?_
     refine S_val (Y_field Try.underlying63 rfl fz63_2 (by decide) rfl) ?_
     refine S_val (Y_load Try.underlying23 rfl rfl (B7.at (by rfl))) ?_  -- l5
     refine S_val (Y_move rfl) ?_
     refine S_val (Y_index Try.underlying23 sz3 rfl rfl (by first | assumption | omega)) ?_
     refine S_val (Y_load Try.underlying3 rfl rfl (by first | assumption | exact cc2.at (by rfl) | exact B1.at (by rfl) | exact B2.at (by rfl) | exact B3.at (by rfl) | exact B7.at (by rfl))) ?_  -- l6
     refine S_call rfl en109 (spec_l9Name_c _ _ _ _ _ _ hEl (by omega)) ?_  -- k1 spec.l9Name
     rintro v11 w11 ⟨rfl, g11⟩
     replace hAl := hAl.grow g11
     replace hBl := hBl.grow g11
     replace hEl := hEl.grow g11
     replace cc2 := cc2.grow g11
     replace hE2 := hE2.grow g11
     replace OC1 := OC1.grow g11
     replace OR1 := OR1.grow g11
     replace O5 := O5.grow g11
     replace G := G.grow g11
     replace GL5 := GL5.grow g11
     replace GL10 := GL10.grow g11
     replace B1 := B1.grow g11
     replace B2 := B2.grow g11
     replace B3 := B3.grow g11
     replace B7 := B7.grow g11
     have zg11 := g11.size
     refine S_bs1 (cs := [_]) Try.underlying23 zr3 sz3 rfl rfl rfl ?_
     intro b12 w12 fb12 g12 B12
     have lb12 := B12.lt
     replace hAl := hAl.grow g12
     replace hBl := hBl.grow g12
     replace hEl := hEl.grow g12
     replace cc2 := cc2.grow g12
     replace hE2 := hE2.grow g12
     replace OC1 := OC1.grow g12
     replace OR1 := OR1.grow g12
     replace O5 := O5.grow g12
     replace G := G.grow g12
     replace GL5 := GL5.grow g12
     replace GL10 := GL10.grow g12
     replace B1 := B1.grow g12
     replace B2 := B2.grow g12
     replace B3 := B3.grow g12
     replace B7 := B7.grow g12
     have zg12 := g12.size
     refine S_app Try.underlying23 zr3 sz3 by3 rfl rfl O5 rfl (Src.blk B12) (by simp [Value.oneCell']) (by omega) (Pr' := fun i => i = b9 ∨ wy ≤ i) (fun i hi => hi) (by omega) ?_
     intro A13 cap13 w13 X13 m13
     replace O5 := X13
     rw [ints_app] at O5
     clear X13
     replace G := G.abv m13
     first | replace GL5 := GL5.abv m13 | clear GL5
     replace GL10 := GL10.trn m13
     replace hAl := hAl0.grow G
     replace hBl := hBl0.grow G
     replace hEl := hEl0.grow G
     replace cc2 := cc20.grow G
     replace hE2 := hE20.grow G
     replace OC1 := OC1.md m13
     replace OR1 := OR1.md m13
     replace B1 := B1.md m13
     replace B2 := B2.md m13
     replace B3 := B3.md m13
     replace B7 := B7.md m13
     have zm13 := m13.size
     refine S_val (Y_assign rfl) ?_
     refine S_nl rfl rfl ?_
     refine ib_n ?_
     refine th_n (hK14 _ _ ?_)
     clear hK14 K14
     refine Sb 73 rfl ?_  -- 9
     refine S_val (Y_move rfl) ?_
     refine S_val (Y_inc rfl rfl (by omega)) ?_
     refine S_val (Y_assign rfl) ?_
     refine S_nl rfl rfl ?_
     refine th_n ?_
     go_roundw  -- e1 of L2
     case rel =>
      refine ⟨?_, GL10⟩
      exact ⟨j + 1, _, _, _, rfl, rfl, by omega, by omega, by rw [htj, List.map_append]; exact O5⟩
     case measure =>
      exact dec_nat (by omega)
    · -- c2F
     replace hb2 := nb_tf hb2
     have hq3 : q2 = (h.cells[n].refs.map (nameIn o)).length := by rw [List.length_map]; omega
     subst hq3
     rw [List.take_of_length_le (by omega)] at O5
     have OY := O5.weak (Pr' := fun i => b9 ≤ i) (fun i hi => by omega)
     refine wp_exit ?_
     refine th_x ?_
     try clear GL10
     refine th_x ?_
     refine ib_e ?_
     refine th_n (hK10 _ _ ?_)
     clear hK12 K12 hK10 K10
     refine Sb 73 rfl ?_  -- 11
     refine S_val (Y_field Try.underlying32 rfl fz32_0 (by decide) rfl) ?_
     refine S_val (Y_load Try.underlying30 rfl rfl (B3.at (by rfl))) ?_  -- l7
     refine S_val (Y_field Try.underlying63 rfl fz63_1 (by decide) rfl) ?_
     refine S_val (Y_load Try.underlying3 rfl rfl (B7.at (by rfl))) ?_  -- l8
     refine S_val (Y_move rfl) ?_
     refine S_val (Y_build (cs := [_, _, _]) zr63 pc63 rfl rfl) ?_
     refine S_bs1 (cs := [_, _, _]) Try.underlying30 zr63 sz63 rfl rfl rfl ?_
     intro b14 w14 fb14 g14 B14
     have lb14 := B14.lt
     replace hAl := hAl.grow g14
     replace hBl := hBl.grow g14
     replace hEl := hEl.grow g14
     replace cc2 := cc2.grow g14
     replace hE2 := hE2.grow g14
     replace OC1 := OC1.grow g14
     replace OR1 := OR1.grow g14
     replace OY := OY.grow g14
     replace G := G.grow g14
     replace GL5 := GL5.grow g14
     replace B1 := B1.grow g14
     replace B2 := B2.grow g14
     replace B3 := B3.grow g14
     replace B7 := B7.grow g14
     have zg14 := g14.size
     refine S_app2 Try.underlying30 zr63 sz63 by63 rfl rfl OC1 rfl (Src.blk B14) (by simp [Value.oneCell']) (by omega) (Pr' := fun i => wz ≤ i) (fun i hi => by omega) (by omega) ?_
     intro A15 cap15 w15 X15 m15 n15
     replace OR1 := OR1.app OC1 hne n15
     replace OC1 := X15
     clear X15 n15
     replace G := G.abv m15
     replace GL5 := GL5.trn m15
     replace hAl := hAl0.grow G
     replace hBl := hBl0.grow G
     replace hEl := hEl0.grow G
     replace cc2 := cc20.grow G
     replace hE2 := hE20.grow G
     replace OY := OY.md m15
     replace B1 := B1.md m15
     replace B2 := B2.md m15
     replace B3 := B3.md m15
     replace B7 := B7.md m15
     have zm15 := m15.size
     have OR2 := OR1.more (c := ⟨true, h.cells[n].data, h.cells[n].refs.map (nameIn o)⟩) OY (fun i hi => by omega) (Pr' := fun i => wz ≤ i) (fun i hi => by omega) (fun i hi => by omega)
     replace OC1 : OW (fun i => wz ≤ i) w15 63 3 A15 (q1 + 1) cap15 (flatC ((o.take (k + 1)).map (gcell h.cells o)) (rs ++ [(AY, capY)])) := by rw [hgs, ← flat_more OR1.len]; exact OC1
     rw [← hgs] at OR2
     refine S_val (Y_field Try.underlying32 rfl fz32_0 (by decide) rfl) ?_
     refine S_stM (pre := []) (old := [_]) (post := [_]) (vs := [_]) sz30 rfl rfl rfl (by first | rfl | assumption) B3 rfl rfl ?_
     intro w16 m16 X16
     replace B3 := Blk.eq (ys := [_, _]) X16 rfl
     clear X16
     replace G := G.abv m16
     replace GL5 := GL5.trn m16
     replace hAl := hAl0.grow G
     replace hBl := hBl0.grow G
     replace hEl := hEl0.grow G
     replace cc2 := cc20.grow G
     replace hE2 := hE20.grow G
     replace OC1 := OC1.md m16
     replace OR2 := OR2.md m16
     replace B1 := B1.md m16
     replace B2 := B2.md m16
     replace B7 := B7.md m16
     have zm16 := m16.size
     refine S_nl rfl rfl ?_
     refine ib_n ?_
     refine th_n (hK7 _ _ ?_)
     clear hK7 K7
     refine Sb 73 rfl ?_  -- 4
     refine S_val (Y_move rfl) ?_
     refine S_val (Y_inc rfl rfl (by omega)) ?_
     refine S_val (Y_assign rfl) ?_
     refine S_nl rfl rfl ?_
     refine th_n ?_
     go_roundw  -- e2 of L1
     case rel =>
      refine ⟨?_, GL5⟩
      exact ⟨k + 1, _, _, _, _, rfl, by omega, by omega, B3, OC1, OR2⟩
     case measure =>
      exact dec_nat (by omega)
  · -- c1F
   replace hb1 := nb_tf hb1
   refine wp_exit ?_
   refine th_x ?_
   try clear GL5
   refine th_x ?_
   refine ib_e ?_
   refine th_n (hK3 _ _ ?_)
   clear hK5 K5 hK3 K3
   refine wp_seq_k fun K15 hK15 => ?_
   refine wp_seq_k fun K16 hK16 => ?_
   refine Sb 73 rfl ?_  -- 12
   refine S_val (Y_assign rfl) ?_
   refine S_nl rfl rfl ?_
   refine th_n (hK16 _ _ ?_)
   clear hK16 K16
   refine wp_block ?_
   rw [List.take_of_length_le (by omega)] at hlk OC1 OR1
   replace OC1 := OC1.lt
   replace OR1 := OR1.lt
   obtain ⟨wv, hwv⟩ : ∃ x, x = w5.heap.size := ⟨_, rfl⟩
   have O6 : OW (fun i => wv ≤ i) w5 3 1 none 0 0 (ints []) := OW.nil _ _ _ _
   go_loopw [10] (fun u10 wr => (∃ (j q cap : Nat) (A2 : Option Addr), u10 = .int .i64 j ∧ j ≤ h.roots.length ∧ q = j ∧ Blk wr b3 32 [.slice A1 q1 cap1, .slice A2 q cap].toArray ∧ OW (fun i => wv ≤ i) wr 3 1 A2 q cap (ints ((h.roots.take j).map (nameIn o)))) ∧ Mod (fun i => i = b3 ∨ wv ≤ i) w5 wr) (fun u10 wr => h.roots.length - (intOf u10).toNat)  -- L3
   case atStart =>
    refine ⟨?_, Mod.refl _ _⟩
    exact ⟨0, 0, 0, none, rfl, by omega, rfl, B3, O6⟩
   case round =>
    obtain ⟨w17, rfl⟩ : ∃ x : World, x = wr := ⟨_, rfl⟩
    obtain ⟨hrel, g17⟩ := hrel
    clear B3
    clear O6
    replace G := G.abv g17
    replace hAl := hAl0.grow G
    replace hBl := hBl0.grow G
    replace hEl := hEl0.grow G
    replace OC1 := OC1.md g17
    replace OR1 := OR1.md g17
    replace B1 := B1.md g17
    replace B2 := B2.md g17
    have zg17 := g17.size
    obtain ⟨j, q2, cap2, A2, rfl, hj, hq2, B3, O6⟩ := hrel
    have GL17 := g17
    refine wp_seq_k fun K17 hK17 => ?_
    refine wp_seq_k fun K18 hK18 => ?_
    refine Sb 73 rfl ?_  -- 13
    refine S_val (Y_move rfl) ?_
    refine S_val (Y_field Try.underlying32 rfl fz32_1 (by decide) rfl) ?_
    refine S_val (Y_load Try.underlying23 rfl rfl (B1.at (by rfl))) ?_  -- l9
    refine S_val (Y_len Try.underlying23 rfl) ?_
    refine S_val (Y_lss rfl rfl) ?_
    refine S_nl rfl rfl ?_
    refine th_n (hK18 _ _ ?_)
    clear hK18 K18
    refine S_if rfl (fun hb2 => ?_) (fun hb2 => ?_)  -- c3
    · -- c3T
     replace hb2 := nb_tt hb2
     have hj1 : j < h.roots.length := by omega
     have htj := List.take_succ_eq_append_getElem hj1
     refine wp_skip ?_
     refine th_n (hK17 _ _ ?_)
     clear hK17 K17
     refine wp_seq_k fun K19 hK19 => ?_
     refine wp_block ?_
     refine D_start 13 73 (fun w => Mod (fun i => i = b3 ∨ wv ≤ i) w) follows rfl rfl ?_  -- d2 r15
     intro w18 g18
     replace hAl := hAl.grow g18
     replace hBl := hBl.grow g18
     replace hEl := hEl.grow g18
     replace OC1 := OC1.grow g18
     replace OR1 := OR1.grow g18
     replace O6 := O6.grow g18
     replace G := G.grow g18
     replace GL17 := GL17.grow g18
     replace B1 := B1.grow g18
     replace B2 := B2.grow g18
     replace B3 := B3.grow g18
     have zg18 := g18.size
     have GS18 := Mod.refl (fun i => i = b3 ∨ wv ≤ i) w18
     obtain ⟨g5, o5, rfl, hp5, hc5⟩ := hBl.int hj1
     refine Dq (i := 0) rfl GS18 (fun _ _ => Y_field Try.underlying32 rfl fz32_1 (by decide) rfl) ?_
     refine Dq (i := 2) rfl GS18 (fun _ _ => Y_move rfl) ?_
     refine Dq (i := 3) rfl GS18 (fun _ _ => Y_field Try.underlying32 rfl fz32_1 (by decide) rfl) ?_
     refine Dq (i := 4) rfl GS18 (fun _ hs => Y_load Try.underlying23 rfl rfl (by first | exact hs.cell (B1.at (by rfl)) (by intro h; first | omega | (dsimp only at h; omega)))) ?_
     refine Dq (i := 5) rfl GS18 (fun _ _ => Y_move rfl) ?_
     refine Dq (i := 6) rfl GS18 (fun _ _ => Y_index Try.underlying23 sz3 rfl rfl (by first | assumption | omega)) ?_
     refine Dq (i := 7) rfl GS18 (fun _ hs => Y_load Try.underlying3 rfl rfl (by first | exact hs.cell (by assumption) (by intro h; first | omega | (dsimp only at h; omega)) | exact hs.cell (B1.at (by rfl)) (by intro h; first | omega | (dsimp only at h; omega)) | exact hs.cell (B2.at (by rfl)) (by intro h; first | omega | (dsimp only at h; omega)) | exact hs.cell (B3.at (by rfl)) (by intro h; first | omega | (dsimp only at h; omega)))) ?_
     refine D_2 (i := 1) (j := 8) (by kernel_rfl) ?_ ?_
     · -- operation 1 comes up
      refine E_val (i := 1) rfl (Y_load Try.underlying23 rfl rfl (B3.at (by rfl))) GS18 ?_
      refine D_1 (i := 8) (by kernel_rfl) ?_
      refine E_call rfl rfl en109 (spec_l9Name_c _ _ _ _ _ _ hEl (by omega)) ?_  -- k2 spec.l9Name
      rintro v20 w20 ⟨rfl, g20⟩
      replace hAl := hAl.grow g20
      replace hBl := hBl.grow g20
      replace hEl := hEl.grow g20
      replace OC1 := OC1.grow g20
      replace OR1 := OR1.grow g20
      replace O6 := O6.grow g20
      replace G := G.grow g20
      replace GL17 := GL17.grow g20
      replace GS18 := GS18.grow g20
      replace B1 := B1.grow g20
      replace B2 := B2.grow g20
      replace B3 := B3.grow g20
      have zg20 := g20.size
      refine ⟨GS18, ?_⟩
      refine D_1 (i := 9) (by kernel_rfl) ?_
      refine E_bs1 (cs := [_]) (i := 9) rfl Try.underlying23 zr3 sz3 rfl rfl rfl ?_
      intro b21 w21 fb21 g21 B21
      refine ⟨GS18.grow g21, ?_⟩
      have lb21 := B21.lt
      replace hAl := hAl.grow g21
      replace hBl := hBl.grow g21
      replace hEl := hEl.grow g21
      replace OC1 := OC1.grow g21
      replace OR1 := OR1.grow g21
      replace O6 := O6.grow g21
      replace G := G.grow g21
      replace GL17 := GL17.grow g21
      replace GS18 := GS18.grow g21
      replace B1 := B1.grow g21
      replace B2 := B2.grow g21
      replace B3 := B3.grow g21
      have zg21 := g21.size
      refine D_1 (i := 10) (by kernel_rfl) ?_
      refine E_app (i := 10) rfl Try.underlying23 zr3 sz3 by3 rfl rfl O6 rfl (Src.blk B21) (by simp [Value.oneCell']) (by omega) (Pr' := fun i => wv ≤ i) (fun i hi => hi) (by omega) ?_
      intro A22 cap22 w22 X22 m22
      replace O6 := X22
      rw [ints_app] at O6
      clear X22
      replace G := G.abv m22
      replace GL17 := GL17.trn m22
      replace GS18 := GS18.trn m22
      replace hAl := hAl0.grow G
      replace hBl := hBl0.grow G
      replace hEl := hEl0.grow G
      replace OC1 := OC1.md m22
      replace OR1 := OR1.md m22
      replace B1 := B1.md m22
      replace B2 := B2.md m22
      replace B3 := B3.md m22
      have zm22 := m22.size
      refine ⟨GS18, ?_⟩
      refine Dq (i := 11) rfl GS18 (fun _ _ => Y_field Try.underlying32 rfl fz32_1 (by decide) rfl) ?_
      refine D_1 (i := 12) (by kernel_rfl) ?_
      refine E_stM (pre := [_]) (old := [_]) (post := []) (vs := [_]) (i := 12) rfl sz23 rfl rfl rfl (by first | rfl | assumption) B3 rfl rfl ?_
      intro w23 m23 X23
      replace B3 := Blk.eq (ys := [_, _]) X23 rfl
      clear X23
      replace G := G.abv m23
      replace GL17 := GL17.trn m23
      replace GS18 := GS18.trn m23
      replace hAl := hAl0.grow G
      replace hBl := hBl0.grow G
      replace hEl := hEl0.grow G
      replace OC1 := OC1.md m23
      replace OR1 := OR1.md m23
      replace O6 := O6.md m23
      replace B1 := B1.md m23
      replace B2 := B2.md m23
      have zm23 := m23.size
      refine ⟨GS18, ?_⟩
      refine D_en (by kernel_rfl) rfl rfl ?_
      refine ib_n ?_
      refine th_n (hK19 _ _ ?_)
      clear hK19 K19
      refine Sb 73 rfl ?_  -- 14
      refine S_val (Y_move rfl) ?_
      refine S_val (Y_inc rfl rfl (by omega)) ?_
      refine S_val (Y_assign rfl) ?_
      refine S_nl rfl rfl ?_
      refine th_n ?_
      go_roundw  -- e3 of L3
      case rel =>
       refine ⟨?_, GL17⟩
       exact ⟨j + 1, _, _, _, rfl, by omega, by omega, B3, by rw [htj, List.map_append]; exact O6⟩
      case measure =>
       exact dec_nat (by omega)
     · -- operation 8 comes up
      refine E_call rfl rfl en109 (spec_l9Name_c _ _ _ _ _ _ hEl (by omega)) ?_  -- k3 spec.l9Name
      rintro v24 w24 ⟨rfl, g24⟩
      replace hAl := hAl.grow g24
      replace hBl := hBl.grow g24
      replace hEl := hEl.grow g24
      replace OC1 := OC1.grow g24
      replace OR1 := OR1.grow g24
      replace O6 := O6.grow g24
      replace G := G.grow g24
      replace GL17 := GL17.grow g24
      replace GS18 := GS18.grow g24
      replace B1 := B1.grow g24
      replace B2 := B2.grow g24
      replace B3 := B3.grow g24
      have zg24 := g24.size
      refine ⟨GS18, ?_⟩
      refine D_2 (i := 1) (j := 9) (by kernel_rfl) ?_ ?_
      · -- operation 1 comes up
       refine E_val (i := 1) rfl (Y_load Try.underlying23 rfl rfl (B3.at (by rfl))) GS18 ?_
       refine D_1 (i := 9) (by kernel_rfl) ?_
       refine E_bs1 (cs := [_]) (i := 9) rfl Try.underlying23 zr3 sz3 rfl rfl rfl ?_
       intro b26 w26 fb26 g26 B26
       refine ⟨GS18.grow g26, ?_⟩
       have lb26 := B26.lt
       replace hAl := hAl.grow g26
       replace hBl := hBl.grow g26
       replace hEl := hEl.grow g26
       replace OC1 := OC1.grow g26
       replace OR1 := OR1.grow g26
       replace O6 := O6.grow g26
       replace G := G.grow g26
       replace GL17 := GL17.grow g26
       replace GS18 := GS18.grow g26
       replace B1 := B1.grow g26
       replace B2 := B2.grow g26
       replace B3 := B3.grow g26
       have zg26 := g26.size
       refine D_1 (i := 10) (by kernel_rfl) ?_
       refine E_app (i := 10) rfl Try.underlying23 zr3 sz3 by3 rfl rfl O6 rfl (Src.blk B26) (by simp [Value.oneCell']) (by omega) (Pr' := fun i => wv ≤ i) (fun i hi => hi) (by omega) ?_
       intro A27 cap27 w27 X27 m27
       replace O6 := X27
       rw [ints_app] at O6
       clear X27
       replace G := G.abv m27
       replace GL17 := GL17.trn m27
       replace GS18 := GS18.trn m27
       replace hAl := hAl0.grow G
       replace hBl := hBl0.grow G
       replace hEl := hEl0.grow G
       replace OC1 := OC1.md m27
       replace OR1 := OR1.md m27
       replace B1 := B1.md m27
       replace B2 := B2.md m27
       replace B3 := B3.md m27
       have zm27 := m27.size
       refine ⟨GS18, ?_⟩
       refine Dq (i := 11) rfl GS18 (fun _ _ => Y_field Try.underlying32 rfl fz32_1 (by decide) rfl) ?_
       refine D_1 (i := 12) (by kernel_rfl) ?_
       refine E_stM (pre := [_]) (old := [_]) (post := []) (vs := [_]) (i := 12) rfl sz23 rfl rfl rfl (by first | rfl | assumption) B3 rfl rfl ?_
       intro w28 m28 X28
       replace B3 := Blk.eq (ys := [_, _]) X28 rfl
       clear X28
       replace G := G.abv m28
       replace GL17 := GL17.trn m28
       replace GS18 := GS18.trn m28
       replace hAl := hAl0.grow G
       replace hBl := hBl0.grow G
       replace hEl := hEl0.grow G
       replace OC1 := OC1.md m28
       replace OR1 := OR1.md m28
       replace O6 := O6.md m28
       replace B1 := B1.md m28
       replace B2 := B2.md m28
       have zm28 := m28.size
       refine ⟨GS18, ?_⟩
       refine D_en (by kernel_rfl) rfl rfl ?_
       refine ib_n ?_
       refine th_n (hK19 _ _ ?_)
       clear hK19 K19
       refine Sb 73 rfl ?_  -- 14
       refine S_val (Y_move rfl) ?_
       refine S_val (Y_inc rfl rfl (by omega)) ?_
       refine S_val (Y_assign rfl) ?_
       refine S_nl rfl rfl ?_
       refine th_n ?_
       go_roundw  -- e4 of L3
       case rel =>
        refine ⟨?_, GL17⟩
        exact ⟨j + 1, _, _, _, rfl, by omega, by omega, B3, by rw [htj, List.map_append]; exact O6⟩
       case measure =>
        exact dec_nat (by omega)
      · -- operation 9 comes up
       refine E_bs1 (cs := [_]) (i := 9) rfl Try.underlying23 zr3 sz3 rfl rfl rfl ?_
       intro b29 w29 fb29 g29 B29
       refine ⟨GS18.grow g29, ?_⟩
       have lb29 := B29.lt
       replace hAl := hAl.grow g29
       replace hBl := hBl.grow g29
       replace hEl := hEl.grow g29
       replace OC1 := OC1.grow g29
       replace OR1 := OR1.grow g29
       replace O6 := O6.grow g29
       replace G := G.grow g29
       replace GL17 := GL17.grow g29
       replace GS18 := GS18.grow g29
       replace B1 := B1.grow g29
       replace B2 := B2.grow g29
       replace B3 := B3.grow g29
       have zg29 := g29.size
       refine D_1 (i := 1) (by kernel_rfl) ?_
       refine E_val (i := 1) rfl (Y_load Try.underlying23 rfl rfl (B3.at (by rfl))) GS18 ?_
       refine D_1 (i := 10) (by kernel_rfl) ?_
       refine E_app (i := 10) rfl Try.underlying23 zr3 sz3 by3 rfl rfl O6 rfl (Src.blk B29) (by simp [Value.oneCell']) (by omega) (Pr' := fun i => wv ≤ i) (fun i hi => hi) (by omega) ?_
       intro A31 cap31 w31 X31 m31
       replace O6 := X31
       rw [ints_app] at O6
       clear X31
       replace G := G.abv m31
       replace GL17 := GL17.trn m31
       replace GS18 := GS18.trn m31
       replace hAl := hAl0.grow G
       replace hBl := hBl0.grow G
       replace hEl := hEl0.grow G
       replace OC1 := OC1.md m31
       replace OR1 := OR1.md m31
       replace B1 := B1.md m31
       replace B2 := B2.md m31
       replace B3 := B3.md m31
       have zm31 := m31.size
       refine ⟨GS18, ?_⟩
       refine Dq (i := 11) rfl GS18 (fun _ _ => Y_field Try.underlying32 rfl fz32_1 (by decide) rfl) ?_
       refine D_1 (i := 12) (by kernel_rfl) ?_
       refine E_stM (pre := [_]) (old := [_]) (post := []) (vs := [_]) (i := 12) rfl sz23 rfl rfl rfl (by first | rfl | assumption) B3 rfl rfl ?_
       intro w32 m32 X32
       replace B3 := Blk.eq (ys := [_, _]) X32 rfl
       clear X32
       replace G := G.abv m32
       replace GL17 := GL17.trn m32
       replace GS18 := GS18.trn m32
       replace hAl := hAl0.grow G
       replace hBl := hBl0.grow G
       replace hEl := hEl0.grow G
       replace OC1 := OC1.md m32
       replace OR1 := OR1.md m32
       replace O6 := O6.md m32
       replace B1 := B1.md m32
       replace B2 := B2.md m32
       have zm32 := m32.size
       refine ⟨GS18, ?_⟩
       refine D_en (by kernel_rfl) rfl rfl ?_
       refine ib_n ?_
       refine th_n (hK19 _ _ ?_)
       clear hK19 K19
       refine Sb 73 rfl ?_  -- 14
       refine S_val (Y_move rfl) ?_
       refine S_val (Y_inc rfl rfl (by omega)) ?_
       refine S_val (Y_assign rfl) ?_
       refine S_nl rfl rfl ?_
       refine th_n ?_
       go_roundw  -- e5 of L3
       case rel =>
        refine ⟨?_, GL17⟩
        exact ⟨j + 1, _, _, _, rfl, by omega, by omega, B3, by rw [htj, List.map_append]; exact O6⟩
       case measure =>
        exact dec_nat (by omega)
    · -- c3F
     replace hb2 := nb_tf hb2
     refine wp_exit ?_
     refine th_x ?_
     try clear GL17
     refine th_x ?_
     refine ib_e ?_
     refine th_n (hK15 _ _ ?_)
     clear hK17 K17 hK15 K15
     refine wp_seq_k fun K20 hK20 => ?_
     refine Sb 73 rfl ?_  -- 16
     refine S_val (Y_loadS Try.underlying32 rfl sz32 rfl (B3.row (by rfl))) ?_  -- l12
     refine S_stM (pre := []) (old := [_, _]) (post := []) (vs := [_, _]) sz32 rfl rfl rfl (by first | rfl | assumption) B2 rfl rfl ?_
     intro w33 m33 X33
     replace B2 := Blk.eq (ys := [_, _]) X33 rfl
     clear X33
     replace G := G.abv m33
     replace hAl := hAl0.grow G
     replace hBl := hBl0.grow G
     replace hEl := hEl0.grow G
     replace OC1 := OC1.md m33
     replace OR1 := OR1.md m33
     replace O6 := O6.md m33
     replace B1 := B1.md m33
     replace B3 := B3.md m33
     have zm33 := m33.size
     refine S_nl rfl rfl ?_
     refine th_n (hK20 _ _ ?_)
     clear hK20 K20
     refine wp_ret ?_
     refine ret_rc (cs := [_, _]) Try.underlying32 rfl sz32 rfl rfl (B2.row (by rfl)) ?_  -- r1
     have hjr : j = h.roots.length := by omega
     rw [List.take_of_length_le (by omega)] at O6
     rw [hq1, ← hlk] at OC1
     exact ⟨_, _, _, _, _, _, rs, rfl, by show q1 = (o.map (gcell h.cells o)).length; omega, by simp [gathH]; omega, OH.of_parts (h := gathH h o) (OC.grown OC1 OR1 (fun _ h => h) (fun _ h => h)) O6.oi (fun k b h1 h2 h3 => by omega) (fun k hk => by omega) (fun k hk => by omega), G⟩
set_option maxHeartbeats 400000 in
set_option maxRecDepth 20000 in
theorem impl_CopyHeap_c (Pr : Nat → Prop) (A B : Option Addr) (h : LH) (c d : Nat) (w : World) (hA : RC Pr w A h.cells) (hB : R1 Pr w B (ints h.roots)) (hz : hsize h ≤ 1048576) :
    Calls Try.prog 47 #[.agg #[.slice A h.cells.length c, .slice B h.roots.length d]] w (Ret fun v w' => ∃ A1 B1 n1 c1 n2 c2 rs, v = .agg #[.slice A1 n1 c1, .slice B1 n2 c2] ∧ n1 = (copyV h).cells.length ∧ n2 = (copyV h).roots.length ∧ OH (fun i => w.heap.size ≤ i) w' 63 3 A1 B1 (copyV h) rs ∧ Grow w w') := by
 have hz1 := hsize_cells h
 have hz2 := hsize_roots h
 refine enter Try.func47 rfl Try.ntmps47 (L := [_,_,_,_,_,_,_,_,_,_,_]) rfl ?_
 have G := Mod.refl No w
 have hA0 := hA
 have hB0 := hB
 refine wp_seq_k fun K1 hK1 => ?_
 refine Sb 11 rfl ?_  -- 0
 refine S_box (cs := [_, _]) rfl rfl ?_
 intro b1 w1 fb1 g1 B1
 have lb1 := B1.lt
 replace hA := hA.grow g1
 replace hB := hB.grow g1
 replace G := G.grow g1
 have zg1 := g1.size
 refine S_alloc (cs := [_, _]) zr32 rfl ?_
 intro b2 w2 fb2 g2 B2
 have lb2 := B2.lt
 replace hA := hA.grow g2
 replace hB := hB.grow g2
 replace G := G.grow g2
 replace B1 := B1.grow g2
 have zg2 := g2.size
 refine S_nl rfl rfl ?_
 refine th_n (hK1 _ _ ?_)
 clear hK1 K1
 refine wp_seq_k fun K2 hK2 => ?_
 refine wp_seq_k fun K3 hK3 => ?_
 refine Sb 11 rfl ?_  -- 1
 refine S_val (Y_loadS Try.underlying32 rfl sz32 rfl (B1.row (by rfl))) ?_  -- l1
 refine S_call rfl en41 (impl_HeapValid_c _ _ _ _ _ _ _ (by assumption) (by assumption) (by omega)) ?_  -- k1 impl.HeapValid
 rintro v3 w3 ⟨rfl, g3⟩
 replace hA := hA.grow g3
 replace hB := hB.grow g3
 replace G := G.grow g3
 replace B1 := B1.grow g3
 replace B2 := B2.grow g3
 have zg3 := g3.size
 refine S_val (Y_not rfl) ?_
 refine S_nl rfl rfl ?_
 refine th_n (hK3 _ _ ?_)
 clear hK3 K3
 refine S_if rfl (fun hb1 => ?_) (fun hb1 => ?_)  -- c1
 · -- c1T
  first | with_reducible (replace hb1 := nb_nt hb1) | with_reducible (replace hb1 := nb_tt hb1) | with_reducible (replace hb1 := nb_bt hb1) | skip
  refine wp_seq_k fun K4 hK4 => ?_
  refine Sb 11 rfl ?_  -- 2
  refine S_val (Y_build (cs := [_, _]) zr32 pc32 rfl rfl) ?_
  refine S_stM (pre := []) (old := [_, _]) (post := []) (vs := [_, _]) sz32 rfl rfl rfl (by first | rfl | assumption) B2 rfl rfl ?_
  intro w4 m4 X4
  replace B2 := Blk.eq (ys := [_, _]) X4 rfl
  clear X4
  replace G := G.abv m4
  replace hA := hA0.grow G
  replace hB := hB0.grow G
  replace B1 := B1.md m4
  have zm4 := m4.size
  refine S_nl rfl rfl ?_
  refine th_n (hK4 _ _ ?_)
  clear hK4 K4
  refine wp_ret ?_
  refine th_r ?_
  clear hK2 K2
  refine ret_rc (cs := [_, _]) Try.underlying32 rfl sz32 rfl rfl (B2.row (by rfl)) ?_  -- r1
  exact ⟨_, _, _, _, _, _, [], rfl, by rw [copyV_f hb1]; rfl, by rw [copyV_f hb1]; rfl, by rw [copyV_f hb1]; exact OH.nil _ _ _ _ _ _, G⟩
 · -- c1F
  first | with_reducible (replace hb1 := nb_nf hb1) | with_reducible (replace hb1 := nb_tf hb1) | with_reducible (replace hb1 := nb_bf hb1) | skip
  have va := valid_iff.1 hb1
  have hl := va.leads
  have h40 := va.le
  have hr4 := va.roots4
  refine wp_skip ?_
  refine th_n (hK2 _ _ ?_)
  clear hK2 K2
  refine wp_seq_k fun K5 hK5 => ?_
  refine D_start 5 11 (fun w => Mod (fun i => i = b2) w) follows rfl rfl ?_  -- d1 r3
  intro w5 g5
  replace hA := hA.grow g5
  replace hB := hB.grow g5
  replace G := G.grow g5
  replace B1 := B1.grow g5
  replace B2 := B2.grow g5
  have zg5 := g5.size
  have GS5 := Mod.refl (fun i => i = b2) w5
  refine Dq (i := 0) rfl GS5 (fun _ hs => Y_loadS Try.underlying32 rfl sz32 rfl (by first | exact CellsAt.mod (B1.row (by rfl)) hs (by intro h; first | omega | (dsimp only at h; omega)))) ?_
  refine Dq (i := 1) rfl GS5 (fun _ hs => Y_loadS Try.underlying32 rfl sz32 rfl (by first | exact CellsAt.mod (B1.row (by rfl)) hs (by intro h; first | omega | (dsimp only at h; omega)))) ?_
  refine D_1 (i := 2) (by kernel_rfl) ?_
  refine E_call rfl rfl en78 (impl_metOrder_c _ _ _ _ _ _ _ (by assumption) (by assumption) (by omega) (by assumption) (by omega)) ?_  -- k2 impl.metOrder
  rintro v6 w6 ⟨A6, q6, cap6, rfl, hq6, O6, g6⟩
  replace hA := hA.grow g6
  replace hB := hB.grow g6
  replace G := G.grow g6
  replace GS5 := GS5.grow g6
  replace B1 := B1.grow g6
  replace B2 := B2.grow g6
  have zg6 := g6.size
  subst hq6
  replace O6 := O6.lt
  have hbn : Bnd h.cells.length (orderL h.cells h.roots nn) := orderL_bnd hl
  have hol := hbn.len
  have hRo := O6.r1
  refine ⟨GS5, ?_⟩
  refine D_1 (i := 3) (by kernel_rfl) ?_
  refine E_call rfl rfl en97 (impl_gathered_c _ _ _ _ _ h (orderL h.cells h.roots nn) _ _ _ _ hA hB hRo (by omega) va hbn) ?_  -- k3 impl.gathered
  rintro v7 w7 ⟨A7, B7, n17, c17, n27, c27, rs7, rfl, hn17, hn27, O7, g7⟩
  replace hA := hA.grow g7
  replace hB := hB.grow g7
  replace hRo := hRo.grow g7
  replace G := G.grow g7
  replace GS5 := GS5.grow g7
  replace B1 := B1.grow g7
  replace B2 := B2.grow g7
  have zg7 := g7.size
  have hn1 := hn17
  have hn2 := hn27
  have OG := O7.lt
  refine ⟨GS5, ?_⟩
  refine D_1 (i := 4) (by kernel_rfl) ?_
  refine E_stM (pre := []) (old := [_, _]) (post := []) (vs := [_, _]) (i := 4) rfl sz32 rfl rfl rfl (by first | rfl | assumption) B2 rfl rfl ?_
  intro w8 m8 X8
  replace B2 := Blk.eq (ys := [_, _]) X8 rfl
  clear X8
  replace G := G.abv m8
  replace GS5 := GS5.trn m8
  replace hA := hA0.grow G
  replace hB := hB0.grow G
  replace hRo := hRo.md m8
  replace OG := OG.md m8
  replace B1 := B1.md m8
  have zm8 := m8.size
  refine ⟨GS5, ?_⟩
  refine D_en (by kernel_rfl) rfl rfl ?_
  refine th_n (hK5 _ _ ?_)
  clear hK5 K5
  refine wp_ret ?_
  refine ret_rc (cs := [_, _]) Try.underlying32 rfl sz32 rfl rfl (B2.row (by rfl)) ?_  -- r2
  exact ⟨_, _, _, _, _, _, _, rfl, by rw [copyV_t hb1]; exact hn1, by rw [copyV_t hb1]; exact hn2, by rw [copyV_t hb1]; exact OG.weak (fun i hi => by omega), G⟩
set_option maxHeartbeats 400000 in
set_option maxRecDepth 20000 in
theorem spec_CopyHeap_c (Pr : Nat → Prop) (A B : Option Addr) (h : LH) (c d : Nat) (w : World) (hA : RC Pr w A h.cells) (hB : R1 Pr w B (ints h.roots)) (hz : hsize h ≤ 1048576) :
    Calls Try.prog 48 #[.agg #[.slice A h.cells.length c, .slice B h.roots.length d]] w (Ret fun v w' => ∃ A1 B1 n1 c1 n2 c2 rs, v = .agg #[.slice A1 n1 c1, .slice B1 n2 c2] ∧ n1 = (copyV h).cells.length ∧ n2 = (copyV h).roots.length ∧ OH (fun i => w.heap.size ≤ i) w' 63 3 A1 B1 (copyV h) rs ∧ Grow w w') := by
 have hz1 := hsize_cells h
 have hz2 := hsize_roots h
 refine enter Try.func48 rfl Try.ntmps48 (L := [_,_,_,_,_,_,_,_,_,_,_]) rfl ?_
 have G := Mod.refl No w
 have hA0 := hA
 have hB0 := hB
 refine wp_seq_k fun K1 hK1 => ?_
 refine Sb 11 rfl ?_  -- 0
 refine S_box (cs := [_, _]) rfl rfl ?_
 intro b1 w1 fb1 g1 B1
 have lb1 := B1.lt
 replace hA := hA.grow g1
 replace hB := hB.grow g1
 replace G := G.grow g1
 have zg1 := g1.size
 refine S_alloc (cs := [_, _]) zr32 rfl ?_
 intro b2 w2 fb2 g2 B2
 have lb2 := B2.lt
 replace hA := hA.grow g2
 replace hB := hB.grow g2
 replace G := G.grow g2
 replace B1 := B1.grow g2
 have zg2 := g2.size
 refine S_nl rfl rfl ?_
 refine th_n (hK1 _ _ ?_)
 clear hK1 K1
 refine wp_seq_k fun K2 hK2 => ?_
 refine wp_seq_k fun K3 hK3 => ?_
 refine Sb 11 rfl ?_  -- 1
 refine S_val (Y_loadS Try.underlying32 rfl sz32 rfl (B1.row (by rfl))) ?_  -- l1
 refine S_call rfl en49 (spec_HeapValid_c _ _ _ _ _ _ _ (by assumption) (by assumption) (by omega)) ?_  -- k1 spec.HeapValid
 rintro v3 w3 ⟨rfl, g3⟩
 replace hA := hA.grow g3
 replace hB := hB.grow g3
 replace G := G.grow g3
 replace B1 := B1.grow g3
 replace B2 := B2.grow g3
 have zg3 := g3.size
 refine S_val (Y_not rfl) ?_
 refine S_nl rfl rfl ?_
 refine th_n (hK3 _ _ ?_)
 clear hK3 K3
 refine S_if rfl (fun hb1 => ?_) (fun hb1 => ?_)  -- c1
 · -- c1T
  first | with_reducible (replace hb1 := nb_nt hb1) | with_reducible (replace hb1 := nb_tt hb1) | with_reducible (replace hb1 := nb_bt hb1) | skip
  refine wp_seq_k fun K4 hK4 => ?_
  refine Sb 11 rfl ?_  -- 2
  refine S_val (Y_build (cs := [_, _]) zr32 pc32 rfl rfl) ?_
  refine S_stM (pre := []) (old := [_, _]) (post := []) (vs := [_, _]) sz32 rfl rfl rfl (by first | rfl | assumption) B2 rfl rfl ?_
  intro w4 m4 X4
  replace B2 := Blk.eq (ys := [_, _]) X4 rfl
  clear X4
  replace G := G.abv m4
  replace hA := hA0.grow G
  replace hB := hB0.grow G
  replace B1 := B1.md m4
  have zm4 := m4.size
  refine S_nl rfl rfl ?_
  refine th_n (hK4 _ _ ?_)
  clear hK4 K4
  refine wp_ret ?_
  refine th_r ?_
  clear hK2 K2
  refine ret_rc (cs := [_, _]) Try.underlying32 rfl sz32 rfl rfl (B2.row (by rfl)) ?_  -- r1
  exact ⟨_, _, _, _, _, _, [], rfl, by rw [copyV_f hb1]; rfl, by rw [copyV_f hb1]; rfl, by rw [copyV_f hb1]; exact OH.nil _ _ _ _ _ _, G⟩
 · -- c1F
  first | with_reducible (replace hb1 := nb_nf hb1) | with_reducible (replace hb1 := nb_tf hb1) | with_reducible (replace hb1 := nb_bf hb1) | skip
  have va := valid_iff.1 hb1
  have hl := va.leads
  have h40 := va.le
  have hr4 := va.roots4
  refine wp_skip ?_
  refine th_n (hK2 _ _ ?_)
  clear hK2 K2
  refine wp_seq_k fun K5 hK5 => ?_
  refine D_start 5 11 (fun w => Mod (fun i => i = b2) w) follows rfl rfl ?_  -- d1 r3
  intro w5 g5
  replace hA := hA.grow g5
  replace hB := hB.grow g5
  replace G := G.grow g5
  replace B1 := B1.grow g5
  replace B2 := B2.grow g5
  have zg5 := g5.size
  have GS5 := Mod.refl (fun i => i = b2) w5
  refine Dq (i := 0) rfl GS5 (fun _ hs => Y_loadS Try.underlying32 rfl sz32 rfl (by first | exact CellsAt.mod (B1.row (by rfl)) hs (by intro h; first | omega | (dsimp only at h; omega)))) ?_
  refine Dq (i := 1) rfl GS5 (fun _ hs => Y_loadS Try.underlying32 rfl sz32 rfl (by first | exact CellsAt.mod (B1.row (by rfl)) hs (by intro h; first | omega | (dsimp only at h; omega)))) ?_
  refine D_1 (i := 2) (by kernel_rfl) ?_
  refine E_call rfl rfl en99 (spec_l9Order_c _ _ _ _ _ _ _ (by assumption) (by assumption) (by omega) (by assumption)) ?_  -- k2 spec.l9Order
  rintro v6 w6 ⟨A6, q6, cap6, rfl, hq6, O6, g6⟩
  replace hA := hA.grow g6
  replace hB := hB.grow g6
  replace G := G.grow g6
  replace GS5 := GS5.grow g6
  replace B1 := B1.grow g6
  replace B2 := B2.grow g6
  have zg6 := g6.size
  subst hq6
  replace O6 := O6.lt
  have hbn : Bnd h.cells.length (orderL h.cells h.roots nn) := orderL_bnd hl
  have hol := hbn.len
  have hRo := O6.r1
  refine ⟨GS5, ?_⟩
  refine D_1 (i := 3) (by kernel_rfl) ?_
  refine E_call rfl rfl en98 (spec_l15Move_c _ _ _ _ _ h (orderL h.cells h.roots nn) _ _ _ _ hA hB hRo (by omega) va hbn) ?_  -- k3 spec.l15Move
  rintro v7 w7 ⟨A7, B7, n17, c17, n27, c27, rs7, rfl, hn17, hn27, O7, g7⟩
  replace hA := hA.grow g7
  replace hB := hB.grow g7
  replace hRo := hRo.grow g7
  replace G := G.grow g7
  replace GS5 := GS5.grow g7
  replace B1 := B1.grow g7
  replace B2 := B2.grow g7
  have zg7 := g7.size
  have hn1 := hn17
  have hn2 := hn27
  have OG := O7.lt
  refine ⟨GS5, ?_⟩
  refine D_1 (i := 4) (by kernel_rfl) ?_
  refine E_stM (pre := []) (old := [_, _]) (post := []) (vs := [_, _]) (i := 4) rfl sz32 rfl rfl rfl (by first | rfl | assumption) B2 rfl rfl ?_
  intro w8 m8 X8
  replace B2 := Blk.eq (ys := [_, _]) X8 rfl
  clear X8
  replace G := G.abv m8
  replace GS5 := GS5.trn m8
  replace hA := hA0.grow G
  replace hB := hB0.grow G
  replace hRo := hRo.md m8
  replace OG := OG.md m8
  replace B1 := B1.md m8
  have zm8 := m8.size
  refine ⟨GS5, ?_⟩
  refine D_en (by kernel_rfl) rfl rfl ?_
  refine th_n (hK5 _ _ ?_)
  clear hK5 K5
  refine wp_ret ?_
  refine ret_rc (cs := [_, _]) Try.underlying32 rfl sz32 rfl rfl (B2.row (by rfl)) ?_  -- r2
  exact ⟨_, _, _, _, _, _, _, rfl, by rw [copyV_t hb1]; exact hn1, by rw [copyV_t hb1]; exact hn2, by rw [copyV_t hb1]; exact OG.weak (fun i hi => by omega), G⟩
end
/-! WalkCp -/
section
open Go Go.RowKit
attribute [local irreducible] wpList wpAnyH Code.wp dOp
set_option maxHeartbeats 400000 in
set_option maxRecDepth 20000 in
theorem impl_copyHeap_c (Pr : Nat → Prop) (A B : Option Addr) (h : LH) (c d : Nat) (w : World) (hA : RC Pr w A h.cells) (hB : R1 Pr w B (ints h.roots)) (hz : hsize h ≤ 1048576) :
    Calls Try.prog 82 #[.agg #[.slice A h.cells.length c, .slice B h.roots.length d]] w (Ret fun v w' => ∃ A1 B1 n1 c1 n2 c2 rs, v = .agg #[.slice A1 n1 c1, .slice B1 n2 c2] ∧ n1 = (h).cells.length ∧ n2 = (h).roots.length ∧ OH (fun i => w.heap.size ≤ i) w' 63 3 A1 B1 (h) rs ∧ Grow w w') := by
 have hz1 := hsize_cells h
 have hz2 := hsize_roots h
 have hne : (63 : TypeId) ≠ 3 := by decide
 refine enter Try.func82 rfl Try.ntmps82 (L := [_,_,_,_,_,_,_,_,_,_,_,_,_,_,_,_,_,_,_,_,_,_,_,_,_,_,_,_,_,_,_,_,_,_,_,_,_]) rfl ?_
 have G := Mod.refl No w
 have hA0 := hA
 have hB0 := hB
 refine wp_seq_k fun K1 hK1 => ?_
 refine Sb 37 rfl ?_  -- 0
 refine S_box (cs := [_, _]) rfl rfl ?_
 intro b1 w1 fb1 g1 B1
 have lb1 := B1.lt
 replace hA := hA.grow g1
 replace hB := hB.grow g1
 replace G := G.grow g1
 have zg1 := g1.size
 refine S_alloc (cs := [_, _]) zr32 rfl ?_
 intro b2 w2 fb2 g2 B2
 have lb2 := B2.lt
 replace hA := hA.grow g2
 replace hB := hB.grow g2
 replace G := G.grow g2
 replace B1 := B1.grow g2
 have zg2 := g2.size
 refine S_nl rfl rfl ?_
 refine th_n (hK1 _ _ ?_)
 clear hK1 K1
 refine wp_seq_k fun K2 hK2 => ?_
 refine D_cut (fun a' w' => ∃ (b3 bm capR : Nat) (AR : Option Addr) (L : List Value), a' = ⟨L.toArray, []⟩ ∧ L.length = 37 ∧ L[0]? = some (.agg #[.slice A h.cells.length c, .slice B h.roots.length d]) ∧ L[1]? = some (.pointer (some ⟨b1, 0, none⟩)) ∧ L[2]? = some (.pointer (some ⟨b2, 0, none⟩)) ∧ L[3]? = some (.pointer (some ⟨b3, 0, none⟩)) ∧ Mod (No) w2 w' ∧ (Blk w' b3 32 [.slice (some ⟨bm, 0, none⟩) 0 (h.cells.length + 1), .slice AR h.roots.length capR].toArray) ∧ (Blk w' bm 63 (zeros [.bool false, .int .i64 0, .slice none 0 0] (h.cells.length + 1)).toArray) ∧ (OW (fun i => w2.heap.size ≤ i ∧ i ≠ bm ∧ i ≠ b3 ∧ i < w'.heap.size) w' 3 1 AR h.roots.length capR (ints h.roots)) ∧ (w2.heap.size ≤ b3 ∧ w2.heap.size ≤ bm ∧ bm ≠ b3 ∧ bm < w'.heap.size)) ?_ ?_
 · -- cut
  refine D_start 11 37 (fun w => Mod (No) w) follows rfl rfl ?_  -- d1 r1
  intro w3 g3
  replace hA := hA.grow g3
  replace hB := hB.grow g3
  replace G := G.grow g3
  replace B1 := B1.grow g3
  replace B2 := B2.grow g3
  have zg3 := g3.size
  have GS3 := Mod.refl (No) w3
  have B1d3 := B1
  refine Dq (i := 0) rfl GS3 (fun _ _ => Y_field Try.underlying32 rfl fz32_0 (by decide) rfl) ?_
  refine Dq (i := 1) rfl GS3 (fun _ hs => Y_load Try.underlying30 rfl rfl (hs.cell0 (B1.at (by rfl)))) ?_
  refine Dq (i := 2) rfl GS3 (fun _ _ => Y_len Try.underlying30 rfl) ?_
  refine Dq (i := 3) rfl GS3 (fun _ _ => Y_add (c := ((h.cells.length + 1 : Nat) : Int)) rfl rfl rfl (by omega) (by omega)) ?_
  refine Dq (i := 5) rfl GS3 (fun _ _ => Y_field Try.underlying32 rfl fz32_1 (by decide) rfl) ?_
  refine Dq (i := 6) rfl GS3 (fun _ hs => Y_load Try.underlying23 rfl rfl (hs.cell0 (B1.at (by rfl)))) ?_
  refine D_3 (i := 4) (j := 7) (k := 9) (by kernel_rfl) ?_ ?_ ?_
  · -- operation 4 comes up
   refine E_make (i := 4) (n := h.cells.length + 1) (l := 0) (z := [.bool false, .int .i64 0, .slice none 0 0]) rfl Try.underlying30 zr63 sz63 by63 rfl rfl (by omega) (by omega) (by omega) ?_
   intro bm w5 fbm g5 BM
   have lbm := BM.lt
   refine ⟨GS3.grow g5, ?_⟩
   replace hA := hA.grow g5
   replace hB := hB.grow g5
   replace G := G.grow g5
   replace GS3 := GS3.grow g5
   replace B1 := B1.grow g5
   replace B2 := B2.grow g5
   have zg5 := g5.size
   refine D_2 (i := 7) (j := 9) (by kernel_rfl) ?_ ?_
   · -- operation 7 comes up
    refine E_call rfl rfl en74 (impl_clone_int__c _ _ _ _ _ (by assumption) (by omega)) ?_  -- k1 impl.clone[int]
    rintro v6 w6 ⟨A6, q6, cap6, rfl, hq6, O6, g6⟩
    replace hA := hA.grow g6
    replace hB := hB.grow g6
    replace BM := BM.grow g6
    replace G := G.grow g6
    replace GS3 := GS3.grow g6
    replace B1 := B1.grow g6
    replace B2 := B2.grow g6
    have zg6 := g6.size
    subst hq6
    obtain ⟨AR, rfl⟩ : ∃ x, x = A6 := ⟨_, rfl⟩
    obtain ⟨capR, rfl⟩ : ∃ x, x = cap6 := ⟨_, rfl⟩
    have OX := O6.lt
    refine ⟨GS3, ?_⟩
    refine Dq (i := 8) rfl GS3 (fun _ _ => Y_build (cs := [_, _]) zr32 pc32 rfl rfl) ?_
    refine D_1 (i := 9) (by kernel_rfl) ?_
    refine E_alloc (cs := [_, _]) rfl zr32 rfl (fun b7 w7 fb7 g7 B7 => ⟨GS3.grow g7, ?_⟩)
    have lb7 := B7.lt
    replace hA := hA.grow g7
    replace hB := hB.grow g7
    replace BM := BM.grow g7
    replace OX := OX.grow g7
    replace G := G.grow g7
    replace GS3 := GS3.grow g7
    replace B1 := B1.grow g7
    replace B2 := B2.grow g7
    have zg7 := g7.size
    refine D_1 (i := 10) (by kernel_rfl) ?_
    refine E_stM (pre := []) (old := [_, _]) (post := []) (vs := [_, _]) (i := 10) rfl sz32 rfl rfl rfl (by first | rfl | assumption) B7 rfl rfl ?_
    intro w8 m8 X8
    replace B7 := Blk.eq (ys := [_, _]) X8 rfl
    clear X8
    replace G := G.abv m8
    replace GS3 := GS3.abv m8
    replace hA := hA0.grow G
    replace hB := hB0.grow G
    replace BM := BM.md m8
    replace OX := OX.md m8
    replace B1 := B1.md m8
    replace B2 := B2.md m8
    have zm8 := m8.size
    refine ⟨GS3, ?_⟩
    refine D_en (by kernel_rfl) rfl rfl ?_
    exact ⟨rfl, _, _, _, _, _, rfl, rfl, rfl, rfl, rfl, rfl, g3.grow GS3, B7, BM, OX.weak (fun i hi => by omega), ⟨by omega, by omega, by omega, by omega⟩⟩
   · -- operation 9 comes up
    refine E_alloc (cs := [_, _]) rfl zr32 rfl (fun b9 w9 fb9 g9 B9 => ⟨GS3.grow g9, ?_⟩)
    have lb9 := B9.lt
    replace hA := hA.grow g9
    replace hB := hB.grow g9
    replace BM := BM.grow g9
    replace G := G.grow g9
    replace GS3 := GS3.grow g9
    replace B1 := B1.grow g9
    replace B2 := B2.grow g9
    have zg9 := g9.size
    refine D_1 (i := 7) (by kernel_rfl) ?_
    refine E_call rfl rfl en74 (impl_clone_int__c _ _ _ _ _ (by assumption) (by omega)) ?_  -- k2 impl.clone[int]
    rintro v10 w10 ⟨A10, q10, cap10, rfl, hq10, O10, g10⟩
    replace hA := hA.grow g10
    replace hB := hB.grow g10
    replace BM := BM.grow g10
    replace G := G.grow g10
    replace GS3 := GS3.grow g10
    replace B1 := B1.grow g10
    replace B2 := B2.grow g10
    replace B9 := B9.grow g10
    have zg10 := g10.size
    subst hq10
    obtain ⟨AR, rfl⟩ : ∃ x, x = A10 := ⟨_, rfl⟩
    obtain ⟨capR, rfl⟩ : ∃ x, x = cap10 := ⟨_, rfl⟩
    have OX := O10.lt
    refine ⟨GS3, ?_⟩
    refine Dq (i := 8) rfl GS3 (fun _ _ => Y_build (cs := [_, _]) zr32 pc32 rfl rfl) ?_
    refine D_1 (i := 10) (by kernel_rfl) ?_
    refine E_stM (pre := []) (old := [_, _]) (post := []) (vs := [_, _]) (i := 10) rfl sz32 rfl rfl rfl (by first | rfl | assumption) B9 rfl rfl ?_
    intro w11 m11 X11
    replace B9 := Blk.eq (ys := [_, _]) X11 rfl
    clear X11
    replace G := G.abv m11
    replace GS3 := GS3.abv m11
    replace hA := hA0.grow G
    replace hB := hB0.grow G
    replace BM := BM.md m11
    replace OX := OX.md m11
    replace B1 := B1.md m11
    replace B2 := B2.md m11
    have zm11 := m11.size
    refine ⟨GS3, ?_⟩
    refine D_en (by kernel_rfl) rfl rfl ?_
    exact ⟨rfl, _, _, _, _, _, rfl, rfl, rfl, rfl, rfl, rfl, g3.grow GS3, B9, BM, OX.weak (fun i hi => by omega), ⟨by omega, by omega, by omega, by omega⟩⟩
  · -- operation 7 comes up
   refine E_call rfl rfl en74 (impl_clone_int__c _ _ _ _ _ (by assumption) (by omega)) ?_  -- k3 impl.clone[int]
   rintro v12 w12 ⟨A12, q12, cap12, rfl, hq12, O12, g12⟩
   replace hA := hA.grow g12
   replace hB := hB.grow g12
   replace G := G.grow g12
   replace GS3 := GS3.grow g12
   replace B1 := B1.grow g12
   replace B2 := B2.grow g12
   have zg12 := g12.size
   subst hq12
   obtain ⟨AR, rfl⟩ : ∃ x, x = A12 := ⟨_, rfl⟩
   obtain ⟨capR, rfl⟩ : ∃ x, x = cap12 := ⟨_, rfl⟩
   have OX := O12.lt
   refine ⟨GS3, ?_⟩
   refine D_2 (i := 4) (j := 9) (by kernel_rfl) ?_ ?_
   · -- operation 4 comes up
    refine E_make (i := 4) (n := h.cells.length + 1) (l := 0) (z := [.bool false, .int .i64 0, .slice none 0 0]) rfl Try.underlying30 zr63 sz63 by63 rfl rfl (by omega) (by omega) (by omega) ?_
    intro bm w13 fbm g13 BM
    have lbm := BM.lt
    refine ⟨GS3.grow g13, ?_⟩
    replace hA := hA.grow g13
    replace hB := hB.grow g13
    replace OX := OX.grow g13
    replace G := G.grow g13
    replace GS3 := GS3.grow g13
    replace B1 := B1.grow g13
    replace B2 := B2.grow g13
    have zg13 := g13.size
    refine Dq (i := 8) rfl GS3 (fun _ _ => Y_build (cs := [_, _]) zr32 pc32 rfl rfl) ?_
    refine D_1 (i := 9) (by kernel_rfl) ?_
    refine E_alloc (cs := [_, _]) rfl zr32 rfl (fun b14 w14 fb14 g14 B14 => ⟨GS3.grow g14, ?_⟩)
    have lb14 := B14.lt
    replace hA := hA.grow g14
    replace hB := hB.grow g14
    replace OX := OX.grow g14
    replace BM := BM.grow g14
    replace G := G.grow g14
    replace GS3 := GS3.grow g14
    replace B1 := B1.grow g14
    replace B2 := B2.grow g14
    have zg14 := g14.size
    refine D_1 (i := 10) (by kernel_rfl) ?_
    refine E_stM (pre := []) (old := [_, _]) (post := []) (vs := [_, _]) (i := 10) rfl sz32 rfl rfl rfl (by first | rfl | assumption) B14 rfl rfl ?_
    intro w15 m15 X15
    replace B14 := Blk.eq (ys := [_, _]) X15 rfl
    clear X15
    replace G := G.abv m15
    replace GS3 := GS3.abv m15
    replace hA := hA0.grow G
    replace hB := hB0.grow G
    replace OX := OX.md m15
    replace BM := BM.md m15
    replace B1 := B1.md m15
    replace B2 := B2.md m15
    have zm15 := m15.size
    refine ⟨GS3, ?_⟩
    refine D_en (by kernel_rfl) rfl rfl ?_
    exact ⟨rfl, _, _, _, _, _, rfl, rfl, rfl, rfl, rfl, rfl, g3.grow GS3, B14, BM, OX.weak (fun i hi => by omega), ⟨by omega, by omega, by omega, by omega⟩⟩
   · -- operation 9 comes up
    refine E_alloc (cs := [_, _]) rfl zr32 rfl (fun b16 w16 fb16 g16 B16 => ⟨GS3.grow g16, ?_⟩)
    have lb16 := B16.lt
    replace hA := hA.grow g16
    replace hB := hB.grow g16
    replace OX := OX.grow g16
    replace G := G.grow g16
    replace GS3 := GS3.grow g16
    replace B1 := B1.grow g16
    replace B2 := B2.grow g16
    have zg16 := g16.size
    refine D_1 (i := 4) (by kernel_rfl) ?_
    refine E_make (i := 4) (n := h.cells.length + 1) (l := 0) (z := [.bool false, .int .i64 0, .slice none 0 0]) rfl Try.underlying30 zr63 sz63 by63 rfl rfl (by omega) (by omega) (by omega) ?_
    intro bm w17 fbm g17 BM
    have lbm := BM.lt
    refine ⟨GS3.grow g17, ?_⟩
    replace hA := hA.grow g17
    replace hB := hB.grow g17
    replace OX := OX.grow g17
    replace G := G.grow g17
    replace GS3 := GS3.grow g17
    replace B1 := B1.grow g17
    replace B2 := B2.grow g17
    replace B16 := B16.grow g17
    have zg17 := g17.size
    refine Dq (i := 8) rfl GS3 (fun _ _ => Y_build (cs := [_, _]) zr32 pc32 rfl rfl) ?_
    refine D_1 (i := 10) (by kernel_rfl) ?_
    refine E_stM (pre := []) (old := [_, _]) (post := []) (vs := [_, _]) (i := 10) rfl sz32 rfl rfl rfl (by first | rfl | assumption) B16 rfl rfl ?_
    intro w18 m18 X18
    replace B16 := Blk.eq (ys := [_, _]) X18 rfl
    clear X18
    replace G := G.abv m18
    replace GS3 := GS3.abv m18
    replace hA := hA0.grow G
    replace hB := hB0.grow G
    replace OX := OX.md m18
    replace BM := BM.md m18
    replace B1 := B1.md m18
    replace B2 := B2.md m18
    have zm18 := m18.size
    refine ⟨GS3, ?_⟩
    refine D_en (by kernel_rfl) rfl rfl ?_
    exact ⟨rfl, _, _, _, _, _, rfl, rfl, rfl, rfl, rfl, rfl, g3.grow GS3, B16, BM, OX.weak (fun i hi => by omega), ⟨by omega, by omega, by omega, by omega⟩⟩
  · -- operation 9 comes up
   refine E_alloc (cs := [_, _]) rfl zr32 rfl (fun b19 w19 fb19 g19 B19 => ⟨GS3.grow g19, ?_⟩)
   have lb19 := B19.lt
   replace hA := hA.grow g19
   replace hB := hB.grow g19
   replace G := G.grow g19
   replace GS3 := GS3.grow g19
   replace B1 := B1.grow g19
   replace B2 := B2.grow g19
   have zg19 := g19.size
   refine D_2 (i := 4) (j := 7) (by kernel_rfl) ?_ ?_
   · -- operation 4 comes up
    refine E_make (i := 4) (n := h.cells.length + 1) (l := 0) (z := [.bool false, .int .i64 0, .slice none 0 0]) rfl Try.underlying30 zr63 sz63 by63 rfl rfl (by omega) (by omega) (by omega) ?_
    intro bm w20 fbm g20 BM
    have lbm := BM.lt
    refine ⟨GS3.grow g20, ?_⟩
    replace hA := hA.grow g20
    replace hB := hB.grow g20
    replace G := G.grow g20
    replace GS3 := GS3.grow g20
    replace B1 := B1.grow g20
    replace B2 := B2.grow g20
    replace B19 := B19.grow g20
    have zg20 := g20.size
    refine D_1 (i := 7) (by kernel_rfl) ?_
    refine E_call rfl rfl en74 (impl_clone_int__c _ _ _ _ _ (by assumption) (by omega)) ?_  -- k4 impl.clone[int]
    rintro v21 w21 ⟨A21, q21, cap21, rfl, hq21, O21, g21⟩
    replace hA := hA.grow g21
    replace hB := hB.grow g21
    replace BM := BM.grow g21
    replace G := G.grow g21
    replace GS3 := GS3.grow g21
    replace B1 := B1.grow g21
    replace B2 := B2.grow g21
    replace B19 := B19.grow g21
    have zg21 := g21.size
    subst hq21
    obtain ⟨AR, rfl⟩ : ∃ x, x = A21 := ⟨_, rfl⟩
    obtain ⟨capR, rfl⟩ : ∃ x, x = cap21 := ⟨_, rfl⟩
    have OX := O21.lt
    refine ⟨GS3, ?_⟩
    refine Dq (i := 8) rfl GS3 (fun _ _ => Y_build (cs := [_, _]) zr32 pc32 rfl rfl) ?_
    refine D_1 (i := 10) (by kernel_rfl) ?_
    refine E_stM (pre := []) (old := [_, _]) (post := []) (vs := [_, _]) (i := 10) rfl sz32 rfl rfl rfl (by first | rfl | assumption) B19 rfl rfl ?_
    intro w22 m22 X22
    replace B19 := Blk.eq (ys := [_, _]) X22 rfl
    clear X22
    replace G := G.abv m22
    replace GS3 := GS3.abv m22
    replace hA := hA0.grow G
    replace hB := hB0.grow G
    replace BM := BM.md m22
    replace OX := OX.md m22
    replace B1 := B1.md m22
    replace B2 := B2.md m22
    have zm22 := m22.size
    refine ⟨GS3, ?_⟩
    refine D_en (by kernel_rfl) rfl rfl ?_
    exact ⟨rfl, _, _, _, _, _, rfl, rfl, rfl, rfl, rfl, rfl, g3.grow GS3, B19, BM, OX.weak (fun i hi => by omega), ⟨by omega, by omega, by omega, by omega⟩⟩
   · -- operation 7 comes up
    refine E_call rfl rfl en74 (impl_clone_int__c _ _ _ _ _ (by assumption) (by omega)) ?_  -- k5 impl.clone[int]
    rintro v23 w23 ⟨A23, q23, cap23, rfl, hq23, O23, g23⟩
    replace hA := hA.grow g23
    replace hB := hB.grow g23
    replace G := G.grow g23
    replace GS3 := GS3.grow g23
    replace B1 := B1.grow g23
    replace B2 := B2.grow g23
    replace B19 := B19.grow g23
    have zg23 := g23.size
    subst hq23
    obtain ⟨AR, rfl⟩ : ∃ x, x = A23 := ⟨_, rfl⟩
    obtain ⟨capR, rfl⟩ : ∃ x, x = cap23 := ⟨_, rfl⟩
    have OX := O23.lt
    refine ⟨GS3, ?_⟩
    refine D_1 (i := 4) (by kernel_rfl) ?_
    refine E_make (i := 4) (n := h.cells.length + 1) (l := 0) (z := [.bool false, .int .i64 0, .slice none 0 0]) rfl Try.underlying30 zr63 sz63 by63 rfl rfl (by omega) (by omega) (by omega) ?_
    intro bm w24 fbm g24 BM
    have lbm := BM.lt
    refine ⟨GS3.grow g24, ?_⟩
    replace hA := hA.grow g24
    replace hB := hB.grow g24
    replace OX := OX.grow g24
    replace G := G.grow g24
    replace GS3 := GS3.grow g24
    replace B1 := B1.grow g24
    replace B2 := B2.grow g24
    replace B19 := B19.grow g24
    have zg24 := g24.size
    refine Dq (i := 8) rfl GS3 (fun _ _ => Y_build (cs := [_, _]) zr32 pc32 rfl rfl) ?_
    refine D_1 (i := 10) (by kernel_rfl) ?_
    refine E_stM (pre := []) (old := [_, _]) (post := []) (vs := [_, _]) (i := 10) rfl sz32 rfl rfl rfl (by first | rfl | assumption) B19 rfl rfl ?_
    intro w25 m25 X25
    replace B19 := Blk.eq (ys := [_, _]) X25 rfl
    clear X25
    replace G := G.abv m25
    replace GS3 := GS3.abv m25
    replace hA := hA0.grow G
    replace hB := hB0.grow G
    replace OX := OX.md m25
    replace BM := BM.md m25
    replace B1 := B1.md m25
    replace B2 := B2.md m25
    have zm25 := m25.size
    refine ⟨GS3, ?_⟩
    refine D_en (by kernel_rfl) rfl rfl ?_
    exact ⟨rfl, _, _, _, _, _, rfl, rfl, rfl, rfl, rfl, rfl, g3.grow GS3, B19, BM, OX.weak (fun i hi => by omega), ⟨by omega, by omega, by omega, by omega⟩⟩
 · -- behind the cut
  rintro a' w4 ⟨b3, bm, capR, AR, L, rfl, hL, hs0, hs1, hs2, hs3, gJ4, B3, BM, OX, hb39⟩
  obtain ⟨x, rfl⟩ : ∃ x : Nat → Value, L = [(.agg #[.slice A h.cells.length c, .slice B h.roots.length d]), (.pointer (some ⟨b1, 0, none⟩)), (.pointer (some ⟨b2, 0, none⟩)), (.pointer (some ⟨b3, 0, none⟩)), x 4, x 5, x 6, x 7, x 8, x 9, x 10, x 11, x 12, x 13, x 14, x 15, x 16, x 17, x 18, x 19, x 20, x 21, x 22, x 23, x 24, x 25, x 26, x 27, x 28, x 29, x 30, x 31, x 32, x 33, x 34, x 35, x 36] := ⟨fun i => L.getD i undef, (slots_eta L 37 hL).trans (by show [L.getD 0 undef, L.getD 1 undef, L.getD 2 undef, L.getD 3 undef, L.getD 4 undef, L.getD 5 undef, L.getD 6 undef, L.getD 7 undef, L.getD 8 undef, L.getD 9 undef, L.getD 10 undef, L.getD 11 undef, L.getD 12 undef, L.getD 13 undef, L.getD 14 undef, L.getD 15 undef, L.getD 16 undef, L.getD 17 undef, L.getD 18 undef, L.getD 19 undef, L.getD 20 undef, L.getD 21 undef, L.getD 22 undef, L.getD 23 undef, L.getD 24 undef, L.getD 25 undef, L.getD 26 undef, L.getD 27 undef, L.getD 28 undef, L.getD 29 undef, L.getD 30 undef, L.getD 31 undef, L.getD 32 undef, L.getD 33 undef, L.getD 34 undef, L.getD 35 undef, L.getD 36 undef] = _; rw [slot_d hs0, slot_d hs1, slot_d hs2, slot_d hs3])⟩
  clear hL hs0 hs1 hs2 hs3
  replace hA := hA.grow gJ4
  replace hB := hB.grow gJ4
  replace G := G.grow gJ4
  replace B1 := B1.grow gJ4
  replace B2 := B2.grow gJ4
  have zgJ4 := gJ4.size
  have lb3 := B3.lt
  obtain ⟨p1, p2, p3, p4⟩ := hb39
  refine th_n (hK2 _ _ ?_)
  clear hK2 K2
  refine wp_seq_k fun K3 hK3 => ?_
  refine wp_seq_k fun K4 hK4 => ?_
  refine Sb 37 rfl ?_  -- 2
  refine S_val (Y_field Try.underlying32 rfl fz32_0 (by decide) rfl) ?_
  refine S_val (Y_load Try.underlying30 rfl rfl (B1.at (by rfl))) ?_  -- l3
  refine S_val (Y_len Try.underlying30 rfl) ?_
  refine S_val (Y_move rfl) ?_
  refine S_nl rfl rfl ?_
  refine th_n (hK4 _ _ ?_)
  clear hK4 K4
  refine wp_block ?_
  obtain ⟨wz, hwz⟩ : ∃ x, x = w4.heap.size := ⟨_, rfl⟩
  have OC1 : OW (fun i => i = bm ∨ wz ≤ i) w4 63 3 (some ⟨bm, 0, none⟩) 0 (h.cells.length + 1) (flatC ([] : List LC) []) := OW.room BM rfl (by unfold maxLen; omega) (.inl rfl)
  have OR1 : ORs (fun i => wz ≤ i) w4 3 ([] : List LC) [] := ORs.nil _ _ _
  go_loopw [18] (fun u18 wr => (∃ (k q cap : Nat) (A1 : Option Addr) (rs : List (Option Addr × Nat)), u18 = .int .i64 k ∧ k ≤ h.cells.length ∧ q = k ∧ Blk wr b3 32 [.slice A1 q cap, .slice AR h.roots.length capR].toArray ∧ OW (fun i => i = bm ∨ wz ≤ i) wr 63 3 A1 q cap (flatC (h.cells.take k) rs) ∧ ORs (fun i => wz ≤ i) wr 3 (h.cells.take k) rs) ∧ Mod (fun i => i = b3 ∨ (i = bm ∨ wz ≤ i) ∨ wz ≤ i) w4 wr) (fun u18 wr => h.cells.length - (intOf u18).toNat)  -- L1
  case atStart =>
   refine ⟨?_, Mod.refl _ _⟩
   exact ⟨0, 0, _, _, [], rfl, by omega, rfl, B3, OC1, OR1⟩
  case round =>
   obtain ⟨w26, rfl⟩ : ∃ x : World, x = wr := ⟨_, rfl⟩
   obtain ⟨hrel, g26⟩ := hrel
   clear B3
   clear OC1
   clear OR1
   replace G := G.abv g26
   replace hA := hA0.grow G
   replace hB := hB0.grow G
   replace OX := OX.md g26
   replace B1 := B1.md g26
   replace B2 := B2.md g26
   have zg26 := g26.size
   obtain ⟨k, q1, cap1, A1, rs, rfl, hk, hq1, B3, OC1, OR1⟩ := hrel
   have hlk : (h.cells.take k).length = k := by simp; omega
   have GL26 := g26
   refine wp_seq_k fun K5 hK5 => ?_
   refine Sb 37 rfl ?_  -- 3
   refine S_val (Y_lss rfl rfl) ?_
   refine S_nl rfl rfl ?_
   refine th_n (hK5 _ _ ?_)
   clear hK5 K5
   refine wp_seq_k fun K6 hK6 => ?_
   refine S_if rfl (fun hb1 => ?_) (fun hb1 => ?_)  -- c1
   · -- c1T
    replace hb1 := nb_tt hb1
    have hk1 : k < h.cells.length := by omega
    obtain ⟨g2, o2, E2, d2, rfl, hp2, cc20, hE20⟩ := hA0.cell hk1
    have cc2 := cc20.grow G
    have hE2 := hE20.grow G
    have hr1 := hsize_refs h hk1
    replace OC1 := OC1.lt
    replace OR1 := OR1.lt
    refine wp_skip ?_
    refine th_n (hK6 _ _ ?_)
    clear hK6 K6
    refine wp_seq_k fun K7 hK7 => ?_
    refine wp_block ?_
    refine wp_seq_k fun K8 hK8 => ?_
    refine Sb 37 rfl ?_  -- 4
    refine S_val (Y_index Try.underlying30 sz63 rfl rfl (by first | assumption | omega)) ?_
    refine S_val (Y_loadS Try.underlying63 rfl sz63 rfl (by first | assumption | exact B1.row (by rfl) | exact B2.row (by rfl) | exact B3.row (by rfl))) ?_  -- l4
    refine S_alloc (cs := [_, _, _]) zr63 rfl ?_
    intro b27 w27 fb27 g27 B27
    have lb27 := B27.lt
    replace hA := hA.grow g27
    replace hB := hB.grow g27
    replace cc2 := cc2.grow g27
    replace hE2 := hE2.grow g27
    replace OX := OX.grow g27
    replace OC1 := OC1.grow g27
    replace OR1 := OR1.grow g27
    replace G := G.grow g27
    replace GL26 := GL26.grow g27
    replace B1 := B1.grow g27
    replace B2 := B2.grow g27
    replace B3 := B3.grow g27
    have zg27 := g27.size
    refine S_stM (pre := []) (old := [_, _, _]) (post := []) (vs := [_, _, _]) sz63 rfl rfl rfl (by first | rfl | assumption) B27 rfl rfl ?_
    intro w28 m28 X28
    replace B27 := Blk.eq (ys := [_, _, _]) X28 rfl
    clear X28
    replace G := G.abv m28
    first | replace GL26 := GL26.abv m28 | clear GL26
    replace hA := hA0.grow G
    replace hB := hB0.grow G
    replace cc2 := cc20.grow G
    replace hE2 := hE20.grow G
    replace OX := OX.md m28
    replace OC1 := OC1.md m28
    replace OR1 := OR1.md m28
    replace B1 := B1.md m28
    replace B2 := B2.md m28
    replace B3 := B3.md m28
    have zm28 := m28.size
    refine S_nl rfl rfl ?_
    refine th_n (hK8 _ _ ?_)
    clear hK8 K8
    refine D_start 14 37 (fun w => Mod (fun i => i = b3 ∨ ((i = bm ∨ wz ≤ i) ∧ i ≠ b27)) w) follows rfl rfl ?_  -- d2 r5
    intro w29 g29
    replace hA := hA.grow g29
    replace hB := hB.grow g29
    replace cc2 := cc2.grow g29
    replace hE2 := hE2.grow g29
    replace OX := OX.grow g29
    replace OC1 := OC1.grow g29
    replace OR1 := OR1.grow g29
    replace G := G.grow g29
    replace GL26 := GL26.grow g29
    replace B1 := B1.grow g29
    replace B2 := B2.grow g29
    replace B3 := B3.grow g29
    replace B27 := B27.grow g29
    have zg29 := g29.size
    have GS29 := Mod.refl (fun i => i = b3 ∨ ((i = bm ∨ wz ≤ i) ∧ i ≠ b27)) w29
    refine Dq (i := 0) rfl GS29 (fun _ _ => Y_field Try.underlying32 rfl fz32_0 (by decide) rfl) ?_
    refine Dq (i := 2) rfl GS29 (fun _ _ => Y_field Try.underlying63 rfl fz63_0 (by decide) rfl) ?_
    refine Dq (i := 3) rfl GS29 (fun _ hs => Y_load Try.underlying4 rfl rfl (by first | exact hs.cell (B27.at (by rfl)) (by intro h; first | omega | (dsimp only at h; omega)))) ?_
    refine Dq (i := 4) rfl GS29 (fun _ _ => Y_field Try.underlying63 rfl fz63_1 (by decide) rfl) ?_
    refine Dq (i := 5) rfl GS29 (fun _ hs => Y_load Try.underlying3 rfl rfl (by first | exact hs.cell (B27.at (by rfl)) (by intro h; first | omega | (dsimp only at h; omega)))) ?_
    refine Dq (i := 6) rfl GS29 (fun _ _ => Y_field Try.underlying63 rfl fz63_2 (by decide) rfl) ?_
    refine Dq (i := 7) rfl GS29 (fun _ hs => Y_load Try.underlying23 rfl rfl (by first | exact hs.cell (B27.at (by rfl)) (by intro h; first | omega | (dsimp only at h; omega)))) ?_
    refine D_2 (i := 1) (j := 8) (by kernel_rfl) ?_ ?_
    · -- operation 1 comes up
     refine E_val (i := 1) rfl (Y_load Try.underlying30 rfl rfl (B3.at (by rfl))) GS29 ?_
     refine D_1 (i := 8) (by kernel_rfl) ?_
     refine E_call rfl rfl en74 (impl_clone_int__c _ _ _ _ _ hE2 (by omega)) ?_  -- k6 impl.clone[int]
     rintro v31 w31 ⟨A31, q31, cap31, rfl, hq31, O31, g31⟩
     replace hA := hA.grow g31
     replace hB := hB.grow g31
     replace cc2 := cc2.grow g31
     replace hE2 := hE2.grow g31
     replace OX := OX.grow g31
     replace OC1 := OC1.grow g31
     replace OR1 := OR1.grow g31
     replace G := G.grow g31
     replace GL26 := GL26.grow g31
     replace GS29 := GS29.grow g31
     replace B1 := B1.grow g31
     replace B2 := B2.grow g31
     replace B3 := B3.grow g31
     replace B27 := B27.grow g31
     have zg31 := g31.size
     subst hq31
     obtain ⟨AY, rfl⟩ : ∃ x, x = A31 := ⟨_, rfl⟩
     obtain ⟨capY, rfl⟩ : ∃ x, x = cap31 := ⟨_, rfl⟩
     have OY := O31
     refine ⟨GS29, ?_⟩
     refine Dq (i := 9) rfl GS29 (fun _ _ => Y_build (cs := [_, _, _]) zr63 pc63 rfl rfl) ?_
     refine D_1 (i := 10) (by kernel_rfl) ?_
     refine E_bs1 (cs := [_, _, _]) (i := 10) rfl Try.underlying30 zr63 sz63 rfl rfl rfl ?_
     intro b32 w32 fb32 g32 B32
     refine ⟨GS29.grow g32, ?_⟩
     have lb32 := B32.lt
     replace hA := hA.grow g32
     replace hB := hB.grow g32
     replace cc2 := cc2.grow g32
     replace hE2 := hE2.grow g32
     replace OX := OX.grow g32
     replace OC1 := OC1.grow g32
     replace OR1 := OR1.grow g32
     replace OY := OY.grow g32
     replace G := G.grow g32
     replace GL26 := GL26.grow g32
     replace GS29 := GS29.grow g32
     replace B1 := B1.grow g32
     replace B2 := B2.grow g32
     replace B3 := B3.grow g32
     replace B27 := B27.grow g32
     have zg32 := g32.size
     refine D_1 (i := 11) (by kernel_rfl) ?_
     refine E_app2 (i := 11) rfl Try.underlying30 zr63 sz63 by63 rfl rfl OC1 rfl (Src.blk B32) (by simp [Value.oneCell']) (by omega) (Pr' := fun i => (i = bm ∨ wz ≤ i) ∧ i ≠ b27) (fun i hi => by omega) (by omega) ?_
     intro A33 cap33 w33 X33 m33 n33
     replace OR1 := OR1.app OC1 hne n33
     replace OC1 := X33
     clear X33 n33
     replace G := G.abv m33
     replace GL26 := GL26.trn m33
     replace GS29 := GS29.trn m33
     replace hA := hA0.grow G
     replace hB := hB0.grow G
     replace cc2 := cc20.grow G
     replace hE2 := hE20.grow G
     replace OX := OX.md m33
     replace OY := OY.md m33
     replace B1 := B1.md m33
     replace B2 := B2.md m33
     replace B3 := B3.md m33
     replace B27 := B27.md m33
     have zm33 := m33.size
     refine ⟨GS29, ?_⟩
     have OR2 := OR1.more (c := h.cells[k]) OY (fun i hi => by omega) (Pr' := fun i => wz ≤ i) (fun i hi => by omega) (fun i hi => by omega)
     replace OC1 : OW (fun i => (i = bm ∨ wz ≤ i) ∧ i ≠ b27) w33 63 3 A33 (q1 + 1) cap33 (flatC (h.cells.take (k + 1)) (rs ++ [(AY, capY)])) := by rw [List.take_succ_eq_append_getElem hk1, ← flat_more OR1.len]; exact OC1
     rw [← List.take_succ_eq_append_getElem hk1] at OR2
     refine Dq (i := 12) rfl GS29 (fun _ _ => Y_field Try.underlying32 rfl fz32_0 (by decide) rfl) ?_
     refine D_1 (i := 13) (by kernel_rfl) ?_
     refine E_stM (pre := []) (old := [_]) (post := [_]) (vs := [_]) (i := 13) rfl sz30 rfl rfl rfl (by first | rfl | assumption) B3 rfl rfl ?_
     intro w34 m34 X34
     replace B3 := Blk.eq (ys := [_, _]) X34 rfl
     clear X34
     replace G := G.abv m34
     replace GL26 := GL26.trn m34
     replace GS29 := GS29.trn m34
     replace hA := hA0.grow G
     replace hB := hB0.grow G
     replace cc2 := cc20.grow G
     replace hE2 := hE20.grow G
     replace OX := OX.md m34
     replace OC1 := OC1.md m34
     replace OR2 := OR2.md m34
     replace B1 := B1.md m34
     replace B2 := B2.md m34
     replace B27 := B27.md m34
     have zm34 := m34.size
     refine ⟨GS29, ?_⟩
     refine D_en (by kernel_rfl) rfl rfl ?_
     refine ib_n ?_
     refine th_n (hK7 _ _ ?_)
     clear hK7 K7
     refine Sb 37 rfl ?_  -- 6
     refine S_val (Y_inc rfl rfl (by omega)) ?_
     refine S_val (Y_move rfl) ?_
     refine S_nl rfl rfl ?_
     refine th_n ?_
     go_roundw  -- e1 of L1
     case rel =>
      refine ⟨?_, GL26⟩
      exact ⟨k + 1, _, _, _, _, rfl, by omega, by omega, B3, OC1.weak (fun i hi => hi.1), OR2⟩
     case measure =>
      exact dec_nat (by omega)
    · -- operation 8 comes up
     refine E_call rfl rfl en74 (impl_clone_int__c _ _ _ _ _ hE2 (by omega)) ?_  -- k7 impl.clone[int]
     rintro v35 w35 ⟨A35, q35, cap35, rfl, hq35, O35, g35⟩
     replace hA := hA.grow g35
     replace hB := hB.grow g35
     replace cc2 := cc2.grow g35
     replace hE2 := hE2.grow g35
     replace OX := OX.grow g35
     replace OC1 := OC1.grow g35
     replace OR1 := OR1.grow g35
     replace G := G.grow g35
     replace GL26 := GL26.grow g35
     replace GS29 := GS29.grow g35
     replace B1 := B1.grow g35
     replace B2 := B2.grow g35
     replace B3 := B3.grow g35
     replace B27 := B27.grow g35
     have zg35 := g35.size
     subst hq35
     obtain ⟨AY, rfl⟩ : ∃ x, x = A35 := ⟨_, rfl⟩
     obtain ⟨capY, rfl⟩ : ∃ x, x = cap35 := ⟨_, rfl⟩
     have OY := O35
     refine ⟨GS29, ?_⟩
     refine Dq (i := 9) rfl GS29 (fun _ _ => Y_build (cs := [_, _, _]) zr63 pc63 rfl rfl) ?_
     refine D_2 (i := 1) (j := 10) (by kernel_rfl) ?_ ?_
     · -- operation 1 comes up
      refine E_val (i := 1) rfl (Y_load Try.underlying30 rfl rfl (B3.at (by rfl))) GS29 ?_
      refine D_1 (i := 10) (by kernel_rfl) ?_
      refine E_bs1 (cs := [_, _, _]) (i := 10) rfl Try.underlying30 zr63 sz63 rfl rfl rfl ?_
      intro b37 w37 fb37 g37 B37
      refine ⟨GS29.grow g37, ?_⟩
      have lb37 := B37.lt
      replace hA := hA.grow g37
      replace hB := hB.grow g37
      replace cc2 := cc2.grow g37
      replace hE2 := hE2.grow g37
      replace OX := OX.grow g37
      replace OC1 := OC1.grow g37
      replace OR1 := OR1.grow g37
      replace OY := OY.grow g37
      replace G := G.grow g37
      replace GL26 := GL26.grow g37
      replace GS29 := GS29.grow g37
      replace B1 := B1.grow g37
      replace B2 := B2.grow g37
      replace B3 := B3.grow g37
      replace B27 := B27.grow g37
      have zg37 := g37.size
      refine D_1 (i := 11) (by kernel_rfl) ?_
      refine E_app2 (i := 11) rfl Try.underlying30 zr63 sz63 by63 rfl rfl OC1 rfl (Src.blk B37) (by simp [Value.oneCell']) (by omega) (Pr' := fun i => (i = bm ∨ wz ≤ i) ∧ i ≠ b27) (fun i hi => by omega) (by omega) ?_
      intro A38 cap38 w38 X38 m38 n38
      replace OR1 := OR1.app OC1 hne n38
      replace OC1 := X38
      clear X38 n38
      replace G := G.abv m38
      replace GL26 := GL26.trn m38
      replace GS29 := GS29.trn m38
      replace hA := hA0.grow G
      replace hB := hB0.grow G
      replace cc2 := cc20.grow G
      replace hE2 := hE20.grow G
      replace OX := OX.md m38
      replace OY := OY.md m38
      replace B1 := B1.md m38
      replace B2 := B2.md m38
      replace B3 := B3.md m38
      replace B27 := B27.md m38
      have zm38 := m38.size
      refine ⟨GS29, ?_⟩
      have OR2 := OR1.more (c := h.cells[k]) OY (fun i hi => by omega) (Pr' := fun i => wz ≤ i) (fun i hi => by omega) (fun i hi => by omega)
      replace OC1 : OW (fun i => (i = bm ∨ wz ≤ i) ∧ i ≠ b27) w38 63 3 A38 (q1 + 1) cap38 (flatC (h.cells.take (k + 1)) (rs ++ [(AY, capY)])) := by rw [List.take_succ_eq_append_getElem hk1, ← flat_more OR1.len]; exact OC1
      rw [← List.take_succ_eq_append_getElem hk1] at OR2
      refine Dq (i := 12) rfl GS29 (fun _ _ => Y_field Try.underlying32 rfl fz32_0 (by decide) rfl) ?_
      refine D_1 (i := 13) (by kernel_rfl) ?_
      refine E_stM (pre := []) (old := [_]) (post := [_]) (vs := [_]) (i := 13) rfl sz30 rfl rfl rfl (by first | rfl | assumption) B3 rfl rfl ?_
      intro w39 m39 X39
      replace B3 := Blk.eq (ys := [_, _]) X39 rfl
      clear X39
      replace G := G.abv m39
      replace GL26 := GL26.trn m39
      replace GS29 := GS29.trn m39
      replace hA := hA0.grow G
      replace hB := hB0.grow G
      replace cc2 := cc20.grow G
      replace hE2 := hE20.grow G
      replace OX := OX.md m39
      replace OC1 := OC1.md m39
      replace OR2 := OR2.md m39
      replace B1 := B1.md m39
      replace B2 := B2.md m39
      replace B27 := B27.md m39
      have zm39 := m39.size
      refine ⟨GS29, ?_⟩
      refine D_en (by kernel_rfl) rfl rfl ?_
      refine ib_n ?_
      refine th_n (hK7 _ _ ?_)
      clear hK7 K7
      refine Sb 37 rfl ?_  -- 6
      refine S_val (Y_inc rfl rfl (by omega)) ?_
      refine S_val (Y_move rfl) ?_
      refine S_nl rfl rfl ?_
      refine th_n ?_
      go_roundw  -- e2 of L1
      case rel =>
       refine ⟨?_, GL26⟩
       exact ⟨k + 1, _, _, _, _, rfl, by omega, by omega, B3, OC1.weak (fun i hi => hi.1), OR2⟩
      case measure =>
       exact dec_nat (by omega)
     · -- operation 10 comes up
      refine E_bs1 (cs := [_, _, _]) (i := 10) rfl Try.underlying30 zr63 sz63 rfl rfl rfl ?_
      intro b40 w40 fb40 g40 B40
      refine ⟨GS29.grow g40, ?_⟩
      have lb40 := B40.lt
      replace hA := hA.grow g40
      replace hB := hB.grow g40
      replace cc2 := cc2.grow g40
      replace hE2 := hE2.grow g40
      replace OX := OX.grow g40
      replace OC1 := OC1.grow g40
      replace OR1 := OR1.grow g40
      replace OY := OY.grow g40
      replace G := G.grow g40
      replace GL26 := GL26.grow g40
      replace GS29 := GS29.grow g40
      replace B1 := B1.grow g40
      replace B2 := B2.grow g40
      replace B3 := B3.grow g40
      replace B27 := B27.grow g40
      have zg40 := g40.size
      refine D_1 (i := 1) (by kernel_rfl) ?_
      refine E_val (i := 1) rfl (Y_load Try.underlying30 rfl rfl (B3.at (by rfl))) GS29 ?_
      refine D_1 (i := 11) (by kernel_rfl) ?_
      refine E_app2 (i := 11) rfl Try.underlying30 zr63 sz63 by63 rfl rfl OC1 rfl (Src.blk B40) (by simp [Value.oneCell']) (by omega) (Pr' := fun i => (i = bm ∨ wz ≤ i) ∧ i ≠ b27) (fun i hi => by omega) (by omega) ?_
      intro A42 cap42 w42 X42 m42 n42
      replace OR1 := OR1.app OC1 hne n42
      replace OC1 := X42
      clear X42 n42
      replace G := G.abv m42
      replace GL26 := GL26.trn m42
      replace GS29 := GS29.trn m42
      replace hA := hA0.grow G
      replace hB := hB0.grow G
      replace cc2 := cc20.grow G
      replace hE2 := hE20.grow G
      replace OX := OX.md m42
      replace OY := OY.md m42
      replace B1 := B1.md m42
      replace B2 := B2.md m42
      replace B3 := B3.md m42
      replace B27 := B27.md m42
      have zm42 := m42.size
      refine ⟨GS29, ?_⟩
      have OR2 := OR1.more (c := h.cells[k]) OY (fun i hi => by omega) (Pr' := fun i => wz ≤ i) (fun i hi => by omega) (fun i hi => by omega)
      replace OC1 : OW (fun i => (i = bm ∨ wz ≤ i) ∧ i ≠ b27) w42 63 3 A42 (q1 + 1) cap42 (flatC (h.cells.take (k + 1)) (rs ++ [(AY, capY)])) := by rw [List.take_succ_eq_append_getElem hk1, ← flat_more OR1.len]; exact OC1
      rw [← List.take_succ_eq_append_getElem hk1] at OR2
      refine Dq (i := 12) rfl GS29 (fun _ _ => Y_field Try.underlying32 rfl fz32_0 (by decide) rfl) ?_
      refine D_1 (i := 13) (by kernel_rfl) ?_
      refine E_stM (pre := []) (old := [_]) (post := [_]) (vs := [_]) (i := 13) rfl sz30 rfl rfl rfl (by first | rfl | assumption) B3 rfl rfl ?_
      intro w43 m43 X43
      replace B3 := Blk.eq (ys := [_, _]) X43 rfl
      clear X43
      replace G := G.abv m43
      replace GL26 := GL26.trn m43
      replace GS29 := GS29.trn m43
      replace hA := hA0.grow G
      replace hB := hB0.grow G
      replace cc2 := cc20.grow G
      replace hE2 := hE20.grow G
      replace OX := OX.md m43
      replace OC1 := OC1.md m43
      replace OR2 := OR2.md m43
      replace B1 := B1.md m43
      replace B2 := B2.md m43
      replace B27 := B27.md m43
      have zm43 := m43.size
      refine ⟨GS29, ?_⟩
      refine D_en (by kernel_rfl) rfl rfl ?_
      refine ib_n ?_
      refine th_n (hK7 _ _ ?_)
      clear hK7 K7
      refine Sb 37 rfl ?_  -- 6
      refine S_val (Y_inc rfl rfl (by omega)) ?_
      refine S_val (Y_move rfl) ?_
      refine S_nl rfl rfl ?_
      refine th_n ?_
      go_roundw  -- e3 of L1
      case rel =>
       refine ⟨?_, GL26⟩
       exact ⟨k + 1, _, _, _, _, rfl, by omega, by omega, B3, OC1.weak (fun i hi => hi.1), OR2⟩
      case measure =>
       exact dec_nat (by omega)
   · -- c1F
    replace hb1 := nb_tf hb1
    refine wp_exit ?_
    refine th_x ?_
    try clear GL26
    refine th_x ?_
    refine ib_e ?_
    refine th_n (hK3 _ _ ?_)
    clear hK6 K6 hK3 K3
    refine wp_seq_k fun K9 hK9 => ?_
    refine Sb 37 rfl ?_  -- 7
    refine S_val (Y_loadS Try.underlying32 rfl sz32 rfl (B3.row (by rfl))) ?_  -- l8
    refine S_stM (pre := []) (old := [_, _]) (post := []) (vs := [_, _]) sz32 rfl rfl rfl (by first | rfl | assumption) B2 rfl rfl ?_
    intro w44 m44 X44
    replace B2 := Blk.eq (ys := [_, _]) X44 rfl
    clear X44
    replace G := G.abv m44
    replace hA := hA0.grow G
    replace hB := hB0.grow G
    replace OX := OX.md m44
    replace OC1 := OC1.md m44
    replace OR1 := OR1.md m44
    replace B1 := B1.md m44
    replace B3 := B3.md m44
    have zm44 := m44.size
    refine S_nl rfl rfl ?_
    refine th_n (hK9 _ _ ?_)
    clear hK9 K9
    refine wp_ret ?_
    refine ret_rc (cs := [_, _]) Try.underlying32 rfl sz32 rfl rfl (B2.row (by rfl)) ?_  -- r1
    rw [List.take_of_length_le (by omega)] at hlk OC1 OR1
    rw [hq1, ← hlk] at OC1
    exact ⟨_, _, _, _, _, _, rs, rfl, by omega, rfl, OH.of_parts (h := h) (OC.grown OC1 OR1 (fun _ h => h) (fun _ h => .inr h)) OX.oi (fun k b h1 h2 h3 => by omega) (fun k hk => by omega) (fun k hk => by omega), G⟩
end
/-! WalkN -/
section
open Go Go.RowKit
attribute [local irreducible] wpList wpAnyH Code.wp dOp
set_option maxHeartbeats 400000 in
set_option maxRecDepth 20000 in
theorem spec_CommandValid_c (op a b c : Int) (w : World) :
    Calls Try.prog 125 #[.agg #[.int .i64 op, .int .i64 a, .int .i64 b, .int .i64 c]] w (Ret fun v w' => v = .bool (cvB ⟨op, a, b, c⟩) ∧ Grow w w') := by
 refine enter Try.func125 rfl Try.ntmps125 (L := [_,_,_,_,_,_,_,_,_,_,_,_,_,_,_,_,_,_,_,_,_,_,_,_,_,_,_,_,_,_,_,_,_,_,_,_,_,_,_,_,_,_,_,_,_,_,_,_,_,_,_,_,_,_,_,_,_,_,_,_,_,_,_,_,_,_,_,_,_,_,_,_,_,_,_]) rfl ?_
 have G := Mod.refl No w
 refine wp_seq_k fun K1 hK1 => ?_
 refine Sb 75 rfl ?_  -- 0
 refine S_box (cs := [_, _, _, _]) rfl rfl ?_
 intro b1 w1 fb1 g1 B1
 have lb1 := B1.lt
 replace G := G.grow g1
 have zg1 := g1.size
 refine S_val (Y_assign rfl) ?_
 refine S_nl rfl rfl ?_
 refine th_n (hK1 _ _ ?_)
 clear hK1 K1
 refine wp_seq_k fun K2 hK2 => ?_
 refine Sb 75 rfl ?_  -- 1
 refine S_val (Y_field Try.underlying133 rfl fz133_1 (by decide) rfl) ?_
 refine S_val (Y_load Try.underlying3 rfl rfl (B1.at (by rfl))) ?_  -- l1
 refine S_call rfl en52 (spec_l1In_c _ _ _ _) ?_  -- k1 spec.l1In
 rintro v w' ⟨rfl, rfl⟩
 refine S_val (Y_assign rfl) ?_
 refine S_nl rfl rfl ?_
 refine th_n (hK2 _ _ ?_)
 clear hK2 K2
 refine wp_seq_k fun K3 hK3 => ?_
 refine Sb 75 rfl ?_  -- 2
 refine S_val (Y_field Try.underlying133 rfl fz133_2 (by decide) rfl) ?_
 refine S_val (Y_load Try.underlying3 rfl rfl (B1.at (by rfl))) ?_  -- l2
 refine S_call rfl en52 (spec_l1In_c _ _ _ _) ?_  -- k2 spec.l1In
 rintro v w' ⟨rfl, rfl⟩
 refine S_val (Y_assign rfl) ?_
 refine S_nl rfl rfl ?_
 refine th_n (hK3 _ _ ?_)
 clear hK3 K3
 refine wp_seq_k fun K4 hK4 => ?_
 refine wp_seq_k fun K5 hK5 => ?_
 refine Sb 75 rfl ?_  -- 3
 refine S_val (Y_field Try.underlying133 rfl fz133_0 (by decide) rfl) ?_
 refine S_val (Y_load Try.underlying3 rfl rfl (B1.at (by rfl))) ?_  -- l3
 refine S_nl rfl rfl ?_
 refine th_n (hK5 _ _ ?_)
 clear hK5 K5
 refine wp_block ?_
 refine wp_seq_k fun K6 hK6 => ?_
 refine Sb 75 rfl ?_  -- 4
 refine S_val (Y_eql rfl rfl) ?_
 refine S_val (Y_assign rfl) ?_
 refine S_nl rfl rfl ?_
 refine th_n (hK6 _ _ ?_)
 clear hK6 K6
 refine S_if rfl (fun hb1 => ?_) (fun hb1 => ?_)  -- c1
 · -- c1T
  replace hb1 := nb_tt hb1
  refine wp_seq_k fun K7 hK7 => ?_
  refine Sb 75 rfl ?_  -- 5
  refine S_val (Y_move rfl) ?_
  refine S_val (Y_move rfl) ?_
  refine S_g 16 rfl (fun hb2 => ?_) (fun hb2 => ?_)  -- g1
  · -- g1T
   first | with_reducible (replace hb2 := nb_nt hb2) | with_reducible (replace hb2 := nb_tt hb2) | with_reducible (replace hb2 := nb_bt hb2) | skip
   refine S_on rfl rfl ?_
   refine S_val (Y_field Try.underlying133 rfl fz133_2 (by decide) rfl) ?_
   refine S_on rfl rfl ?_
   refine S_val (Y_load Try.underlying3 rfl rfl (B1.at (by rfl))) ?_  -- l4
   refine S_on rfl rfl ?_
   refine S_call rfl en52 (spec_l1In_c _ _ _ _) ?_  -- k3 spec.l1In
   rintro v w' ⟨rfl, rfl⟩
   refine S_val (Y_pickT rfl rfl) ?_
   refine S_val (Y_move rfl) ?_
   refine S_g 21 rfl (fun hb3 => ?_) (fun hb3 => ?_)  -- g2
   · -- g2T
    first | with_reducible (replace hb3 := nb_nt hb3) | with_reducible (replace hb3 := nb_tt hb3) | with_reducible (replace hb3 := nb_bt hb3) | skip
    refine S_on rfl rfl ?_
    refine S_val (Y_field Try.underlying133 rfl fz133_3 (by decide) rfl) ?_
    refine S_on rfl rfl ?_
    refine S_val (Y_load Try.underlying3 rfl rfl (B1.at (by rfl))) ?_  -- l5
    refine S_on rfl rfl ?_
    refine S_call rfl en52 (spec_l1In_c _ _ _ _) ?_  -- k4 spec.l1In
    rintro v w' ⟨rfl, rfl⟩
    refine S_val (Y_pickT rfl rfl) ?_
    refine S_val (Y_assign rfl) ?_
    refine S_nl rfl rfl ?_
    refine th_n (hK7 _ _ ?_)
    clear hK7 K7
    refine wp_ret ?_
    refine ib_r ?_
    refine th_r ?_
    clear hK4 K4
    refine ret_r1 rfl rfl ?_  -- r1
    exact ⟨by first | exact cvB_f (by unfold cvP; dsimp only; omega) | exact cvB_d (by unfold cvP; dsimp only; omega) | exact cvB_t (by unfold cvP; dsimp only; omega), G⟩
   · -- g2F
    first | with_reducible (replace hb3 := nb_nf hb3) | with_reducible (replace hb3 := nb_tf hb3) | with_reducible (replace hb3 := nb_bf hb3) | skip
    refine S_off rfl rfl ?_
    refine S_off rfl rfl ?_
    refine S_off rfl rfl ?_
    refine S_val (Y_pickF rfl rfl) ?_
    refine S_val (Y_assign rfl) ?_
    refine S_nl rfl rfl ?_
    refine th_n (hK7 _ _ ?_)
    clear hK7 K7
    refine wp_ret ?_
    refine ib_r ?_
    refine th_r ?_
    clear hK4 K4
    refine ret_r1 rfl rfl ?_  -- r2
    exact ⟨by first | exact cvB_f (by unfold cvP; dsimp only; omega) | exact cvB_d (by unfold cvP; dsimp only; omega) | exact cvB_t (by unfold cvP; dsimp only; omega), G⟩
  · -- g1F
   first | with_reducible (replace hb2 := nb_nf hb2) | with_reducible (replace hb2 := nb_tf hb2) | with_reducible (replace hb2 := nb_bf hb2) | skip
   refine S_off rfl rfl ?_
   refine S_off rfl rfl ?_
   refine S_off rfl rfl ?_
   refine S_val (Y_pickF rfl rfl) ?_
   refine S_val (Y_move rfl) ?_
   refine S_off rfl rfl ?_
   refine S_off rfl rfl ?_
   refine S_off rfl rfl ?_
   refine S_val (Y_pickF rfl rfl) ?_
   refine S_val (Y_assign rfl) ?_
   refine S_nl rfl rfl ?_
   refine th_n (hK7 _ _ ?_)
   clear hK7 K7
   refine wp_ret ?_
   refine ib_r ?_
   refine th_r ?_
   clear hK4 K4
   refine ret_r1 rfl rfl ?_  -- r3
   exact ⟨by first | exact cvB_f (by unfold cvP; dsimp only; omega) | exact cvB_d (by unfold cvP; dsimp only; omega) | exact cvB_t (by unfold cvP; dsimp only; omega), G⟩
 · -- c1F
  replace hb1 := nb_tf hb1
  refine wp_seq_k fun K8 hK8 => ?_
  refine wp_seq_k fun K9 hK9 => ?_
  refine Sb 75 rfl ?_  -- 6
  refine S_val (Y_eql rfl rfl) ?_
  refine S_val (Y_assign rfl) ?_
  refine S_nl rfl rfl ?_
  refine th_n (hK9 _ _ ?_)
  clear hK9 K9
  refine S_if rfl (fun hb2 => ?_) (fun hb2 => ?_)  -- c2
  · -- c2T
   replace hb2 := nb_tt hb2
   refine wp_skip ?_
   refine th_n (hK8 _ _ ?_)
   clear hK8 K8
   refine S_if rfl (fun hb3 => ?_) (fun hb3 => ?_)  -- c3
   · -- c3T
    replace hb3 := nb_tt hb3
    refine wp_seq_k fun K10 hK10 => ?_
    refine Sb 75 rfl ?_  -- 8
    refine S_val (Y_move rfl) ?_
    refine S_val (Y_move rfl) ?_
    refine S_g 30 rfl (fun hb4 => ?_) (fun hb4 => ?_)  -- g3
    · -- g3T
     first | with_reducible (replace hb4 := nb_nt hb4) | with_reducible (replace hb4 := nb_tt hb4) | with_reducible (replace hb4 := nb_bt hb4) | skip
     refine S_on rfl rfl ?_
     refine S_val (Y_move rfl) ?_
     refine S_val (Y_pickT rfl rfl) ?_
     refine S_val (Y_move rfl) ?_
     refine S_g 33 rfl (fun hb5 => ?_) (fun hb5 => ?_)  -- g4
     · -- g4T
      first | with_reducible (replace hb5 := nb_nt hb5) | with_reducible (replace hb5 := nb_tt hb5) | with_reducible (replace hb5 := nb_bt hb5) | skip
      refine S_on rfl rfl ?_
      refine S_val (Y_field Try.underlying133 rfl fz133_3 (by decide) rfl) ?_
      refine S_on rfl rfl ?_
      refine S_val (Y_load Try.underlying3 rfl rfl (B1.at (by rfl))) ?_  -- l6
      refine S_on rfl rfl ?_
      refine S_call rfl en52 (spec_l1In_c _ _ _ _) ?_  -- k5 spec.l1In
      rintro v w' ⟨rfl, rfl⟩
      refine S_val (Y_pickT rfl rfl) ?_
      refine S_val (Y_assign rfl) ?_
      refine S_nl rfl rfl ?_
      refine th_n (hK10 _ _ ?_)
      clear hK10 K10
      refine wp_ret ?_
      refine ib_r ?_
      refine th_r ?_
      clear hK4 K4
      refine ret_r1 rfl rfl ?_  -- r4
      exact ⟨by first | exact cvB_f (by unfold cvP; dsimp only; omega) | exact cvB_d (by unfold cvP; dsimp only; omega) | exact cvB_t (by unfold cvP; dsimp only; omega), G⟩
     · -- g4F
      first | with_reducible (replace hb5 := nb_nf hb5) | with_reducible (replace hb5 := nb_tf hb5) | with_reducible (replace hb5 := nb_bf hb5) | skip
      refine S_off rfl rfl ?_
      refine S_off rfl rfl ?_
      refine S_off rfl rfl ?_
      refine S_val (Y_pickF rfl rfl) ?_
      refine S_val (Y_assign rfl) ?_
      refine S_nl rfl rfl ?_
      refine th_n (hK10 _ _ ?_)
      clear hK10 K10
      refine wp_ret ?_
      refine ib_r ?_
      refine th_r ?_
      clear hK4 K4
      refine ret_r1 rfl rfl ?_  -- r5
      exact ⟨by first | exact cvB_f (by unfold cvP; dsimp only; omega) | exact cvB_d (by unfold cvP; dsimp only; omega) | exact cvB_t (by unfold cvP; dsimp only; omega), G⟩
    · -- g3F
     first | with_reducible (replace hb4 := nb_nf hb4) | with_reducible (replace hb4 := nb_tf hb4) | with_reducible (replace hb4 := nb_bf hb4) | skip
     refine S_off rfl rfl ?_
     refine S_val (Y_pickF rfl rfl) ?_
     refine S_val (Y_move rfl) ?_
     refine S_off rfl rfl ?_
     refine S_off rfl rfl ?_
     refine S_off rfl rfl ?_
     refine S_val (Y_pickF rfl rfl) ?_
     refine S_val (Y_assign rfl) ?_
     refine S_nl rfl rfl ?_
     refine th_n (hK10 _ _ ?_)
     clear hK10 K10
     refine wp_ret ?_
     refine ib_r ?_
     refine th_r ?_
     clear hK4 K4
     refine ret_r1 rfl rfl ?_  -- r6
     exact ⟨by first | exact cvB_f (by unfold cvP; dsimp only; omega) | exact cvB_d (by unfold cvP; dsimp only; omega) | exact cvB_t (by unfold cvP; dsimp only; omega), G⟩
   · -- c3F
    replace hb3 := nb_tf hb3
    refine wp_seq_k fun K11 hK11 => ?_
    refine Sb 75 rfl ?_  -- 9
    refine S_val (Y_eql rfl rfl) ?_
    refine S_val (Y_assign rfl) ?_
    refine S_nl rfl rfl ?_
    refine th_n (hK11 _ _ ?_)
    clear hK11 K11
    refine S_if rfl (fun hb4 => ?_) (fun hb4 => ?_)  -- c4
    · -- c4T
     replace hb4 := nb_tt hb4
     refine wp_seq_k fun K12 hK12 => ?_
     refine Sb 75 rfl ?_  -- 10
     refine S_val (Y_move rfl) ?_
     refine S_val (Y_move rfl) ?_
     refine S_g 41 rfl (fun hb5 => ?_) (fun hb5 => ?_)  -- g5
     · -- g5T
      first | with_reducible (replace hb5 := nb_nt hb5) | with_reducible (replace hb5 := nb_tt hb5) | with_reducible (replace hb5 := nb_bt hb5) | skip
      refine S_on rfl rfl ?_
      refine S_val (Y_move rfl) ?_
      refine S_val (Y_pickT rfl rfl) ?_
      refine S_val (Y_move rfl) ?_
      refine S_g 44 rfl (fun hb6 => ?_) (fun hb6 => ?_)  -- g6
      · -- g6T
       first | with_reducible (replace hb6 := nb_nt hb6) | with_reducible (replace hb6 := nb_tt hb6) | with_reducible (replace hb6 := nb_bt hb6) | skip
       refine S_on rfl rfl ?_
       refine S_val (Y_field Try.underlying133 rfl fz133_3 (by decide) rfl) ?_
       refine S_on rfl rfl ?_
       refine S_val (Y_load Try.underlying3 rfl rfl (B1.at (by rfl))) ?_  -- l7
       refine S_on rfl rfl ?_
       refine S_val (Y_eql rfl rfl) ?_
       refine S_val (Y_pickT rfl rfl) ?_
       refine S_val (Y_assign rfl) ?_
       refine S_nl rfl rfl ?_
       refine th_n (hK12 _ _ ?_)
       clear hK12 K12
       refine wp_ret ?_
       refine ib_r ?_
       refine th_r ?_
       clear hK4 K4
       refine ret_r1 rfl rfl ?_  -- r7
       exact ⟨by first | exact cvB_f (by unfold cvP; dsimp only; omega) | exact cvB_d (by unfold cvP; dsimp only; omega) | exact cvB_t (by unfold cvP; dsimp only; omega), G⟩
      · -- g6F
       first | with_reducible (replace hb6 := nb_nf hb6) | with_reducible (replace hb6 := nb_tf hb6) | with_reducible (replace hb6 := nb_bf hb6) | skip
       refine S_off rfl rfl ?_
       refine S_off rfl rfl ?_
       refine S_off rfl rfl ?_
       refine S_val (Y_pickF rfl rfl) ?_
       refine S_val (Y_assign rfl) ?_
       refine S_nl rfl rfl ?_
       refine th_n (hK12 _ _ ?_)
       clear hK12 K12
       refine wp_ret ?_
       refine ib_r ?_
       refine th_r ?_
       clear hK4 K4
       refine ret_r1 rfl rfl ?_  -- r8
       exact ⟨by first | exact cvB_f (by unfold cvP; dsimp only; omega) | exact cvB_d (by unfold cvP; dsimp only; omega) | exact cvB_t (by unfold cvP; dsimp only; omega), G⟩
     · -- g5F
      first | with_reducible (replace hb5 := nb_nf hb5) | with_reducible (replace hb5 := nb_tf hb5) | with_reducible (replace hb5 := nb_bf hb5) | skip
      refine S_off rfl rfl ?_
      refine S_val (Y_pickF rfl rfl) ?_
      refine S_val (Y_move rfl) ?_
      refine S_off rfl rfl ?_
      refine S_off rfl rfl ?_
      refine S_off rfl rfl ?_
      refine S_val (Y_pickF rfl rfl) ?_
      refine S_val (Y_assign rfl) ?_
      refine S_nl rfl rfl ?_
      refine th_n (hK12 _ _ ?_)
      clear hK12 K12
      refine wp_ret ?_
      refine ib_r ?_
      refine th_r ?_
      clear hK4 K4
      refine ret_r1 rfl rfl ?_  -- r9
      exact ⟨by first | exact cvB_f (by unfold cvP; dsimp only; omega) | exact cvB_d (by unfold cvP; dsimp only; omega) | exact cvB_t (by unfold cvP; dsimp only; omega), G⟩
    · -- c4F
     replace hb4 := nb_tf hb4
     refine wp_seq_k fun K13 hK13 => ?_
     refine Sb 75 rfl ?_  -- 11
     refine S_val (Y_eql rfl rfl) ?_
     refine S_val (Y_assign rfl) ?_
     refine S_nl rfl rfl ?_
     refine th_n (hK13 _ _ ?_)
     clear hK13 K13
     refine S_if rfl (fun hb5 => ?_) (fun hb5 => ?_)  -- c5
     · -- c5T
      replace hb5 := nb_tt hb5
      refine wp_seq_k fun K14 hK14 => ?_
      refine Sb 75 rfl ?_  -- 12
      refine S_val (Y_move rfl) ?_
      refine S_val (Y_move rfl) ?_
      refine S_g 52 rfl (fun hb6 => ?_) (fun hb6 => ?_)  -- g7
      · -- g7T
       first | with_reducible (replace hb6 := nb_nt hb6) | with_reducible (replace hb6 := nb_tt hb6) | with_reducible (replace hb6 := nb_bt hb6) | skip
       refine S_on rfl rfl ?_
       refine S_val (Y_field Try.underlying133 rfl fz133_2 (by decide) rfl) ?_
       refine S_on rfl rfl ?_
       refine S_val (Y_load Try.underlying3 rfl rfl (B1.at (by rfl))) ?_  -- l8
       refine S_on rfl rfl ?_
       refine S_val (Y_eql rfl rfl) ?_
       refine S_val (Y_pickT rfl rfl) ?_
       refine S_val (Y_move rfl) ?_
       refine S_g 57 rfl (fun hb7 => ?_) (fun hb7 => ?_)  -- g8
       · -- g8T
        first | with_reducible (replace hb7 := nb_nt hb7) | with_reducible (replace hb7 := nb_tt hb7) | with_reducible (replace hb7 := nb_bt hb7) | skip
        refine S_on rfl rfl ?_
        refine S_val (Y_field Try.underlying133 rfl fz133_3 (by decide) rfl) ?_
        refine S_on rfl rfl ?_
        refine S_val (Y_load Try.underlying3 rfl rfl (B1.at (by rfl))) ?_  -- l9
        refine S_on rfl rfl ?_
        refine S_val (Y_eql rfl rfl) ?_
        refine S_val (Y_pickT rfl rfl) ?_
        refine S_val (Y_assign rfl) ?_
        refine S_nl rfl rfl ?_
        refine th_n (hK14 _ _ ?_)
        clear hK14 K14
        refine wp_ret ?_
        refine ib_r ?_
        refine th_r ?_
        clear hK4 K4
        refine ret_r1 rfl rfl ?_  -- r10
        exact ⟨by first | exact cvB_f (by unfold cvP; dsimp only; omega) | exact cvB_d (by unfold cvP; dsimp only; omega) | exact cvB_t (by unfold cvP; dsimp only; omega), G⟩
       · -- g8F
        first | with_reducible (replace hb7 := nb_nf hb7) | with_reducible (replace hb7 := nb_tf hb7) | with_reducible (replace hb7 := nb_bf hb7) | skip
        refine S_off rfl rfl ?_
        refine S_off rfl rfl ?_
        refine S_off rfl rfl ?_
        refine S_val (Y_pickF rfl rfl) ?_
        refine S_val (Y_assign rfl) ?_
        refine S_nl rfl rfl ?_
        refine th_n (hK14 _ _ ?_)
        clear hK14 K14
        refine wp_ret ?_
        refine ib_r ?_
        refine th_r ?_
        clear hK4 K4
        refine ret_r1 rfl rfl ?_  -- r11
        exact ⟨by first | exact cvB_f (by unfold cvP; dsimp only; omega) | exact cvB_d (by unfold cvP; dsimp only; omega) | exact cvB_t (by unfold cvP; dsimp only; omega), G⟩
      · -- g7F
       first | with_reducible (replace hb6 := nb_nf hb6) | with_reducible (replace hb6 := nb_tf hb6) | with_reducible (replace hb6 := nb_bf hb6) | skip
       refine S_off rfl rfl ?_
       refine S_off rfl rfl ?_
       refine S_off rfl rfl ?_
       refine S_val (Y_pickF rfl rfl) ?_
       refine S_val (Y_move rfl) ?_
       refine S_off rfl rfl ?_
       refine S_off rfl rfl ?_
       refine S_off rfl rfl ?_
       refine S_val (Y_pickF rfl rfl) ?_
       refine S_val (Y_assign rfl) ?_
       refine S_nl rfl rfl ?_
       refine th_n (hK14 _ _ ?_)
       clear hK14 K14
       refine wp_ret ?_
       refine ib_r ?_
       refine th_r ?_
       clear hK4 K4
       refine ret_r1 rfl rfl ?_  -- r12
       exact ⟨by first | exact cvB_f (by unfold cvP; dsimp only; omega) | exact cvB_d (by unfold cvP; dsimp only; omega) | exact cvB_t (by unfold cvP; dsimp only; omega), G⟩
     · -- c5F
      replace hb5 := nb_tf hb5
      refine wp_seq_k fun K15 hK15 => ?_
      refine Sb 75 rfl ?_  -- 13
      refine S_val (Y_eql rfl rfl) ?_
      refine S_val (Y_assign rfl) ?_
      refine S_nl rfl rfl ?_
      refine th_n (hK15 _ _ ?_)
      clear hK15 K15
      refine S_if rfl (fun hb6 => ?_) (fun hb6 => ?_)  -- c6
      · -- c6T
       replace hb6 := nb_tt hb6
       refine wp_seq_k fun K16 hK16 => ?_
       refine Sb 75 rfl ?_  -- 14
       refine S_val (Y_move rfl) ?_
       refine S_val (Y_move rfl) ?_
       refine S_g 65 rfl (fun hb7 => ?_) (fun hb7 => ?_)  -- g9
       · -- g9T
        first | with_reducible (replace hb7 := nb_nt hb7) | with_reducible (replace hb7 := nb_tt hb7) | with_reducible (replace hb7 := nb_bt hb7) | skip
        refine S_on rfl rfl ?_
        refine S_val (Y_field Try.underlying133 rfl fz133_2 (by decide) rfl) ?_
        refine S_on rfl rfl ?_
        refine S_val (Y_load Try.underlying3 rfl rfl (B1.at (by rfl))) ?_  -- l10
        refine S_on rfl rfl ?_
        refine S_call rfl en52 (spec_l1In_c _ _ _ _) ?_  -- k6 spec.l1In
        rintro v w' ⟨rfl, rfl⟩
        refine S_val (Y_pickT rfl rfl) ?_
        refine S_val (Y_move rfl) ?_
        refine S_g 70 rfl (fun hb8 => ?_) (fun hb8 => ?_)  -- g10
        · -- g10T
         first | with_reducible (replace hb8 := nb_nt hb8) | with_reducible (replace hb8 := nb_tt hb8) | with_reducible (replace hb8 := nb_bt hb8) | skip
         refine S_on rfl rfl ?_
         refine S_val (Y_field Try.underlying133 rfl fz133_3 (by decide) rfl) ?_
         refine S_on rfl rfl ?_
         refine S_val (Y_load Try.underlying3 rfl rfl (B1.at (by rfl))) ?_  -- l11
         refine S_on rfl rfl ?_
         refine S_val (Y_eql rfl rfl) ?_
         refine S_val (Y_pickT rfl rfl) ?_
         refine S_val (Y_assign rfl) ?_
         refine S_nl rfl rfl ?_
         refine th_n (hK16 _ _ ?_)
         clear hK16 K16
         refine wp_ret ?_
         refine ib_r ?_
         refine th_r ?_
         clear hK4 K4
         refine ret_r1 rfl rfl ?_  -- r13
         exact ⟨by first | exact cvB_f (by unfold cvP; dsimp only; omega) | exact cvB_d (by unfold cvP; dsimp only; omega) | exact cvB_t (by unfold cvP; dsimp only; omega), G⟩
        · -- g10F
         first | with_reducible (replace hb8 := nb_nf hb8) | with_reducible (replace hb8 := nb_tf hb8) | with_reducible (replace hb8 := nb_bf hb8) | skip
         refine S_off rfl rfl ?_
         refine S_off rfl rfl ?_
         refine S_off rfl rfl ?_
         refine S_val (Y_pickF rfl rfl) ?_
         refine S_val (Y_assign rfl) ?_
         refine S_nl rfl rfl ?_
         refine th_n (hK16 _ _ ?_)
         clear hK16 K16
         refine wp_ret ?_
         refine ib_r ?_
         refine th_r ?_
         clear hK4 K4
         refine ret_r1 rfl rfl ?_  -- r14
         exact ⟨by first | exact cvB_f (by unfold cvP; dsimp only; omega) | exact cvB_d (by unfold cvP; dsimp only; omega) | exact cvB_t (by unfold cvP; dsimp only; omega), G⟩
       · -- g9F
        first | with_reducible (replace hb7 := nb_nf hb7) | with_reducible (replace hb7 := nb_tf hb7) | with_reducible (replace hb7 := nb_bf hb7) | skip
        refine S_off rfl rfl ?_
        refine S_off rfl rfl ?_
        refine S_off rfl rfl ?_
        refine S_val (Y_pickF rfl rfl) ?_
        refine S_val (Y_move rfl) ?_
        refine S_off rfl rfl ?_
        refine S_off rfl rfl ?_
        refine S_off rfl rfl ?_
        refine S_val (Y_pickF rfl rfl) ?_
        refine S_val (Y_assign rfl) ?_
        refine S_nl rfl rfl ?_
        refine th_n (hK16 _ _ ?_)
        clear hK16 K16
        refine wp_ret ?_
        refine ib_r ?_
        refine th_r ?_
        clear hK4 K4
        refine ret_r1 rfl rfl ?_  -- r15
        exact ⟨by first | exact cvB_f (by unfold cvP; dsimp only; omega) | exact cvB_d (by unfold cvP; dsimp only; omega) | exact cvB_t (by unfold cvP; dsimp only; omega), G⟩
      · -- c6F
       replace hb6 := nb_tf hb6
       refine wp_skip ?_
       refine ib_n ?_
       refine th_n (hK4 _ _ ?_)
       clear hK4 K4
       refine wp_seq_k fun K17 hK17 => ?_
       refine Sb 75 rfl ?_  -- 15
       refine S_val (Y_assign rfl) ?_
       refine S_nl rfl rfl ?_
       refine th_n (hK17 _ _ ?_)
       clear hK17 K17
       refine wp_ret ?_
       refine ret_r1 rfl rfl ?_  -- r16
       exact ⟨by first | exact cvB_f (by unfold cvP; dsimp only; omega) | exact cvB_d (by unfold cvP; dsimp only; omega) | exact cvB_t (by unfold cvP; dsimp only; omega), G⟩
  · -- c2F
   replace hb2 := nb_tf hb2
   refine Sb 75 rfl ?_  -- 7
   refine S_val (Y_eql rfl rfl) ?_
   refine S_val (Y_assign rfl) ?_
   refine S_nl rfl rfl ?_
   refine th_n (hK8 _ _ ?_)
   clear hK8 K8
   refine S_if rfl (fun hb3 => ?_) (fun hb3 => ?_)  -- c7
   · -- c7T
    replace hb3 := nb_tt hb3
    refine wp_seq_k fun K18 hK18 => ?_
    refine Sb 75 rfl ?_  -- 8
    refine S_val (Y_move rfl) ?_
    refine S_val (Y_move rfl) ?_
    refine S_g 30 rfl (fun hb4 => ?_) (fun hb4 => ?_)  -- g11
    · -- g11T
     first | with_reducible (replace hb4 := nb_nt hb4) | with_reducible (replace hb4 := nb_tt hb4) | with_reducible (replace hb4 := nb_bt hb4) | skip
     refine S_on rfl rfl ?_
     refine S_val (Y_move rfl) ?_
     refine S_val (Y_pickT rfl rfl) ?_
     refine S_val (Y_move rfl) ?_
     refine S_g 33 rfl (fun hb5 => ?_) (fun hb5 => ?_)  -- g12
     · -- g12T
      first | with_reducible (replace hb5 := nb_nt hb5) | with_reducible (replace hb5 := nb_tt hb5) | with_reducible (replace hb5 := nb_bt hb5) | skip
      refine S_on rfl rfl ?_
      refine S_val (Y_field Try.underlying133 rfl fz133_3 (by decide) rfl) ?_
      refine S_on rfl rfl ?_
      refine S_val (Y_load Try.underlying3 rfl rfl (B1.at (by rfl))) ?_  -- l12
      refine S_on rfl rfl ?_
      refine S_call rfl en52 (spec_l1In_c _ _ _ _) ?_  -- k7 spec.l1In
      rintro v w' ⟨rfl, rfl⟩
      refine S_val (Y_pickT rfl rfl) ?_
      refine S_val (Y_assign rfl) ?_
      refine S_nl rfl rfl ?_
      refine th_n (hK18 _ _ ?_)
      clear hK18 K18
      refine wp_ret ?_
      refine ib_r ?_
      refine th_r ?_
      clear hK4 K4
      refine ret_r1 rfl rfl ?_  -- r17
      exact ⟨by first | exact cvB_f (by unfold cvP; dsimp only; omega) | exact cvB_d (by unfold cvP; dsimp only; omega) | exact cvB_t (by unfold cvP; dsimp only; omega), G⟩
     · -- g12F
      first | with_reducible (replace hb5 := nb_nf hb5) | with_reducible (replace hb5 := nb_tf hb5) | with_reducible (replace hb5 := nb_bf hb5) | skip
      refine S_off rfl rfl ?_
      refine S_off rfl rfl ?_
      refine S_off rfl rfl ?_
      refine S_val (Y_pickF rfl rfl) ?_
      refine S_val (Y_assign rfl) ?_
      refine S_nl rfl rfl ?_
      refine th_n (hK18 _ _ ?_)
      clear hK18 K18
      refine wp_ret ?_
      refine ib_r ?_
      refine th_r ?_
      clear hK4 K4
      refine ret_r1 rfl rfl ?_  -- r18
      exact ⟨by first | exact cvB_f (by unfold cvP; dsimp only; omega) | exact cvB_d (by unfold cvP; dsimp only; omega) | exact cvB_t (by unfold cvP; dsimp only; omega), G⟩
    · -- g11F
     first | with_reducible (replace hb4 := nb_nf hb4) | with_reducible (replace hb4 := nb_tf hb4) | with_reducible (replace hb4 := nb_bf hb4) | skip
     refine S_off rfl rfl ?_
     refine S_val (Y_pickF rfl rfl) ?_
     refine S_val (Y_move rfl) ?_
     refine S_off rfl rfl ?_
     refine S_off rfl rfl ?_
     refine S_off rfl rfl ?_
     refine S_val (Y_pickF rfl rfl) ?_
     refine S_val (Y_assign rfl) ?_
     refine S_nl rfl rfl ?_
     refine th_n (hK18 _ _ ?_)
     clear hK18 K18
     refine wp_ret ?_
     refine ib_r ?_
     refine th_r ?_
     clear hK4 K4
     refine ret_r1 rfl rfl ?_  -- r19
     exact ⟨by first | exact cvB_f (by unfold cvP; dsimp only; omega) | exact cvB_d (by unfold cvP; dsimp only; omega) | exact cvB_t (by unfold cvP; dsimp only; omega), G⟩
   · -- c7F
    replace hb3 := nb_tf hb3
    refine wp_seq_k fun K19 hK19 => ?_
    refine Sb 75 rfl ?_  -- 9
    refine S_val (Y_eql rfl rfl) ?_
    refine S_val (Y_assign rfl) ?_
    refine S_nl rfl rfl ?_
    refine th_n (hK19 _ _ ?_)
    clear hK19 K19
    refine S_if rfl (fun hb4 => ?_) (fun hb4 => ?_)  -- c8
    · -- c8T
     replace hb4 := nb_tt hb4
     refine wp_seq_k fun K20 hK20 => ?_
     refine Sb 75 rfl ?_  -- 10
     refine S_val (Y_move rfl) ?_
     refine S_val (Y_move rfl) ?_
     refine S_g 41 rfl (fun hb5 => ?_) (fun hb5 => ?_)  -- g13
     · -- g13T
      first | with_reducible (replace hb5 := nb_nt hb5) | with_reducible (replace hb5 := nb_tt hb5) | with_reducible (replace hb5 := nb_bt hb5) | skip
      refine S_on rfl rfl ?_
      refine S_val (Y_move rfl) ?_
      refine S_val (Y_pickT rfl rfl) ?_
      refine S_val (Y_move rfl) ?_
      refine S_g 44 rfl (fun hb6 => ?_) (fun hb6 => ?_)  -- g14
      · -- g14T
       first | with_reducible (replace hb6 := nb_nt hb6) | with_reducible (replace hb6 := nb_tt hb6) | with_reducible (replace hb6 := nb_bt hb6) | skip
       refine S_on rfl rfl ?_
       refine S_val (Y_field Try.underlying133 rfl fz133_3 (by decide) rfl) ?_
       refine S_on rfl rfl ?_
       refine S_val (Y_load Try.underlying3 rfl rfl (B1.at (by rfl))) ?_  -- l13
       refine S_on rfl rfl ?_
       refine S_val (Y_eql rfl rfl) ?_
       refine S_val (Y_pickT rfl rfl) ?_
       refine S_val (Y_assign rfl) ?_
       refine S_nl rfl rfl ?_
       refine th_n (hK20 _ _ ?_)
       clear hK20 K20
       refine wp_ret ?_
       refine ib_r ?_
       refine th_r ?_
       clear hK4 K4
       refine ret_r1 rfl rfl ?_  -- r20
       exact ⟨by first | exact cvB_f (by unfold cvP; dsimp only; omega) | exact cvB_d (by unfold cvP; dsimp only; omega) | exact cvB_t (by unfold cvP; dsimp only; omega), G⟩
      · -- g14F
       first | with_reducible (replace hb6 := nb_nf hb6) | with_reducible (replace hb6 := nb_tf hb6) | with_reducible (replace hb6 := nb_bf hb6) | skip
       refine S_off rfl rfl ?_
       refine S_off rfl rfl ?_
       refine S_off rfl rfl ?_
       refine S_val (Y_pickF rfl rfl) ?_
       refine S_val (Y_assign rfl) ?_
       refine S_nl rfl rfl ?_
       refine th_n (hK20 _ _ ?_)
       clear hK20 K20
       refine wp_ret ?_
       refine ib_r ?_
       refine th_r ?_
       clear hK4 K4
       refine ret_r1 rfl rfl ?_  -- r21
       exact ⟨by first | exact cvB_f (by unfold cvP; dsimp only; omega) | exact cvB_d (by unfold cvP; dsimp only; omega) | exact cvB_t (by unfold cvP; dsimp only; omega), G⟩
     · -- g13F
      first | with_reducible (replace hb5 := nb_nf hb5) | with_reducible (replace hb5 := nb_tf hb5) | with_reducible (replace hb5 := nb_bf hb5) | skip
      refine S_off rfl rfl ?_
      refine S_val (Y_pickF rfl rfl) ?_
      refine S_val (Y_move rfl) ?_
      refine S_off rfl rfl ?_
      refine S_off rfl rfl ?_
      refine S_off rfl rfl ?_
      refine S_val (Y_pickF rfl rfl) ?_
      refine S_val (Y_assign rfl) ?_
      refine S_nl rfl rfl ?_
      refine th_n (hK20 _ _ ?_)
      clear hK20 K20
      refine wp_ret ?_
      refine ib_r ?_
      refine th_r ?_
      clear hK4 K4
      refine ret_r1 rfl rfl ?_  -- r22
      exact ⟨by first | exact cvB_f (by unfold cvP; dsimp only; omega) | exact cvB_d (by unfold cvP; dsimp only; omega) | exact cvB_t (by unfold cvP; dsimp only; omega), G⟩
    · -- c8F
     replace hb4 := nb_tf hb4
     refine wp_seq_k fun K21 hK21 => ?_
     refine Sb 75 rfl ?_  -- 11
     refine S_val (Y_eql rfl rfl) ?_
     refine S_val (Y_assign rfl) ?_
     refine S_nl rfl rfl ?_
     refine th_n (hK21 _ _ ?_)
     clear hK21 K21
     refine S_if rfl (fun hb5 => ?_) (fun hb5 => ?_)  -- c9
     · -- c9T
      replace hb5 := nb_tt hb5
      refine wp_seq_k fun K22 hK22 => ?_
      refine Sb 75 rfl ?_  -- 12
      refine S_val (Y_move rfl) ?_
      refine S_val (Y_move rfl) ?_
      refine S_g 52 rfl (fun hb6 => ?_) (fun hb6 => ?_)  -- g15
      · -- g15T
       first | with_reducible (replace hb6 := nb_nt hb6) | with_reducible (replace hb6 := nb_tt hb6) | with_reducible (replace hb6 := nb_bt hb6) | skip
       refine S_on rfl rfl ?_
       refine S_val (Y_field Try.underlying133 rfl fz133_2 (by decide) rfl) ?_
       refine S_on rfl rfl ?_
       refine S_val (Y_load Try.underlying3 rfl rfl (B1.at (by rfl))) ?_  -- l14
       refine S_on rfl rfl ?_
       refine S_val (Y_eql rfl rfl) ?_
       refine S_val (Y_pickT rfl rfl) ?_
       refine S_val (Y_move rfl) ?_
       refine S_g 57 rfl (fun hb7 => ?_) (fun hb7 => ?_)  -- g16
       · -- g16T
        first | with_reducible (replace hb7 := nb_nt hb7) | with_reducible (replace hb7 := nb_tt hb7) | with_reducible (replace hb7 := nb_bt hb7) | skip
        refine S_on rfl rfl ?_
        refine S_val (Y_field Try.underlying133 rfl fz133_3 (by decide) rfl) ?_
        refine S_on rfl rfl ?_
        refine S_val (Y_load Try.underlying3 rfl rfl (B1.at (by rfl))) ?_  -- l15
        refine S_on rfl rfl ?_
        refine S_val (Y_eql rfl rfl) ?_
        refine S_val (Y_pickT rfl rfl) ?_
        refine S_val (Y_assign rfl) ?_
        refine S_nl rfl rfl ?_
        refine th_n (hK22 _ _ ?_)
        clear hK22 K22
        refine wp_ret ?_
        refine ib_r ?_
        refine th_r ?_
        clear hK4 K4
        refine ret_r1 rfl rfl ?_  -- r23
        exact ⟨by first | exact cvB_f (by unfold cvP; dsimp only; omega) | exact cvB_d (by unfold cvP; dsimp only; omega) | exact cvB_t (by unfold cvP; dsimp only; omega), G⟩
       · -- g16F
        first | with_reducible (replace hb7 := nb_nf hb7) | with_reducible (replace hb7 := nb_tf hb7) | with_reducible (replace hb7 := nb_bf hb7) | skip
        refine S_off rfl rfl ?_
        refine S_off rfl rfl ?_
        refine S_off rfl rfl ?_
        refine S_val (Y_pickF rfl rfl) ?_
        refine S_val (Y_assign rfl) ?_
        refine S_nl rfl rfl ?_
        refine th_n (hK22 _ _ ?_)
        clear hK22 K22
        refine wp_ret ?_
        refine ib_r ?_
        refine th_r ?_
        clear hK4 K4
        refine ret_r1 rfl rfl ?_  -- r24
        exact ⟨by first | exact cvB_f (by unfold cvP; dsimp only; omega) | exact cvB_d (by unfold cvP; dsimp only; omega) | exact cvB_t (by unfold cvP; dsimp only; omega), G⟩
      · -- g15F
       first | with_reducible (replace hb6 := nb_nf hb6) | with_reducible (replace hb6 := nb_tf hb6) | with_reducible (replace hb6 := nb_bf hb6) | skip
       refine S_off rfl rfl ?_
       refine S_off rfl rfl ?_
       refine S_off rfl rfl ?_
       refine S_val (Y_pickF rfl rfl) ?_
       refine S_val (Y_move rfl) ?_
       refine S_off rfl rfl ?_
       refine S_off rfl rfl ?_
       refine S_off rfl rfl ?_
       refine S_val (Y_pickF rfl rfl) ?_
       refine S_val (Y_assign rfl) ?_
       refine S_nl rfl rfl ?_
       refine th_n (hK22 _ _ ?_)
       clear hK22 K22
       refine wp_ret ?_
       refine ib_r ?_
       refine th_r ?_
       clear hK4 K4
       refine ret_r1 rfl rfl ?_  -- r25
       exact ⟨by first | exact cvB_f (by unfold cvP; dsimp only; omega) | exact cvB_d (by unfold cvP; dsimp only; omega) | exact cvB_t (by unfold cvP; dsimp only; omega), G⟩
     · -- c9F
      replace hb5 := nb_tf hb5
      refine wp_seq_k fun K23 hK23 => ?_
      refine Sb 75 rfl ?_  -- 13
      refine S_val (Y_eql rfl rfl) ?_
      refine S_val (Y_assign rfl) ?_
      refine S_nl rfl rfl ?_
      refine th_n (hK23 _ _ ?_)
      clear hK23 K23
      refine S_if rfl (fun hb6 => ?_) (fun hb6 => ?_)  -- c10
      · -- c10T
       replace hb6 := nb_tt hb6
       refine wp_seq_k fun K24 hK24 => ?_
       refine Sb 75 rfl ?_  -- 14
       refine S_val (Y_move rfl) ?_
       refine S_val (Y_move rfl) ?_
       refine S_g 65 rfl (fun hb7 => ?_) (fun hb7 => ?_)  -- g17
       · -- g17T
        first | with_reducible (replace hb7 := nb_nt hb7) | with_reducible (replace hb7 := nb_tt hb7) | with_reducible (replace hb7 := nb_bt hb7) | skip
        refine S_on rfl rfl ?_
        refine S_val (Y_field Try.underlying133 rfl fz133_2 (by decide) rfl) ?_
        refine S_on rfl rfl ?_
        refine S_val (Y_load Try.underlying3 rfl rfl (B1.at (by rfl))) ?_  -- l16
        refine S_on rfl rfl ?_
        refine S_call rfl en52 (spec_l1In_c _ _ _ _) ?_  -- k8 spec.l1In
        rintro v w' ⟨rfl, rfl⟩
        refine S_val (Y_pickT rfl rfl) ?_
        refine S_val (Y_move rfl) ?_
        refine S_g 70 rfl (fun hb8 => ?_) (fun hb8 => ?_)  -- g18
        · -- g18T
         first | with_reducible (replace hb8 := nb_nt hb8) | with_reducible (replace hb8 := nb_tt hb8) | with_reducible (replace hb8 := nb_bt hb8) | skip
         refine S_on rfl rfl ?_
         refine S_val (Y_field Try.underlying133 rfl fz133_3 (by decide) rfl) ?_
         refine S_on rfl rfl ?_
         refine S_val (Y_load Try.underlying3 rfl rfl (B1.at (by rfl))) ?_  -- l17
         refine S_on rfl rfl ?_
         refine S_val (Y_eql rfl rfl) ?_
         refine S_val (Y_pickT rfl rfl) ?_
         refine S_val (Y_assign rfl) ?_
         refine S_nl rfl rfl ?_
         refine th_n (hK24 _ _ ?_)
         clear hK24 K24
         refine wp_ret ?_
         refine ib_r ?_
         refine th_r ?_
         clear hK4 K4
         refine ret_r1 rfl rfl ?_  -- r26
         exact ⟨by first | exact cvB_f (by unfold cvP; dsimp only; omega) | exact cvB_d (by unfold cvP; dsimp only; omega) | exact cvB_t (by unfold cvP; dsimp only; omega), G⟩
        · -- g18F
         first | with_reducible (replace hb8 := nb_nf hb8) | with_reducible (replace hb8 := nb_tf hb8) | with_reducible (replace hb8 := nb_bf hb8) | skip
         refine S_off rfl rfl ?_
         refine S_off rfl rfl ?_
         refine S_off rfl rfl ?_
         refine S_val (Y_pickF rfl rfl) ?_
         refine S_val (Y_assign rfl) ?_
         refine S_nl rfl rfl ?_
         refine th_n (hK24 _ _ ?_)
         clear hK24 K24
         refine wp_ret ?_
         refine ib_r ?_
         refine th_r ?_
         clear hK4 K4
         refine ret_r1 rfl rfl ?_  -- r27
         exact ⟨by first | exact cvB_f (by unfold cvP; dsimp only; omega) | exact cvB_d (by unfold cvP; dsimp only; omega) | exact cvB_t (by unfold cvP; dsimp only; omega), G⟩
       · -- g17F
        first | with_reducible (replace hb7 := nb_nf hb7) | with_reducible (replace hb7 := nb_tf hb7) | with_reducible (replace hb7 := nb_bf hb7) | skip
        refine S_off rfl rfl ?_
        refine S_off rfl rfl ?_
        refine S_off rfl rfl ?_
        refine S_val (Y_pickF rfl rfl) ?_
        refine S_val (Y_move rfl) ?_
        refine S_off rfl rfl ?_
        refine S_off rfl rfl ?_
        refine S_off rfl rfl ?_
        refine S_val (Y_pickF rfl rfl) ?_
        refine S_val (Y_assign rfl) ?_
        refine S_nl rfl rfl ?_
        refine th_n (hK24 _ _ ?_)
        clear hK24 K24
        refine wp_ret ?_
        refine ib_r ?_
        refine th_r ?_
        clear hK4 K4
        refine ret_r1 rfl rfl ?_  -- r28
        exact ⟨by first | exact cvB_f (by unfold cvP; dsimp only; omega) | exact cvB_d (by unfold cvP; dsimp only; omega) | exact cvB_t (by unfold cvP; dsimp only; omega), G⟩
      · -- c10F
       replace hb6 := nb_tf hb6
       refine wp_skip ?_
       refine ib_n ?_
       refine th_n (hK4 _ _ ?_)
       clear hK4 K4
       refine wp_seq_k fun K25 hK25 => ?_
       refine Sb 75 rfl ?_  -- 15
       refine S_val (Y_assign rfl) ?_
       refine S_nl rfl rfl ?_
       refine th_n (hK25 _ _ ?_)
       clear hK25 K25
       refine wp_ret ?_
       refine ret_r1 rfl rfl ?_  -- r29
       exact ⟨by first | exact cvB_f (by unfold cvP; dsimp only; omega) | exact cvB_d (by unfold cvP; dsimp only; omega) | exact cvB_t (by unfold cvP; dsimp only; omega), G⟩
theorem csB_bad {l : List LCmd} {k : Nat} (hk : k < l.length) (h : cvB l[k] = false) : Value.bool false = .bool (csB l) := by
  have := all_false hk h
  simp [csB, this]
theorem csB_ok {l : List LCmd} (h : l.all cvB = true) : Value.bool (decide (l.length ≤ 40)) = .bool (csB l) := by
  unfold csB
  rw [h]
  simp
set_option maxHeartbeats 400000 in
set_option maxRecDepth 20000 in
theorem spec_CommandsValid_c (Pr : Nat → Prop) (A : Option Addr) (xs : List LCmd) (c : Nat) (w : World) (hA : RO Pr w A xs) (hx : xs.length ≤ 1048576) :
    Calls Try.prog 118 #[.slice A xs.length c] w (Ret fun v w' => v = .bool (csB xs) ∧ Grow w w') := by
 refine enter Try.func118 rfl Try.ntmps118 (L := [_,_,_,_,_,_,_,_,_,_,_,_,_,_,_,_,_,_,_]) rfl ?_
 have G := Mod.refl No w
 have hA0 := hA
 refine wp_seq_k fun K1 hK1 => ?_
 refine Sb 19 rfl ?_  -- 0
 refine S_val (Y_assign rfl) ?_
 refine S_nl rfl rfl ?_
 refine th_n (hK1 _ _ ?_)
 clear hK1 K1
 refine wp_seq_k fun K2 hK2 => ?_
 refine wp_seq_k fun K3 hK3 => ?_
 refine Sb 19 rfl ?_  -- 1
 refine S_val (Y_assign rfl) ?_
 refine S_nl rfl rfl ?_
 refine th_n (hK3 _ _ ?_)
 clear hK3 K3
 refine wp_block ?_
 go_loopw [3] (fun u3 wr => (∃ k : Nat, u3 = .int .i64 k ∧ k ≤ xs.length ∧ (xs.take k).all cvB = true) ∧ Mod No w wr) (fun u3 wr => xs.length - (intOf u3).toNat)  -- L1
 case atStart =>
  refine ⟨?_, Mod.refl _ _⟩
  exact ⟨0, rfl, by omega, by simp⟩
 case round =>
  obtain ⟨w1, rfl⟩ : ∃ x : World, x = wr := ⟨_, rfl⟩
  obtain ⟨hrel, g1⟩ := hrel
  replace hA := hA.grow g1
  replace G := G.grow g1
  have zg1 := g1.size
  obtain ⟨k, rfl, hk, hs⟩ := hrel
  have GL1 := g1
  refine wp_seq_k fun K4 hK4 => ?_
  refine wp_seq_k fun K5 hK5 => ?_
  refine Sb 19 rfl ?_  -- 2
  refine S_val (Y_move rfl) ?_
  refine S_val (Y_move rfl) ?_
  refine S_val (Y_len Try.underlying120 rfl) ?_
  refine S_val (Y_lss rfl rfl) ?_
  refine S_nl rfl rfl ?_
  refine th_n (hK5 _ _ ?_)
  clear hK5 K5
  refine S_if rfl (fun hb1 => ?_) (fun hb1 => ?_)  -- c1
  · -- c1T
   replace hb1 := nb_tt hb1
   have hk1 : k < xs.length := by omega
   obtain ⟨g2, o2, rfl, hp2, cc20⟩ := hA0.cell hk1
   have cc2 := cc20.grow G
   refine wp_skip ?_
   refine th_n (hK4 _ _ ?_)
   clear hK4 K4
   refine wp_seq_k fun K6 hK6 => ?_
   refine wp_block ?_
   refine wp_seq_k fun K7 hK7 => ?_
   refine Sb 19 rfl ?_  -- 4
   refine S_val (Y_move rfl) ?_
   refine S_val (Y_move rfl) ?_
   refine S_val (Y_index Try.underlying120 sz133 rfl rfl (by first | assumption | omega)) ?_
   refine S_val (Y_loadS Try.underlying133 rfl sz133 rfl (by first | assumption | skip)) ?_  -- l1
   refine S_call rfl en125 (spec_CommandValid_c _ _ _ _ _) ?_  -- k1 spec.CommandValid
   rintro v2 w2 ⟨rfl, g2⟩
   replace hA := hA.grow g2
   replace cc2 := cc2.grow g2
   replace G := G.grow g2
   replace GL1 := GL1.grow g2
   have zg2 := g2.size
   refine S_val (Y_not rfl) ?_
   refine S_nl rfl rfl ?_
   refine th_n (hK7 _ _ ?_)
   clear hK7 K7
   refine S_if rfl (fun hb2 => ?_) (fun hb2 => ?_)  -- c2
   · -- c2T
    first | with_reducible (replace hb2 := nb_nt hb2) | with_reducible (replace hb2 := nb_tt hb2) | with_reducible (replace hb2 := nb_bt hb2) | skip
    refine wp_seq_k fun K8 hK8 => ?_
    refine Sb 19 rfl ?_  -- 5
    refine S_val (Y_assign rfl) ?_
    refine S_nl rfl rfl ?_
    refine th_n (hK8 _ _ ?_)
    clear hK8 K8
    refine wp_ret ?_
    refine ib_r ?_
    refine th_r ?_
    try clear GL1
    refine th_r ?_
    refine ib_r ?_
    refine th_r ?_
    clear hK6 K6 hK2 K2
    refine ret_r1 rfl rfl ?_  -- r1
    exact ⟨csB_bad hk1 hb2, G⟩
   · -- c2F
    first | with_reducible (replace hb2 := nb_nf hb2) | with_reducible (replace hb2 := nb_tf hb2) | with_reducible (replace hb2 := nb_bf hb2) | skip
    refine wp_skip ?_
    refine ib_n ?_
    refine th_n (hK6 _ _ ?_)
    clear hK6 K6
    refine Sb 19 rfl ?_  -- 3
    refine S_val (Y_move rfl) ?_
    refine S_val (Y_inc rfl rfl (by omega)) ?_
    refine S_val (Y_assign rfl) ?_
    refine S_nl rfl rfl ?_
    refine th_n ?_
    go_roundw  -- e1 of L1
    case rel =>
     refine ⟨?_, GL1⟩
     exact ⟨k + 1, rfl, by omega, all_take_succ (by omega) hs hb2⟩
    case measure =>
     exact dec_nat (by omega)
  · -- c1F
   replace hb1 := nb_tf hb1
   refine wp_exit ?_
   refine th_x ?_
   try clear GL1
   refine th_x ?_
   refine ib_e ?_
   refine th_n (hK2 _ _ ?_)
   clear hK4 K4 hK2 K2
   refine wp_seq_k fun K9 hK9 => ?_
   refine Sb 19 rfl ?_  -- 6
   refine S_val (Y_move rfl) ?_
   refine S_val (Y_len Try.underlying120 rfl) ?_
   refine S_val (Y_leq rfl rfl) ?_
   refine S_val (Y_assign rfl) ?_
   refine S_nl rfl rfl ?_
   refine th_n (hK9 _ _ ?_)
   clear hK9 K9
   refine wp_ret ?_
   refine ret_r1 rfl rfl ?_  -- r2
   rw [← csB_ok (all_of_take (by omega) hs)]
   exact ⟨bI (by omega), G⟩
end
/-! WalkW -/
section
open Go Go.RowKit
attribute [local irreducible] wpList wpAnyH Code.wp dOp
set_option maxHeartbeats 400000 in
set_option maxRecDepth 20000 in
theorem spec_l8Place_c (Pr : Nat → Prop) (A B : Option Addr) (h : LH) (c d n : Nat) (r pc : Int) (w : World) (hA : RC Pr w A h.cells) (hB : R1 Pr w B (ints h.roots)) (hz : hsize h ≤ 1048576) (va : Valid h) (hn : n < h.roots.length) (hr : h.roots[n] = r) :
    Calls Try.prog 130 #[.agg #[.slice A h.cells.length c, .slice B h.roots.length d], .int .i64 r, .int .i64 pc] w (Ret fun v w' => v = .bool (placeB h (n : Int) pc) ∧ Grow w w') := by
 have hz1 := hsize_cells h
 have hz2 := hsize_roots h
 refine enter Try.func130 rfl Try.ntmps130 (L := [_,_,_,_,_,_,_,_,_,_,_,_,_,_,_,_,_,_,_,_]) rfl ?_
 have G := Mod.refl No w
 have hA0 := hA
 have hB0 := hB
 refine wp_seq_k fun K1 hK1 => ?_
 refine Sb 20 rfl ?_  -- 0
 refine S_box (cs := [_, _]) rfl rfl ?_
 intro b1 w1 fb1 g1 B1
 have lb1 := B1.lt
 replace hA := hA.grow g1
 replace hB := hB.grow g1
 replace G := G.grow g1
 have zg1 := g1.size
 refine S_val (Y_assign rfl) ?_
 refine S_nl rfl rfl ?_
 refine th_n (hK1 _ _ ?_)
 clear hK1 K1
 refine wp_seq_k fun K2 hK2 => ?_
 refine Sb 20 rfl ?_  -- 1
 refine S_val (Y_move rfl) ?_
 refine S_val (Y_geq rfl rfl) ?_
 refine S_val (Y_move rfl) ?_
 refine S_g 9 rfl (fun hb1 => ?_) (fun hb1 => ?_)  -- g1
 · -- g1T
  replace hb1 := nb_tt hb1
  obtain ⟨m, hm, hmN⟩ := valid_root va hn (by omega)
  obtain ⟨g2, o2, E2, d2, rfl, hp2, cc20, _⟩ := hA0.cell hmN
  have cc2 := cc20.grow G
  have hpl := placeB_pos (c := pc) hn hm hmN
  rw [hr] at hm
  subst hm
  refine S_on rfl rfl ?_
  refine S_val (Y_move rfl) ?_
  refine S_on rfl rfl ?_
  refine S_val (Y_field Try.underlying32 rfl fz32_0 (by decide) rfl) ?_
  refine S_on rfl rfl ?_
  refine S_val (Y_load Try.underlying30 rfl rfl (B1.at (by rfl))) ?_  -- l1
  refine S_on rfl rfl ?_
  refine S_val (Y_move rfl) ?_
  refine S_on rfl rfl ?_
  refine S_val (Y_index Try.underlying30 sz63 rfl rfl (by first | assumption | omega)) ?_
  refine S_on rfl rfl ?_
  refine S_val (Y_field Try.underlying63 rfl fz63_2 (by decide) rfl) ?_
  refine S_on rfl rfl ?_
  refine S_val (Y_load Try.underlying23 rfl rfl (by first | assumption | exact cc2.at (by rfl) | exact B1.at (by rfl))) ?_  -- l2
  refine S_on rfl rfl ?_
  refine S_val (Y_len Try.underlying23 rfl) ?_
  refine S_on rfl rfl ?_
  refine S_val (Y_lss rfl rfl) ?_
  refine S_val (Y_pickT rfl rfl) ?_
  refine S_val (Y_assign rfl) ?_
  refine S_nl rfl rfl ?_
  refine th_n (hK2 _ _ ?_)
  clear hK2 K2
  refine wp_ret ?_
  refine ret_r1 rfl rfl ?_  -- r1
  exact ⟨by rw [hpl], G⟩
 · -- g1F
  replace hb1 := nb_tf hb1
  refine S_off rfl rfl ?_
  refine S_off rfl rfl ?_
  refine S_off rfl rfl ?_
  refine S_off rfl rfl ?_
  refine S_off rfl rfl ?_
  refine S_off rfl rfl ?_
  refine S_off rfl rfl ?_
  refine S_off rfl rfl ?_
  refine S_off rfl rfl ?_
  refine S_val (Y_pickF rfl rfl) ?_
  refine S_val (Y_assign rfl) ?_
  refine S_nl rfl rfl ?_
  refine th_n (hK2 _ _ ?_)
  clear hK2 K2
  refine wp_ret ?_
  refine ret_r1 rfl rfl ?_  -- r2
  exact ⟨by rw [placeB_neg hn (by omega)], G⟩
set_option maxHeartbeats 400000 in
set_option maxRecDepth 20000 in
theorem spec_CommandPossible_c (Pr : Nat → Prop) (A B : Option Addr) (h : LH) (c d : Nat) (oop oa ob oc : Int) (w : World) (hA : RC Pr w A h.cells) (hB : R1 Pr w B (ints h.roots)) (hz : hsize h ≤ 1048576) :
    Calls Try.prog 126 #[.agg #[.slice A h.cells.length c, .slice B h.roots.length d], .agg #[.int .i64 oop, .int .i64 oa, .int .i64 ob, .int .i64 oc]] w (Ret fun v w' => v = .bool (possB h ⟨oop, oa, ob, oc⟩) ∧ Grow w w') := by
 have hz1 := hsize_cells h
 have hz2 := hsize_roots h
 refine enter Try.func126 rfl Try.ntmps126 (L := [_,_,_,_,_,_,_,_,_,_,_,_,_,_,_,_,_,_,_,_,_,_,_,_,_,_,_,_,_,_,_,_,_,_,_,_,_,_,_,_,_,_,_,_,_,_,_,_]) rfl ?_
 have G := Mod.refl No w
 have hA0 := hA
 have hB0 := hB
 refine wp_seq_k fun K1 hK1 => ?_
 refine Sb 48 rfl ?_  -- 0
 refine S_box (cs := [_, _]) rfl rfl ?_
 intro b1 w1 fb1 g1 B1
 have lb1 := B1.lt
 replace hA := hA.grow g1
 replace hB := hB.grow g1
 replace G := G.grow g1
 have zg1 := g1.size
 refine S_box (cs := [_, _, _, _]) rfl rfl ?_
 intro b2 w2 fb2 g2 B2
 have lb2 := B2.lt
 replace hA := hA.grow g2
 replace hB := hB.grow g2
 replace G := G.grow g2
 replace B1 := B1.grow g2
 have zg2 := g2.size
 refine S_val (Y_assign rfl) ?_
 refine S_nl rfl rfl ?_
 refine th_n (hK1 _ _ ?_)
 clear hK1 K1
 refine wp_seq_k fun K2 hK2 => ?_
 refine wp_seq_k fun K3 hK3 => ?_
 refine Sb 48 rfl ?_  -- 1
 refine S_val (Y_loadS Try.underlying32 rfl sz32 rfl (B1.row (by rfl))) ?_  -- l1
 refine S_call rfl en49 (spec_HeapValid_c _ _ _ _ _ _ _ (by assumption) (by assumption) (by omega)) ?_  -- k1 spec.HeapValid
 rintro v3 w3 ⟨rfl, g3⟩
 replace hA := hA.grow g3
 replace hB := hB.grow g3
 replace G := G.grow g3
 replace B1 := B1.grow g3
 replace B2 := B2.grow g3
 have zg3 := g3.size
 refine S_val (Y_not rfl) ?_
 refine S_val (Y_move rfl) ?_
 refine S_g 8 rfl (fun hb1 => ?_) (fun hb1 => ?_)  -- g1
 · -- g1T
  first | with_reducible (replace hb1 := nb_nt hb1) | with_reducible (replace hb1 := nb_tt hb1) | with_reducible (replace hb1 := nb_bt hb1) | skip
  refine S_off rfl rfl ?_
  refine S_off rfl rfl ?_
  refine S_off rfl rfl ?_
  refine S_val (Y_pickT rfl rfl) ?_
  refine S_nl rfl rfl ?_
  refine th_n (hK3 _ _ ?_)
  clear hK3 K3
  refine S_ifT rfl ?_
  refine wp_seq_k fun K4 hK4 => ?_
  refine Sb 48 rfl ?_  -- 2
  refine S_val (Y_assign rfl) ?_
  refine S_nl rfl rfl ?_
  refine th_n (hK4 _ _ ?_)
  clear hK4 K4
  refine wp_ret ?_
  refine th_r ?_
  clear hK2 K2
  refine ret_r1 rfl rfl ?_  -- r1
  exact ⟨by rw [possB_f1 hb1], G⟩
 · -- g1F
  first | with_reducible (replace hb1 := nb_nf hb1) | with_reducible (replace hb1 := nb_tf hb1) | with_reducible (replace hb1 := nb_bf hb1) | skip
  have va := valid_iff.1 hb1
  have hr4 := va.roots4
  refine S_on rfl rfl ?_
  refine S_val (Y_loadS Try.underlying133 rfl sz133 rfl (B2.row (by rfl))) ?_  -- l2
  refine S_on rfl rfl ?_
  refine S_call rfl en125 (spec_CommandValid_c _ _ _ _ _) ?_  -- k2 spec.CommandValid
  rintro v4 w4 ⟨rfl, g4⟩
  replace hA := hA.grow g4
  replace hB := hB.grow g4
  replace G := G.grow g4
  replace B1 := B1.grow g4
  replace B2 := B2.grow g4
  have zg4 := g4.size
  refine S_on rfl rfl ?_
  refine S_val (Y_not rfl) ?_
  refine S_val (Y_pickF rfl rfl) ?_
  refine S_nl rfl rfl ?_
  refine th_n (hK3 _ _ ?_)
  clear hK3 K3
  refine S_if rfl (fun hb2 => ?_) (fun hb2 => ?_)  -- c1
  · -- c1T
   first | with_reducible (replace hb2 := nb_nt hb2) | with_reducible (replace hb2 := nb_tt hb2) | with_reducible (replace hb2 := nb_bt hb2) | skip
   refine wp_seq_k fun K5 hK5 => ?_
   refine Sb 48 rfl ?_  -- 2
   refine S_val (Y_assign rfl) ?_
   refine S_nl rfl rfl ?_
   refine th_n (hK5 _ _ ?_)
   clear hK5 K5
   refine wp_ret ?_
   refine th_r ?_
   clear hK2 K2
   refine ret_r1 rfl rfl ?_  -- r2
   exact ⟨by rw [possB_f2 hb2], G⟩
  · -- c1F
   first | with_reducible (replace hb2 := nb_nf hb2) | with_reducible (replace hb2 := nb_tf hb2) | with_reducible (replace hb2 := nb_bf hb2) | skip
   have hcp := cvB_d0 hb2
   have hcq := hcp
   unfold cvP at hcq
   dsimp only at hcq
   refine wp_skip ?_
   refine th_n (hK2 _ _ ?_)
   clear hK2 K2
   refine wp_seq_k fun K6 hK6 => ?_
   refine wp_seq_k fun K7 hK7 => ?_
   refine Sb 48 rfl ?_  -- 3
   refine S_val (Y_field Try.underlying133 rfl fz133_0 (by decide) rfl) ?_
   refine S_val (Y_load Try.underlying3 rfl rfl (B2.at (by rfl))) ?_  -- l3
   refine S_nl rfl rfl ?_
   refine th_n (hK7 _ _ ?_)
   clear hK7 K7
   refine wp_block ?_
   refine wp_seq_k fun K8 hK8 => ?_
   refine Sb 48 rfl ?_  -- 4
   refine S_val (Y_eql rfl rfl) ?_
   refine S_val (Y_assign rfl) ?_
   refine S_nl rfl rfl ?_
   refine th_n (hK8 _ _ ?_)
   clear hK8 K8
   refine S_if rfl (fun hb3 => ?_) (fun hb3 => ?_)  -- c2
   · -- c2T
    replace hb3 := nb_tt hb3
    obtain ⟨n, hn⟩ := Int.eq_ofNat_of_zero_le (show 0 ≤ ob by omega)
    subst hn
    have hn4 : n < h.roots.length := by omega
    refine wp_seq_k fun K9 hK9 => ?_
    refine D_start 11 48 (fun w => Mod (No) w) follows rfl rfl ?_  -- d1 r5
    intro w5 g5
    replace hA := hA.grow g5
    replace hB := hB.grow g5
    replace G := G.grow g5
    replace B1 := B1.grow g5
    replace B2 := B2.grow g5
    have zg5 := g5.size
    have GS5 := Mod.refl (No) w5
    obtain ⟨g1, o1, e1, hp1, hc1⟩ := hB.int hn4
    cases e1
    have B1d5 := B1
    have B2d5 := B2
    refine Dq (i := 0) rfl GS5 (fun _ hs => Y_loadS Try.underlying32 rfl sz32 rfl (by first | exact hs.cells0 (B1.row (by rfl)))) ?_
    refine Dq (i := 1) rfl GS5 (fun _ _ => Y_field Try.underlying32 rfl fz32_1 (by decide) rfl) ?_
    refine Dq (i := 2) rfl GS5 (fun _ hs => Y_load Try.underlying23 rfl rfl (hs.cell0 (B1.at (by rfl)))) ?_
    refine Dq (i := 3) rfl GS5 (fun _ _ => Y_field Try.underlying133 rfl fz133_2 (by decide) rfl) ?_
    refine Dq (i := 4) rfl GS5 (fun _ hs => Y_load Try.underlying3 rfl rfl (hs.cell0 (B2.at (by rfl)))) ?_
    refine Dq (i := 5) rfl GS5 (fun _ _ => Y_index Try.underlying23 sz3 rfl rfl (by first | assumption | omega)) ?_
    refine Dq (i := 6) rfl GS5 (fun _ hs => Y_load Try.underlying3 rfl rfl (by first | exact hs.cell0 (by assumption) | exact hs.cell0 (B1.at (by rfl)) | exact hs.cell0 (B2.at (by rfl)))) ?_
    refine Dq (i := 7) rfl GS5 (fun _ _ => Y_field Try.underlying133 rfl fz133_3 (by decide) rfl) ?_
    refine Dq (i := 8) rfl GS5 (fun _ hs => Y_load Try.underlying3 rfl rfl (hs.cell0 (B2.at (by rfl)))) ?_
    refine D_1 (i := 9) (by kernel_rfl) ?_
    refine E_call rfl rfl en130 (spec_l8Place_c _ _ _ h _ _ n _ _ _ hA hB (by omega) va hn4 rfl) ?_  -- k3 spec.l8Place
    rintro v6 w6 ⟨rfl, g6⟩
    replace hA := hA.grow g6
    replace hB := hB.grow g6
    replace G := G.grow g6
    replace GS5 := GS5.grow g6
    replace B1 := B1.grow g6
    replace B2 := B2.grow g6
    have zg6 := g6.size
    refine ⟨GS5, ?_⟩
    refine Dq (i := 10) rfl GS5 (fun _ _ => Y_assign rfl) ?_
    refine D_en (by kernel_rfl) rfl rfl ?_
    refine th_n (hK9 _ _ ?_)
    clear hK9 K9
    refine wp_ret ?_
    refine ib_r ?_
    refine th_r ?_
    clear hK6 K6
    refine ret_r1 rfl rfl ?_  -- r3
    exact ⟨by rw [possB_t hb1 hb2]; simp [effectB, hb3], G⟩
   · -- c2F
    replace hb3 := nb_tf hb3
    refine wp_seq_k fun K10 hK10 => ?_
    refine Sb 48 rfl ?_  -- 6
    refine S_val (Y_eql rfl rfl) ?_
    refine S_val (Y_assign rfl) ?_
    refine S_nl rfl rfl ?_
    refine th_n (hK10 _ _ ?_)
    clear hK10 K10
    refine S_if rfl (fun hb4 => ?_) (fun hb4 => ?_)  -- c3
    · -- c3T
     replace hb4 := nb_tt hb4
     obtain ⟨n, hn⟩ := Int.eq_ofNat_of_zero_le (show 0 ≤ oa by omega)
     subst hn
     have hn4 : n < h.roots.length := by omega
     refine wp_seq_k fun K11 hK11 => ?_
     refine D_start 11 48 (fun w => Mod (No) w) follows rfl rfl ?_  -- d2 r7
     intro w7 g7
     replace hA := hA.grow g7
     replace hB := hB.grow g7
     replace G := G.grow g7
     replace B1 := B1.grow g7
     replace B2 := B2.grow g7
     have zg7 := g7.size
     have GS7 := Mod.refl (No) w7
     obtain ⟨g1, o1, e1, hp1, hc1⟩ := hB.int hn4
     cases e1
     have B1d7 := B1
     have B2d7 := B2
     refine Dq (i := 0) rfl GS7 (fun _ hs => Y_loadS Try.underlying32 rfl sz32 rfl (by first | exact hs.cells0 (B1.row (by rfl)))) ?_
     refine Dq (i := 1) rfl GS7 (fun _ _ => Y_field Try.underlying32 rfl fz32_1 (by decide) rfl) ?_
     refine Dq (i := 2) rfl GS7 (fun _ hs => Y_load Try.underlying23 rfl rfl (hs.cell0 (B1.at (by rfl)))) ?_
     refine Dq (i := 3) rfl GS7 (fun _ _ => Y_field Try.underlying133 rfl fz133_1 (by decide) rfl) ?_
     refine Dq (i := 4) rfl GS7 (fun _ hs => Y_load Try.underlying3 rfl rfl (hs.cell0 (B2.at (by rfl)))) ?_
     refine Dq (i := 5) rfl GS7 (fun _ _ => Y_index Try.underlying23 sz3 rfl rfl (by first | assumption | omega)) ?_
     refine Dq (i := 6) rfl GS7 (fun _ hs => Y_load Try.underlying3 rfl rfl (by first | exact hs.cell0 (by assumption) | exact hs.cell0 (B1.at (by rfl)) | exact hs.cell0 (B2.at (by rfl)))) ?_
     refine Dq (i := 7) rfl GS7 (fun _ _ => Y_field Try.underlying133 rfl fz133_3 (by decide) rfl) ?_
     refine Dq (i := 8) rfl GS7 (fun _ hs => Y_load Try.underlying3 rfl rfl (hs.cell0 (B2.at (by rfl)))) ?_
     refine D_1 (i := 9) (by kernel_rfl) ?_
     refine E_call rfl rfl en130 (spec_l8Place_c _ _ _ h _ _ n _ _ _ hA hB (by omega) va hn4 rfl) ?_  -- k4 spec.l8Place
     rintro v8 w8 ⟨rfl, g8⟩
     replace hA := hA.grow g8
     replace hB := hB.grow g8
     replace G := G.grow g8
     replace GS7 := GS7.grow g8
     replace B1 := B1.grow g8
     replace B2 := B2.grow g8
     have zg8 := g8.size
     refine ⟨GS7, ?_⟩
     refine Dq (i := 10) rfl GS7 (fun _ _ => Y_assign rfl) ?_
     refine D_en (by kernel_rfl) rfl rfl ?_
     refine th_n (hK11 _ _ ?_)
     clear hK11 K11
     refine wp_ret ?_
     refine ib_r ?_
     refine th_r ?_
     clear hK6 K6
     refine ret_r1 rfl rfl ?_  -- r4
     exact ⟨by rw [possB_t hb1 hb2]; simp [effectB, hb3, hb4], G⟩
    · -- c3F
     replace hb4 := nb_tf hb4
     refine wp_seq_k fun K12 hK12 => ?_
     refine Sb 48 rfl ?_  -- 8
     refine S_val (Y_eql rfl rfl) ?_
     refine S_val (Y_assign rfl) ?_
     refine S_nl rfl rfl ?_
     refine th_n (hK12 _ _ ?_)
     clear hK12 K12
     refine S_if rfl (fun hb5 => ?_) (fun hb5 => ?_)  -- c4
     · -- c4T
      replace hb5 := nb_tt hb5
      obtain ⟨n, hn⟩ := Int.eq_ofNat_of_zero_le (show 0 ≤ oa by omega)
      subst hn
      have hn4 : n < h.roots.length := by omega
      obtain ⟨g1, o1, e1, hp1, hc1⟩ := hB.int hn4
      cases e1
      refine wp_seq_k fun K13 hK13 => ?_
      refine Sb 48 rfl ?_  -- 9
      refine S_val (Y_field Try.underlying32 rfl fz32_1 (by decide) rfl) ?_
      refine S_val (Y_load Try.underlying23 rfl rfl (B1.at (by rfl))) ?_  -- l14
      refine S_val (Y_field Try.underlying133 rfl fz133_1 (by decide) rfl) ?_
      refine S_val (Y_load Try.underlying3 rfl rfl (B2.at (by rfl))) ?_  -- l15
      refine S_val (Y_index Try.underlying23 sz3 rfl rfl (by first | assumption | omega)) ?_
      refine S_val (Y_load Try.underlying3 rfl rfl (by first | assumption | exact B1.at (by rfl) | exact B2.at (by rfl))) ?_  -- l16
      refine S_val (Y_geq rfl rfl) ?_
      refine S_val (Y_assign rfl) ?_
      refine S_nl rfl rfl ?_
      refine th_n (hK13 _ _ ?_)
      clear hK13 K13
      refine wp_ret ?_
      refine ib_r ?_
      refine th_r ?_
      clear hK6 K6
      refine ret_r1 rfl rfl ?_  -- r5
      exact ⟨by rw [possB_t hb1 hb2]; simp [effectB, hb3, hb4, hb5, rootB_at hn4], G⟩
     · -- c4F
      replace hb5 := nb_tf hb5
      refine wp_skip ?_
      refine ib_n ?_
      refine th_n (hK6 _ _ ?_)
      clear hK6 K6
      refine wp_seq_k fun K14 hK14 => ?_
      refine Sb 48 rfl ?_  -- 10
      refine S_val (Y_assign rfl) ?_
      refine S_nl rfl rfl ?_
      refine th_n (hK14 _ _ ?_)
      clear hK14 K14
      refine wp_ret ?_
      refine ret_r1 rfl rfl ?_  -- r6
      exact ⟨by rw [possB_t hb1 hb2]; simp [effectB, hb3, hb4, hb5], G⟩
end
/-! WalkO -/
section
open Go Go.RowKit
attribute [local irreducible] wpList wpAnyH Code.wp dOp
def emptyH : LH := ⟨[], List.replicate 4 (-1)⟩
theorem OH.bare {Pr : Nat → Prop} {w : World} {eC eI : TypeId} {A B : Option Addr} {xs : List Int} (r : OI Pr w eI B (ints xs)) : OH Pr w eC eI A B ⟨[], xs⟩ [] := ⟨OC.nil _ _ _ _ _, r, fun i c q h => by simp at h⟩
theorem rep_snoc (k : Nat) : List.replicate k (-1 : Int) ++ [-1] = List.replicate (k + 1) (-1) := by simp [List.replicate_succ']
end
/-! WalkDc -/
section
open Go Go.RowKit
attribute [local irreducible] wpList wpAnyH Code.wp dOp
set_option maxHeartbeats 400000 in
set_option maxRecDepth 20000 in
theorem impl_deadCycle_c (Pr : Nat → Prop) (A B : Option Addr) (h : LH) (n c d : Nat) (w : World) (hA : RC Pr w A h.cells) (hB : R1 Pr w B (ints h.roots)) (hz : hsize h ≤ 1048576) (va : Valid h) (hnN : n < h.cells.length) (hun : usedAt h.cells n = true) :
    Calls Try.prog 84 #[.agg #[.slice A h.cells.length c, .slice B h.roots.length d], .int .i64 (n : Int)] w (Ret fun v w' => ∃ m : Nat, v = .int .u64 (m : Int) ∧ m < 2 ^ 64 ∧ (∀ i, m.testBit i = deadP h n i) ∧ Grow w w') := by
 have hz1 := hsize_cells h
 have hz2 := hsize_roots h
 have h40 := va.le
 have hl := va.leads
 refine enter Try.func84 rfl Try.ntmps84 (L := [_,_,_,_,_,_,_,_,_,_,_,_,_,_,_,_,_,_,_,_,_,_,_,_,_,_,_,_,_,_,_,_,_,_,_,_,_,_,_,_]) rfl ?_
 have G := Mod.refl No w
 have hA0 := hA
 have hB0 := hB
 refine wp_seq_k fun K1 hK1 => ?_
 refine Sb 40 rfl ?_  -- 0
 refine S_box (cs := [_, _]) rfl rfl ?_
 intro b1 w1 fb1 g1 B1
 have lb1 := B1.lt
 replace hA := hA.grow g1
 replace hB := hB.grow g1
 replace G := G.grow g1
 have zg1 := g1.size
 refine S_val (Y_assign rfl) ?_
 refine S_nl rfl rfl ?_
 refine th_n (hK1 _ _ ?_)
 clear hK1 K1
 refine wp_seq_k fun K2 hK2 => ?_
 refine Sb 40 rfl ?_  -- 1
 refine S_val (Y_loadS Try.underlying32 rfl sz32 rfl (B1.row (by rfl))) ?_  -- l1
 refine S_val (Y_move rfl) ?_
 refine S_call rfl en113 (impl_cellsFrom_c _ _ _ _ _ _ _ _ (by assumption) (by assumption) (by omega) (by assumption)) ?_  -- k1 impl.cellsFrom
 rintro v2 w2 ⟨m2, u2, rfl, hs2, hu2, hr2, g2⟩
 replace hA := hA.grow g2
 replace hB := hB.grow g2
 replace G := G.grow g2
 replace B1 := B1.grow g2
 have zg2 := g2.size
 have hM := fromM_set va hnN hun hs2 hu2 hr2
 refine S_val (Y_assign rfl) ?_
 refine S_nl rfl rfl ?_
 refine th_n (hK2 _ _ ?_)
 clear hK2 K2
 refine wp_seq_k fun K3 hK3 => ?_
 refine Sb 40 rfl ?_  -- 2
 refine S_bs0 Try.underlying23 sz3 ?_
 intro b3 w3 fb3 g3 B3
 have lb3 := B3.lt
 replace hA := hA.grow g3
 replace hB := hB.grow g3
 replace G := G.grow g3
 replace B1 := B1.grow g3
 have zg3 := g3.size
 refine S_val (Y_assign rfl) ?_
 refine S_nl rfl rfl ?_
 refine th_n (hK3 _ _ ?_)
 clear hK3 K3
 refine wp_seq_k fun K4 hK4 => ?_
 refine wp_seq_k fun K5 hK5 => ?_
 refine Sb 40 rfl ?_  -- 3
 refine S_val (Y_loadS Try.underlying32 rfl sz32 rfl (B1.row (by rfl))) ?_  -- l2
 refine S_val (Y_move rfl) ?_
 refine S_call rfl en91 (impl_refCounts_c _ _ _ h _ _ _ _ hA hB (by omega) hl hM.1) ?_  -- k2 impl.refCounts
 rintro v4 w4 ⟨b4, rfl, fb4, B4, g4⟩
 replace hA := hA.grow g4
 replace hB := hB.grow g4
 replace G := G.grow g4
 replace B1 := B1.grow g4
 replace B3 := B3.grow g4
 have zg4 := g4.size
 have lb4 := B4.lt
 rw [set_in hM] at B4
 have hRc := R1.of_blkE B4
 refine S_val (Y_len Try.underlying23 rfl) ?_
 refine S_val (Y_move rfl) ?_
 refine S_nl rfl rfl ?_
 refine th_n (hK5 _ _ ?_)
 clear hK5 K5
 refine wp_block ?_
 obtain ⟨wz, hwz⟩ : ∃ x, x = w4.heap.size := ⟨_, rfl⟩
 have O1 : OW (fun i => i = b3 ∨ wz ≤ i) w4 3 1 (some ⟨b3, 0, none⟩) 0 0 (ints []) := OW.of_blk B3 rfl (by decide) (.inl rfl)
 go_loopw [6, 17] (fun u6 u17 wr => (∃ (k q cap : Nat) (A1 : Option Addr), u17 = .int .i64 k ∧ u6 = .slice A1 q cap ∧ k ≤ h.cells.length ∧ q = (selL k (heldP h n)).length ∧ OW (fun i => i = b3 ∨ wz ≤ i) wr 3 1 A1 q cap (ints (selL k (heldP h n)))) ∧ Mod (fun i => i = b3 ∨ wz ≤ i) w4 wr) (fun u6 u17 wr => h.cells.length - (intOf u17).toNat)  -- L1
 case atStart =>
  refine ⟨?_, Mod.refl _ _⟩
  exact ⟨0, 0, 0, _, rfl, rfl, by omega, rfl, O1⟩
 case round =>
  obtain ⟨w5, rfl⟩ : ∃ x : World, x = wr := ⟨_, rfl⟩
  obtain ⟨hrel, g5⟩ := hrel
  clear O1
  replace G := G.abv g5
  replace hA := hA0.grow G
  replace hB := hB0.grow G
  replace hRc := hRc.md g5
  replace B1 := B1.md g5
  replace B4 := B4.md g5
  have zg5 := g5.size
  obtain ⟨k, q1, cap1, A1, rfl, rfl, hk, hq1, O1⟩ := hrel
  have hsl := selL_le k (heldP h n)
  have GL5 := g5
  refine wp_seq_k fun K6 hK6 => ?_
  refine Sb 40 rfl ?_  -- 4
  refine S_val (Y_lss rfl rfl) ?_
  refine S_nl rfl rfl ?_
  refine th_n (hK6 _ _ ?_)
  clear hK6 K6
  refine wp_seq_k fun K7 hK7 => ?_
  refine S_if rfl (fun hb1 => ?_) (fun hb1 => ?_)  -- c1
  · -- c1T
   replace hb1 := nb_tt hb1
   have hk1 : k < h.cells.length := by omega
   have hin : inB (fromM h n) k = hasB m2 k := by rw [hasB_nat]; exact (congrFun (set_in hM) k).symm
   have hk3 : k < (cntL h.cells.length (refsAll h (inB (fromM h n)))).length := by rw [cntL_len]; exact hk1
   obtain ⟨g4, o4, e4, hp4, hc4⟩ := hRc.int hk3
   cases e4
   have hme : (cntL h.cells.length (refsAll h (inB (fromM h n))))[k] = (((refsAll h (inB (fromM h n))).count (k : Int) : Nat) : Int) := by simp [cntL]
   rw [hme] at hc4
   refine wp_skip ?_
   refine th_n (hK7 _ _ ?_)
   clear hK7 K7
   refine wp_seq_k fun K8 hK8 => ?_
   refine wp_block ?_
   refine wp_seq_k fun K9 hK9 => ?_
   refine Sb 40 rfl ?_  -- 5
   refine S_val (Y_move rfl) ?_
   refine S_val (Y_index Try.underlying23 sz3 rfl rfl (by first | assumption | omega)) ?_
   refine S_val (Y_load Try.underlying3 rfl rfl (by first | assumption | exact B1.at (by rfl) | exact B4.at (by rfl))) ?_  -- l3
   refine S_val (Y_assign rfl) ?_
   refine S_val (Y_assign rfl) ?_
   refine S_nl rfl rfl ?_
   refine th_n (hK9 _ _ ?_)
   clear hK9 K9
   refine wp_seq_k fun K10 hK10 => ?_
   refine Sb 40 rfl ?_  -- 6
   refine S_val (Y_move rfl) ?_
   refine S_val (Y_move rfl) ?_
   refine S_call rfl en58 (impl_cellSet_has_c _ _ _ (by assumption)) ?_  -- k3 (impl.cellSet).has
   rintro v w' ⟨rfl, rfl⟩
   refine S_val (Y_move rfl) ?_
   refine S_g 25 rfl (fun hb2 => ?_) (fun hb2 => ?_)  -- g1
   · -- g1T
    first | with_reducible (replace hb2 := nb_nt hb2) | with_reducible (replace hb2 := nb_tt hb2) | with_reducible (replace hb2 := nb_bt hb2) | skip
    refine S_on rfl rfl ?_
    refine S_val (Y_move rfl) ?_
    refine S_on rfl rfl ?_
    refine S_val (Y_gtr rfl rfl) ?_
    refine S_val (Y_pickT rfl rfl) ?_
    refine S_nl rfl rfl ?_
    refine th_n (hK10 _ _ ?_)
    clear hK10 K10
    refine S_if rfl (fun hb3 => ?_) (fun hb3 => ?_)  -- c2
    · -- c2T
     first | with_reducible (replace hb3 := nb_nt hb3) | with_reducible (replace hb3 := nb_tt hb3) | with_reducible (replace hb3 := nb_bt hb3) | skip
     refine Sb 40 rfl ?_  -- 7
     refine S_val (Y_move rfl) ?_
     refine S_val (Y_move rfl) ?_
     refine S_bs1 (cs := [_]) Try.underlying23 zr3 sz3 rfl rfl rfl ?_
     intro b7 w7 fb7 g7 B7
     have lb7 := B7.lt
     replace hA := hA.grow g7
     replace hB := hB.grow g7
     replace hRc := hRc.grow g7
     replace O1 := O1.grow g7
     replace G := G.grow g7
     replace GL5 := GL5.grow g7
     replace B1 := B1.grow g7
     replace B4 := B4.grow g7
     have zg7 := g7.size
     refine S_app Try.underlying23 zr3 sz3 by3 rfl rfl O1 rfl (Src.blk B7) (by simp [Value.oneCell']) (by omega) (Pr' := fun i => i = b3 ∨ wz ≤ i) (fun i hi => hi) (by omega) ?_
     intro A8 cap8 w8 X8 m8
     replace O1 := X8
     rw [ints_app] at O1
     clear X8
     replace G := G.abv m8
     replace GL5 := GL5.trn m8
     replace hA := hA0.grow G
     replace hB := hB0.grow G
     replace hRc := hRc.md m8
     replace B1 := B1.md m8
     replace B4 := B4.md m8
     have zm8 := m8.size
     refine S_val (Y_assign rfl) ?_
     refine S_nl rfl rfl ?_
     refine ib_n ?_
     refine th_n (hK8 _ _ ?_)
     clear hK8 K8
     refine Sb 40 rfl ?_  -- 8
     refine S_val (Y_inc rfl rfl (by omega)) ?_
     refine S_val (Y_move rfl) ?_
     refine S_nl rfl rfl ?_
     refine th_n ?_
     go_roundw  -- e1 of L1
     case rel =>
      refine ⟨?_, GL5⟩
      have hP : heldP h n k = true := by unfold heldP; rw [hin, hb2, decide_eq_true hb3]; rfl
      exact ⟨k + 1, _, _, _, rfl, rfl, by omega, by rw [selL_yes hP, List.length_append, ← hq1]; rfl, by rw [selL_yes hP]; exact O1⟩
     case measure =>
      exact dec_nat (by omega)
    · -- c2F
     first | with_reducible (replace hb3 := nb_nf hb3) | with_reducible (replace hb3 := nb_tf hb3) | with_reducible (replace hb3 := nb_bf hb3) | skip
     refine wp_skip ?_
     refine ib_n ?_
     refine th_n (hK8 _ _ ?_)
     clear hK8 K8
     refine Sb 40 rfl ?_  -- 8
     refine S_val (Y_inc rfl rfl (by omega)) ?_
     refine S_val (Y_move rfl) ?_
     refine S_nl rfl rfl ?_
     refine th_n ?_
     go_roundw  -- e2 of L1
     case rel =>
      refine ⟨?_, GL5⟩
      have hP : heldP h n k = false := by unfold heldP; rw [hin, hb2, decide_eq_false hb3]; rfl
      exact ⟨k + 1, _, _, _, rfl, rfl, by omega, by rw [selL_no hP]; exact hq1, by rw [selL_no hP]; exact O1⟩
     case measure =>
      exact dec_nat (by omega)
   · -- g1F
    first | with_reducible (replace hb2 := nb_nf hb2) | with_reducible (replace hb2 := nb_tf hb2) | with_reducible (replace hb2 := nb_bf hb2) | skip
    refine S_off rfl rfl ?_
    refine S_off rfl rfl ?_
    refine S_val (Y_pickF rfl rfl) ?_
    refine S_nl rfl rfl ?_
    refine th_n (hK10 _ _ ?_)
    clear hK10 K10
    refine S_ifF rfl ?_
    refine wp_skip ?_
    refine ib_n ?_
    refine th_n (hK8 _ _ ?_)
    clear hK8 K8
    refine Sb 40 rfl ?_  -- 8
    refine S_val (Y_inc rfl rfl (by omega)) ?_
    refine S_val (Y_move rfl) ?_
    refine S_nl rfl rfl ?_
    refine th_n ?_
    go_roundw  -- e3 of L1
    case rel =>
     refine ⟨?_, GL5⟩
     have hP : heldP h n k = false := by unfold heldP; rw [hin, hb2]; rfl
     exact ⟨k + 1, _, _, _, rfl, rfl, by omega, by rw [selL_no hP]; exact hq1, by rw [selL_no hP]; exact O1⟩
    case measure =>
     exact dec_nat (by omega)
  · -- c1F
   replace hb1 := nb_tf hb1
   have hkN : k = h.cells.length := by omega
   subst hkN
   subst hq1
   have hRh := O1.oi.r1
   refine wp_exit ?_
   refine th_x ?_
   try clear GL5
   refine th_x ?_
   refine ib_e ?_
   refine th_n (hK4 _ _ ?_)
   clear hK7 K7 hK4 K4
   refine wp_seq_k fun K11 hK11 => ?_
   refine Sb 40 rfl ?_  -- 9
   refine S_val (Y_move rfl) ?_
   refine S_val (Y_loadS Try.underlying32 rfl sz32 rfl (B1.row (by rfl))) ?_  -- l4
   refine S_val (Y_move rfl) ?_
   refine S_val (Y_move rfl) ?_
   refine S_call rfl en108 (impl_closure_c _ _ _ _ _ h (heldL h n) _ _ _ _ _ hA hRh (by omega) (Nat.le_trans hsl (by omega)) hM.1 (from_lt hM) (by omega)) ?_  -- k4 impl.closure
   rintro v9 w9 ⟨s9, rfl, hs9, hr9, g9⟩
   replace hA := hA.grow g9
   replace hB := hB.grow g9
   replace hRc := hRc.grow g9
   replace O1 := O1.grow g9
   replace hRh := hRh.grow g9
   replace G := G.grow g9
   replace B1 := B1.grow g9
   replace B4 := B4.grow g9
   have zg9 := g9.size
   have hs9 := hs9
   have hD := dead_bits va hnN hM hs9 hr9
   refine S_val (Y_andNot rfl rfl (by first | assumption | exact SetOf.wlt (by assumption)) (by first | assumption | exact SetOf.wlt (by assumption))) ?_
   refine S_val (Y_assign rfl) ?_
   refine S_nl rfl rfl ?_
   refine th_n (hK11 _ _ ?_)
   clear hK11 K11
   refine wp_ret ?_
   refine ret_r1 rfl rfl ?_  -- r1
   exact ⟨_, rfl, lessN_lt hM.1, hD, G⟩
end
/-! WalkSw -/
section
open Go Go.RowKit
attribute [local irreducible] wpList wpAnyH Code.wp dOp
set_option maxHeartbeats 400000 in
set_option maxRecDepth 20000 in
theorem impl_freeCells_c (Pr : Nat → Prop) (bh : Nat) (A : Option Addr) (V : Value) (cs : List LC) (rs : List (Option Addr × Nat)) (c m : Nat) (w : World) (BH : Blk w bh 32 [.slice A cs.length c, V].toArray) (O : OC Pr w 63 3 A cs rs) (hm : m < 2 ^ 64) (hn : cs.length ≤ 64) (hbp : ¬ Pr bh) :
    Calls Try.prog 83 #[.pointer (some ⟨bh, 0, none⟩), .int .u64 (m : Int)] w (Ret fun v w' => ∃ rs1, v = .int .i64 ((cntP (fun i => m.testBit i && usedAt cs i) cs.length : Nat) : Int) ∧ OC Pr w' 63 3 A (dropC cs (fun i => m.testBit i && usedAt cs i)) rs1 ∧ SubC (dropC cs (fun i => m.testBit i && usedAt cs i)) rs1 cs rs ∧ Mod Pr w w') := by
 have hne : (63 : TypeId) ≠ 3 := by decide
 refine enter Try.func83 rfl Try.ntmps83 (L := [_,_,_,_,_,_,_,_,_,_,_,_,_,_,_,_,_,_,_,_,_,_,_,_,_,_,_,_,_,_,_,_,_,_,_,_,_,_,_]) rfl ?_
 have G := Mod.refl Pr w
 refine wp_seq_k fun K1 hK1 => ?_
 refine Sb 39 rfl ?_  -- 0
 refine S_val (Y_assign rfl) ?_
 refine S_nl rfl rfl ?_
 refine th_n (hK1 _ _ ?_)
 clear hK1 K1
 refine wp_seq_k fun K2 hK2 => ?_
 refine Sb 39 rfl ?_  -- 1
 refine S_val (Y_assign rfl) ?_
 refine S_nl rfl rfl ?_
 refine th_n (hK2 _ _ ?_)
 clear hK2 K2
 refine wp_seq_k fun K3 hK3 => ?_
 refine wp_seq_k fun K4 hK4 => ?_
 refine Sb 39 rfl ?_  -- 2
 refine S_val (Y_move rfl) ?_
 refine S_val (Y_nil rfl) ?_
 refine S_val (Y_field Try.underlying32 rfl fz32_0 (by decide) rfl) ?_
 refine S_val (Y_load Try.underlying30 rfl rfl (BH.at (by rfl))) ?_  -- l1
 refine S_val (Y_len Try.underlying30 rfl) ?_
 refine S_val (Y_move rfl) ?_
 refine S_nl rfl rfl ?_
 refine th_n (hK4 _ _ ?_)
 clear hK4 K4
 refine wp_block ?_
 go_loopw [5, 12] (fun u5 u12 wr => (∃ (k : Nat) (rs1 : List (Option Addr × Nat)), u12 = .int .i64 k ∧ u5 = .int .i64 ((cntP (fun i => m.testBit i && usedAt cs i) k : Nat) : Int) ∧ k ≤ cs.length ∧ OC Pr wr 63 3 A (dropK cs (fun i => m.testBit i && usedAt cs i) k) rs1 ∧ SubC (dropK cs (fun i => m.testBit i && usedAt cs i) k) rs1 cs rs) ∧ Mod Pr w wr) (fun u5 u12 wr => cs.length - (intOf u12).toNat)  -- L1
 case atStart =>
  refine ⟨?_, Mod.refl _ _⟩
  exact ⟨0, rs, rfl, rfl, by omega, O.cast (dropK_zero _ _).symm, (SubC.refl _ _).cast (dropK_zero _ _).symm⟩
 case round =>
  obtain ⟨w1, rfl⟩ : ∃ x : World, x = wr := ⟨_, rfl⟩
  obtain ⟨hrel, g1⟩ := hrel
  clear O
  replace G := Mod.trans' G g1 (fun _ h _ => h) (fun i h _ => by first | exact h | (subst h; exact hpq))
  replace BH := BH.mod g1 (by intro h; first | omega | (dsimp only at h; omega) | exact hbp h | exact hbp (by rw [h]; exact hpq))
  have zg1 := g1.size
  obtain ⟨k, rs1, rfl, rfl, hk, O, hsub⟩ := hrel
  have hcl := cntP_le (fun i => m.testBit i && usedAt cs i) k
  have GL1 := g1
  refine wp_seq_k fun K5 hK5 => ?_
  refine Sb 39 rfl ?_  -- 3
  refine S_val (Y_lss rfl rfl) ?_
  refine S_nl rfl rfl ?_
  refine th_n (hK5 _ _ ?_)
  clear hK5 K5
  refine wp_seq_k fun K6 hK6 => ?_
  refine S_if rfl (fun hb1 => ?_) (fun hb1 => ?_)  -- c1
  · -- c1T
   replace hb1 := nb_tt hb1
   have hk1 : k < cs.length := by omega
   obtain ⟨gq, post, rfl, hpq, Bq⟩ := O.blk (fun e => by have h9 := dropK_len cs (fun i => m.testBit i && usedAt cs i) k; rw [e] at h9; simp at h9; omega)
   have OR := O.rows
   have hlr := OR.len
   rw [dropK_len] at hlr
   have hcj := dropK_get (p := (fun i => m.testBit i && usedAt cs i)) hk1
   obtain ⟨r, hrr⟩ : ∃ r, rs1[k]? = some r := ⟨_, List.getElem?_eq_getElem (by omega)⟩
   have hpl := flat_pre (k := k) OR.len (by rw [dropK_len]; omega)
   rw [flat_split OR.len hcj hrr] at Bq
   have hpl2 : (flatC ((dropK cs (fun i => m.testBit i && usedAt cs i) k).take k) (rs1.take k)).length = 0 + k * 3 := by rw [hpl]; omega
   have lbq := Bq.lt
   have cc2 := CellsAt.of_blk Bq hpl2
   have hbg : bh ≠ gq := fun e => (by subst e; exact BH.ne Bq (by decide) rfl)
   refine wp_skip ?_
   refine th_n (hK6 _ _ ?_)
   clear hK6 K6
   refine wp_seq_k fun K7 hK7 => ?_
   refine wp_block ?_
   refine wp_seq_k fun K8 hK8 => ?_
   refine Sb 39 rfl ?_  -- 4
   refine S_val (Y_move rfl) ?_
   refine S_val (Y_assign rfl) ?_
   refine S_nl rfl rfl ?_
   refine th_n (hK8 _ _ ?_)
   clear hK8 K8
   refine wp_seq_k fun K9 hK9 => ?_
   refine Sb 39 rfl ?_  -- 5
   refine S_val (Y_move rfl) ?_
   refine S_val (Y_move rfl) ?_
   refine S_call rfl en58 (impl_cellSet_has_c _ _ _ (by assumption)) ?_  -- k1 (impl.cellSet).has
   rintro v w' ⟨rfl, rfl⟩
   refine S_val (Y_move rfl) ?_
   refine S_g 18 rfl (fun hb2 => ?_) (fun hb2 => ?_)  -- g1
   · -- g1T
    first | with_reducible (replace hb2 := nb_nt hb2) | with_reducible (replace hb2 := nb_tt hb2) | with_reducible (replace hb2 := nb_bt hb2) | skip
    refine S_on rfl rfl ?_
    refine S_val (Y_move rfl) ?_
    refine S_on rfl rfl ?_
    refine S_val (Y_nil rfl) ?_
    refine S_on rfl rfl ?_
    refine S_val (Y_field Try.underlying32 rfl fz32_0 (by decide) rfl) ?_
    refine S_on rfl rfl ?_
    refine S_val (Y_load Try.underlying30 rfl rfl (BH.at (by rfl))) ?_  -- l2
    refine S_on rfl rfl ?_
    refine S_val (Y_move rfl) ?_
    refine S_on rfl rfl ?_
    refine S_val (Y_index Try.underlying30 sz63 rfl rfl (by first | assumption | omega)) ?_
    refine S_on rfl rfl ?_
    refine S_val (Y_field Try.underlying63 rfl fz63_0 (by decide) rfl) ?_
    refine S_on rfl rfl ?_
    refine S_val (Y_load Try.underlying4 rfl rfl (by first | assumption | exact cc2.at (by rfl) | exact BH.at (by rfl) | exact Bq.at (by rfl))) ?_  -- l3
    refine S_val (Y_pickT rfl rfl) ?_
    refine S_nl rfl rfl ?_
    refine th_n (hK9 _ _ ?_)
    clear hK9 K9
    refine S_if rfl (fun hb3 => ?_) (fun hb3 => ?_)  -- c2
    · -- c2T
     first | with_reducible (replace hb3 := nb_nt hb3) | with_reducible (replace hb3 := nb_tt hb3) | with_reducible (replace hb3 := nb_bt hb3) | skip
     have hpk : (fun i => m.testBit i && usedAt cs i) k = true := by show (m.testBit k && usedAt cs k) = true; rw [← hasB_nat, hb2, usedAt_at hk1, hb3]; rfl
     refine wp_seq_k fun K10 hK10 => ?_
     refine Sb 39 rfl ?_  -- 6
     refine S_val (Y_move rfl) ?_
     refine S_val (Y_nil rfl) ?_
     refine S_val (Y_field Try.underlying32 rfl fz32_0 (by decide) rfl) ?_
     refine S_val (Y_load Try.underlying30 rfl rfl (BH.at (by rfl))) ?_  -- l4
     refine S_val (Y_move rfl) ?_
     refine S_val (Y_build (cs := [_, _, _]) zr63 pc63 rfl rfl) ?_
     refine S_val (Y_index Try.underlying30 sz63 rfl rfl (by first | assumption | omega)) ?_
     refine S_stM (pre := flatC ((dropK cs (fun i => m.testBit i && usedAt cs i) k).take k) (rs1.take k)) (old := [_, _, _]) (post := flatC ((dropK cs (fun i => m.testBit i && usedAt cs i) k).drop (k + 1)) (rs1.drop (k + 1)) ++ post) (vs := [_, _, _]) sz63 rfl rfl rfl rfl Bq (by rw [hpl]; show k * 3 = 0 + k * 3; omega) rfl ?_
     intro w3 m3 X3
     replace OR := (OR.modT Bq hne m3).free k (c := emptyC) rfl (none, 0)
     replace Bq := X3
     clear X3 cc2
     replace G := Mod.trans' G m3 (fun _ h _ => h) (fun i h _ => by first | exact h | (subst h; exact hpq))
     replace GL1 := Mod.trans' GL1 m3 (fun _ h _ => h) (fun i h _ => by first | exact h | omega | (dsimp only at h ⊢; omega) | (subst h; rfl) | (subst h; exact ⟨by omega, rfl⟩) | (subst h; exact hpq))
     replace BH := BH.mod m3 (by intro h; first | omega | (dsimp only at h; omega) | exact hbp h | exact hbp (by rw [h]; exact hpq))
     have zm3 := m3.size
     refine S_nl rfl rfl ?_
     refine th_n (hK10 _ _ ?_)
     clear hK10 K10
     refine Sb 39 rfl ?_  -- 7
     refine S_val (Y_move rfl) ?_
     refine S_val (Y_inc rfl rfl (by omega)) ?_
     refine S_val (Y_assign rfl) ?_
     refine S_nl rfl rfl ?_
     refine ib_n ?_
     refine th_n (hK7 _ _ ?_)
     clear hK7 K7
     refine Sb 39 rfl ?_  -- 8
     refine S_val (Y_inc rfl rfl (by omega)) ?_
     refine S_val (Y_move rfl) ?_
     refine S_nl rfl rfl ?_
     refine th_n ?_
     go_roundw  -- e1 of L1
     case rel =>
      refine ⟨?_, GL1⟩
      first | exact ⟨k + 1, rs1, rfl, by rw [cntP_no hpk], by omega, O.cast (dropK_no hpk).symm, hsub.cast (dropK_no hpk).symm⟩ | exact ⟨k + 1, _, rfl, by rw [cntP_yes hpk], by omega, ⟨by rw [← dropK_yes hk1 hpk]; exact OR, fun _ => ⟨gq, post, rfl, hpq, Blk.eq Bq (by rw [← dropK_yes hk1 hpk]; exact flat_put (cs := dropK cs (fun i => m.testBit i && usedAt cs i) k) (rs := rs1) (c := emptyC) (r := (none, 0)) (by rw [dropK_len]; exact hlr) (by rw [dropK_len]; exact hk1))⟩⟩, (hsub.free k emptyC rfl (none, 0)).cast (dropK_yes hk1 hpk)⟩
     case measure =>
      exact dec_nat (by omega)
    · -- c2F
     first | with_reducible (replace hb3 := nb_nf hb3) | with_reducible (replace hb3 := nb_tf hb3) | with_reducible (replace hb3 := nb_bf hb3) | skip
     have hpk : (fun i => m.testBit i && usedAt cs i) k = false := by show (m.testBit k && usedAt cs k) = false; rw [usedAt_at hk1, hb3, Bool.and_false]
     refine wp_skip ?_
     refine ib_n ?_
     refine th_n (hK7 _ _ ?_)
     clear hK7 K7
     refine Sb 39 rfl ?_  -- 8
     refine S_val (Y_inc rfl rfl (by omega)) ?_
     refine S_val (Y_move rfl) ?_
     refine S_nl rfl rfl ?_
     refine th_n ?_
     go_roundw  -- e2 of L1
     case rel =>
      refine ⟨?_, GL1⟩
      first | exact ⟨k + 1, rs1, rfl, by rw [cntP_no hpk], by omega, O.cast (dropK_no hpk).symm, hsub.cast (dropK_no hpk).symm⟩ | exact ⟨k + 1, _, rfl, by rw [cntP_yes hpk], by omega, ⟨by rw [← dropK_yes hk1 hpk]; exact OR, fun _ => ⟨gq, post, rfl, hpq, Blk.eq Bq (by rw [← dropK_yes hk1 hpk]; exact flat_put (cs := dropK cs (fun i => m.testBit i && usedAt cs i) k) (rs := rs1) (c := emptyC) (r := (none, 0)) (by rw [dropK_len]; exact hlr) (by rw [dropK_len]; exact hk1))⟩⟩, (hsub.free k emptyC rfl (none, 0)).cast (dropK_yes hk1 hpk)⟩
     case measure =>
      exact dec_nat (by omega)
   · -- g1F
    first | with_reducible (replace hb2 := nb_nf hb2) | with_reducible (replace hb2 := nb_tf hb2) | with_reducible (replace hb2 := nb_bf hb2) | skip
    have hpk : (fun i => m.testBit i && usedAt cs i) k = false := by show (m.testBit k && usedAt cs k) = false; rw [← hasB_nat, hb2]; rfl
    refine S_off rfl rfl ?_
    refine S_off rfl rfl ?_
    refine S_off rfl rfl ?_
    refine S_off rfl rfl ?_
    refine S_off rfl rfl ?_
    refine S_off rfl rfl ?_
    refine S_off rfl rfl ?_
    refine S_off rfl rfl ?_
    refine S_val (Y_pickF rfl rfl) ?_
    refine S_nl rfl rfl ?_
    refine th_n (hK9 _ _ ?_)
    clear hK9 K9
    refine S_ifF rfl ?_
    refine wp_skip ?_
    refine ib_n ?_
    refine th_n (hK7 _ _ ?_)
    clear hK7 K7
    refine Sb 39 rfl ?_  -- 8
    refine S_val (Y_inc rfl rfl (by omega)) ?_
    refine S_val (Y_move rfl) ?_
    refine S_nl rfl rfl ?_
    refine th_n ?_
    go_roundw  -- e3 of L1
    case rel =>
     refine ⟨?_, GL1⟩
     first | exact ⟨k + 1, rs1, rfl, by rw [cntP_no hpk], by omega, O.cast (dropK_no hpk).symm, hsub.cast (dropK_no hpk).symm⟩ | exact ⟨k + 1, _, rfl, by rw [cntP_yes hpk], by omega, ⟨by rw [← dropK_yes hk1 hpk]; exact OR, fun _ => ⟨gq, post, rfl, hpq, Blk.eq Bq (by rw [← dropK_yes hk1 hpk]; exact flat_put (cs := dropK cs (fun i => m.testBit i && usedAt cs i) k) (rs := rs1) (c := emptyC) (r := (none, 0)) (by rw [dropK_len]; exact hlr) (by rw [dropK_len]; exact hk1))⟩⟩, (hsub.free k emptyC rfl (none, 0)).cast (dropK_yes hk1 hpk)⟩
    case measure =>
     exact dec_nat (by omega)
  · -- c1F
   replace hb1 := nb_tf hb1
   refine wp_exit ?_
   refine th_x ?_
   try clear GL1
   refine th_x ?_
   refine ib_e ?_
   refine th_n (hK3 _ _ ?_)
   clear hK6 K6 hK3 K3
   refine wp_seq_k fun K11 hK11 => ?_
   refine Sb 39 rfl ?_  -- 9
   refine S_val (Y_move rfl) ?_
   refine S_val (Y_assign rfl) ?_
   refine S_nl rfl rfl ?_
   refine th_n (hK11 _ _ ?_)
   clear hK11 K11
   refine wp_ret ?_
   refine ret_r1 rfl rfl ?_  -- r1
   rw [dropK_all (by omega)] at O hsub
   have hkN : k = cs.length := by omega
   subst hkN
   exact ⟨_, rfl, O, hsub, G⟩
set_option maxHeartbeats 400000 in
set_option maxRecDepth 20000 in
theorem impl_refersOutside_c (Pr : Nat → Prop) (A B : Option Addr) (h : LH) (c d m : Nat) (w : World) (hA : RC Pr w A h.cells) (hB : R1 Pr w B (ints h.roots)) (hz : hsize h ≤ 1048576) (hm : m < 2 ^ 64) (h64 : h.cells.length ≤ 64) :
    Calls Try.prog 93 #[.agg #[.slice A h.cells.length c, .slice B h.roots.length d], .int .u64 (m : Int)] w (Ret fun v w' => v = .bool (outB h (fun i => m.testBit i)) ∧ Grow w w') := by
 have hz1 := hsize_cells h
 have hz2 := hsize_roots h
 have hne : (63 : TypeId) ≠ 3 := by decide
 have hAl := hA.below
 have hBl := hB.below
 have hll := keptL_len h.cells (fun i => m.testBit i) h.cells.length
 refine enter Try.func93 rfl Try.ntmps93 (L := [_,_,_,_,_,_,_,_,_,_,_,_,_,_,_,_,_,_,_,_,_,_,_,_,_,_,_,_,_,_,_,_,_,_,_,_,_,_,_,_,_,_,_,_,_,_,_,_,_,_,_,_,_,_]) rfl ?_
 have G := Mod.refl No w
 have hAl0 := hAl
 have hBl0 := hBl
 refine wp_seq_k fun K1 hK1 => ?_
 refine Sb 54 rfl ?_  -- 0
 refine S_box (cs := [_, _]) rfl rfl ?_
 intro b1 w1 fb1 g1 B1
 have lb1 := B1.lt
 replace hAl := hAl.grow g1
 replace hBl := hBl.grow g1
 replace G := G.grow g1
 have zg1 := g1.size
 refine S_val (Y_assign rfl) ?_
 refine S_nl rfl rfl ?_
 refine th_n (hK1 _ _ ?_)
 clear hK1 K1
 refine wp_seq_k fun K2 hK2 => ?_
 refine Sb 54 rfl ?_  -- 1
 refine S_val (Y_loadS Try.underlying32 rfl sz32 rfl (B1.row (by rfl))) ?_  -- l1
 refine S_call rfl en77 (impl_usedSet_c _ _ _ _ _ _ _ (by assumption) (by omega)) ?_  -- k1 impl.usedSet
 rintro v2 w2 ⟨s2, rfl, hs2, g2⟩
 replace hAl := hAl.grow g2
 replace hBl := hBl.grow g2
 replace G := G.grow g2
 replace B1 := B1.grow g2
 have zg2 := g2.size
 obtain ⟨u0, rfl⟩ : ∃ x, x = s2 := ⟨_, rfl⟩
 have hU := hs2
 refine S_val (Y_move rfl) ?_
 refine S_val (Y_andNot rfl rfl hU.1 hm) ?_
 refine S_val (Y_assign rfl) ?_
 refine S_nl rfl rfl ?_
 refine th_n (hK2 _ _ ?_)
 clear hK2 K2
 refine wp_seq_k fun K3 hK3 => ?_
 refine Sb 54 rfl ?_  -- 2
 refine S_val (Y_field Try.underlying32 rfl fz32_1 (by decide) rfl) ?_
 refine S_val (Y_load Try.underlying23 rfl rfl (B1.at (by rfl))) ?_  -- l2
 refine S_bs1 (cs := [_]) Try.underlying128 zr23 sz23 rfl rfl rfl ?_
 intro b3 w3 fb3 g3 B3
 have lb3 := B3.lt
 replace hAl := hAl.grow g3
 replace hBl := hBl.grow g3
 replace G := G.grow g3
 replace B1 := B1.grow g3
 have zg3 := g3.size
 refine S_val (Y_assign rfl) ?_
 refine S_nl rfl rfl ?_
 refine th_n (hK3 _ _ ?_)
 clear hK3 K3
 refine wp_seq_k fun K4 hK4 => ?_
 refine wp_seq_k fun K5 hK5 => ?_
 refine Sb 54 rfl ?_  -- 3
 refine S_val (Y_field Try.underlying32 rfl fz32_0 (by decide) rfl) ?_
 refine S_val (Y_load Try.underlying30 rfl rfl (B1.at (by rfl))) ?_  -- l3
 refine S_val (Y_len Try.underlying30 rfl) ?_
 refine S_val (Y_move rfl) ?_
 refine S_nl rfl rfl ?_
 refine th_n (hK5 _ _ ?_)
 clear hK5 K5
 refine wp_block ?_
 obtain ⟨wz, hwz⟩ : ∃ x, x = w3.heap.size := ⟨_, rfl⟩
 have RS : RSs (fun i => i < w.heap.size) w3 [h.roots] [(B, d)] := RSs.one hBl
 have O1 : OW (fun i => i = b3 ∨ wz ≤ i) w3 23 1 (some ⟨b3, 0, none⟩) 1 1 (slv [h.roots] [(B, d)]) := OW.of_blk B3 rfl (by decide) (.inl rfl)
 go_loopw [6, 23] (fun u6 u23 wr => (∃ (k q cap : Nat) (A1 : Option Addr) (rs : List (Option Addr × Nat)), u23 = .int .i64 k ∧ u6 = .slice A1 q cap ∧ k ≤ h.cells.length ∧ q = (h.roots :: keptL h.cells (fun i => m.testBit i) k).length ∧ OW (fun i => i = b3 ∨ wz ≤ i) wr 23 1 A1 q cap (slv (h.roots :: keptL h.cells (fun i => m.testBit i) k) rs) ∧ RSs (fun i => i < w.heap.size) wr (h.roots :: keptL h.cells (fun i => m.testBit i) k) rs) ∧ Mod (fun i => i = b3 ∨ wz ≤ i) w3 wr) (fun u6 u23 wr => h.cells.length - (intOf u23).toNat)  -- L1
 case atStart =>
  refine ⟨?_, Mod.refl _ _⟩
  exact ⟨0, 1, 1, _, _, rfl, rfl, by omega, rfl, O1, RS⟩
 case round =>
  obtain ⟨w4, rfl⟩ : ∃ x : World, x = wr := ⟨_, rfl⟩
  obtain ⟨hrel, g4⟩ := hrel
  clear O1
  clear RS
  replace G := G.abv g4
  replace hAl := hAl0.grow G
  replace hBl := hBl0.grow G
  replace B1 := B1.md g4
  have zg4 := g4.size
  obtain ⟨k, q1, cap1, A1, rs, rfl, rfl, hk, hq1, O1, RS⟩ := hrel
  have hkl := keptL_len h.cells (fun i => m.testBit i) k
  rw [List.length_cons] at hq1
  have GL4 := g4
  refine wp_seq_k fun K6 hK6 => ?_
  refine Sb 54 rfl ?_  -- 4
  refine S_val (Y_lss rfl rfl) ?_
  refine S_nl rfl rfl ?_
  refine th_n (hK6 _ _ ?_)
  clear hK6 K6
  refine wp_seq_k fun K7 hK7 => ?_
  refine S_if rfl (fun hb1 => ?_) (fun hb1 => ?_)  -- c1
  · -- c1T
   replace hb1 := nb_tt hb1
   have hk1 : k < h.cells.length := by omega
   obtain ⟨g2, o2, E2, d2, rfl, hp2, cc20, hE20⟩ := hAl0.cell hk1
   have cc2 := cc20.grow G
   have hE2 := hE20.grow G
   replace O1 := O1.lt
   refine wp_skip ?_
   refine th_n (hK7 _ _ ?_)
   clear hK7 K7
   refine wp_seq_k fun K8 hK8 => ?_
   refine wp_block ?_
   refine wp_seq_k fun K9 hK9 => ?_
   refine Sb 54 rfl ?_  -- 5
   refine S_val (Y_move rfl) ?_
   refine S_val (Y_index Try.underlying30 sz63 rfl rfl (by first | assumption | omega)) ?_
   refine S_val (Y_loadS Try.underlying63 rfl sz63 rfl (by first | assumption | exact B1.row (by rfl))) ?_  -- l4
   refine S_alloc (cs := [_, _, _]) zr63 rfl ?_
   intro b5 w5 fb5 g5 B5
   have lb5 := B5.lt
   replace hAl := hAl.grow g5
   replace hBl := hBl.grow g5
   replace cc2 := cc2.grow g5
   replace hE2 := hE2.grow g5
   replace O1 := O1.grow g5
   replace RS := RS.grow g5
   replace G := G.grow g5
   replace GL4 := GL4.grow g5
   replace B1 := B1.grow g5
   have zg5 := g5.size
   refine S_val (Y_assign rfl) ?_
   refine S_stM (pre := []) (old := [_, _, _]) (post := []) (vs := [_, _, _]) sz63 rfl rfl rfl (by first | rfl | assumption) B5 rfl rfl ?_
   intro w6 m6 X6
   replace B5 := Blk.eq (ys := [_, _, _]) X6 rfl
   clear X6
   replace G := G.abv m6
   first | replace GL4 := GL4.abv m6 | clear GL4
   replace hAl := hAl0.grow G
   replace hBl := hBl0.grow G
   replace cc2 := cc20.grow G
   replace hE2 := hE20.grow G
   replace O1 := O1.md m6
   replace RS := RS.md m6
   replace B1 := B1.md m6
   have zm6 := m6.size
   refine S_nl rfl rfl ?_
   refine th_n (hK9 _ _ ?_)
   clear hK9 K9
   refine wp_seq_k fun K10 hK10 => ?_
   refine Sb 54 rfl ?_  -- 6
   refine S_val (Y_move rfl) ?_
   refine S_val (Y_move rfl) ?_
   refine S_call rfl en58 (impl_cellSet_has_c _ _ _ (by assumption)) ?_  -- k2 (impl.cellSet).has
   rintro v w' ⟨rfl, rfl⟩
   refine S_nl rfl rfl ?_
   refine th_n (hK10 _ _ ?_)
   clear hK10 K10
   refine S_if rfl (fun hb2 => ?_) (fun hb2 => ?_)  -- c2
   · -- c2T
    first | with_reducible (replace hb2 := nb_nt hb2) | with_reducible (replace hb2 := nb_tt hb2) | with_reducible (replace hb2 := nb_bt hb2) | skip
    refine Sb 54 rfl ?_  -- 7
    refine S_val (Y_move rfl) ?_
    refine S_val (Y_field Try.underlying63 rfl fz63_2 (by decide) rfl) ?_
    refine S_val (Y_load Try.underlying23 rfl rfl (B5.at (by rfl))) ?_  -- l5
    refine S_bs1 (cs := [_]) Try.underlying128 zr23 sz23 rfl rfl rfl ?_
    intro b8 w8 fb8 g8 B8
    have lb8 := B8.lt
    replace hAl := hAl.grow g8
    replace hBl := hBl.grow g8
    replace cc2 := cc2.grow g8
    replace hE2 := hE2.grow g8
    replace O1 := O1.grow g8
    replace RS := RS.grow g8
    replace G := G.grow g8
    replace GL4 := GL4.grow g8
    replace B1 := B1.grow g8
    replace B5 := B5.grow g8
    have zg8 := g8.size
    refine S_app Try.underlying128 zr23 sz23 by23 rfl rfl O1 rfl (Src.blk B8) (by simp [Value.oneCell']) (by omega) (Pr' := fun i => i = b3 ∨ wz ≤ i) (fun i hi => hi.1) (by omega) ?_
    intro A9 cap9 w9 X9 m9
    replace O1 := X9
    clear X9
    replace G := G.abv m9
    replace GL4 := GL4.trn m9
    replace hAl := hAl0.grow G
    replace hBl := hBl0.grow G
    replace cc2 := cc20.grow G
    replace hE2 := hE20.grow G
    replace RS := RS.md m9
    replace B1 := B1.md m9
    replace B5 := B5.md m9
    have zm9 := m9.size
    have hks := keptL_yes (cs := h.cells) (k := k) (s := (fun i => m.testBit i)) (by show m.testBit k = true; rw [← hasB_nat]; exact hb2)
    rw [refsOf_at hk1] at hks
    have RS2 := RS.snoc (c := d2) hE2
    refine S_val (Y_assign rfl) ?_
    refine S_nl rfl rfl ?_
    refine ib_n ?_
    refine th_n (hK8 _ _ ?_)
    clear hK8 K8
    refine Sb 54 rfl ?_  -- 8
    refine S_val (Y_inc rfl rfl (by omega)) ?_
    refine S_val (Y_move rfl) ?_
    refine S_nl rfl rfl ?_
    refine th_n ?_
    go_roundw  -- e1 of L1
    case rel =>
     refine ⟨?_, GL4⟩
     refine ⟨k + 1, _, _, _, rs ++ [(E2, d2)], rfl, rfl, by omega, ?_, ?_, ?_⟩
     · rw [hks, List.length_cons, List.length_append]; simp; omega
     · rw [hks, ← List.cons_append, ← slv_snoc RS.len]; exact O1
     · rw [hks, ← List.cons_append]; exact RS2
    case measure =>
     exact dec_nat (by omega)
   · -- c2F
    first | with_reducible (replace hb2 := nb_nf hb2) | with_reducible (replace hb2 := nb_tf hb2) | with_reducible (replace hb2 := nb_bf hb2) | skip
    refine wp_skip ?_
    refine ib_n ?_
    refine th_n (hK8 _ _ ?_)
    clear hK8 K8
    refine Sb 54 rfl ?_  -- 8
    refine S_val (Y_inc rfl rfl (by omega)) ?_
    refine S_val (Y_move rfl) ?_
    refine S_nl rfl rfl ?_
    refine th_n ?_
    go_roundw  -- e2 of L1
    case rel =>
     refine ⟨?_, GL4⟩
     have hks := keptL_no (cs := h.cells) (k := k) (s := (fun i => m.testBit i)) (by show m.testBit k = false; rw [← hasB_nat]; exact hb2)
     exact ⟨k + 1, _, _, _, rs, rfl, rfl, by omega, by rw [hks, List.length_cons]; omega, by rw [hks]; exact O1.weak (fun i hi => hi.1), by rw [hks]; exact RS⟩
    case measure =>
     exact dec_nat (by omega)
  · -- c1F
   replace hb1 := nb_tf hb1
   have hkN : k = h.cells.length := by omega
   rw [hkN] at hq1 O1 RS
   have hql : q1 = (allL h (fun i => m.testBit i)).length := hq1
   have hnl := keptL_len h.cells (fun i => m.testBit i) h.cells.length
   refine wp_exit ?_
   refine th_x ?_
   try clear GL4
   refine th_x ?_
   refine ib_e ?_
   refine th_n (hK4 _ _ ?_)
   clear hK7 K7 hK4 K4
   refine wp_seq_k fun K11 hK11 => ?_
   refine wp_seq_k fun K12 hK12 => ?_
   refine Sb 54 rfl ?_  -- 9
   refine S_val (Y_move rfl) ?_
   refine S_val (Y_len Try.underlying128 rfl) ?_
   refine S_val (Y_move rfl) ?_
   refine S_nl rfl rfl ?_
   refine th_n (hK12 _ _ ?_)
   clear hK12 K12
   refine wp_block ?_
   go_loopw [39] (fun u39 wr => (∃ k : Nat, u39 = .int .i64 k ∧ k ≤ q1 ∧ outL h.cells (fun i => m.testBit i) ((allL h (fun i => m.testBit i)).take k) = false) ∧ Mod No w4 wr) (fun u39 wr => q1 - (intOf u39).toNat)  -- L2
   case atStart =>
    refine ⟨?_, Mod.refl _ _⟩
    exact ⟨0, rfl, by omega, rfl⟩
   case round =>
    obtain ⟨w10, rfl⟩ : ∃ x : World, x = wr := ⟨_, rfl⟩
    obtain ⟨hrel, g10⟩ := hrel
    replace hAl := hAl.grow g10
    replace hBl := hBl.grow g10
    replace O1 := O1.grow g10
    replace RS := RS.grow g10
    replace G := G.grow g10
    replace B1 := B1.grow g10
    have zg10 := g10.size
    obtain ⟨j, rfl, hj, hno⟩ := hrel
    have GL10 := g10
    refine wp_seq_k fun K13 hK13 => ?_
    refine Sb 54 rfl ?_  -- 10
    refine S_val (Y_lss rfl rfl) ?_
    refine S_nl rfl rfl ?_
    refine th_n (hK13 _ _ ?_)
    clear hK13 K13
    refine wp_seq_k fun K14 hK14 => ?_
    refine S_if rfl (fun hb2 => ?_) (fun hb2 => ?_)  -- c3
    · -- c3T
     replace hb2 := nb_tt hb2
     have hj1 : j < (allL h (fun i => m.testBit i)).length := by omega
     obtain ⟨xs, hxs⟩ : ∃ xs, (allL h (fun i => m.testBit i))[j]? = some xs := ⟨_, List.getElem?_eq_getElem hj1⟩
     obtain ⟨⟨AX, cX⟩, hrr⟩ : ∃ r, rs[j]? = some r := ⟨_, List.getElem?_eq_getElem (by rw [RS.len]; exact hj1)⟩
     have hX : R1 (fun i => i < w.heap.size) w10 AX (ints xs) := RS.r1 j xs _ hxs hrr
     obtain ⟨g3, o3, rfl, hp3, hc3⟩ := O1.r1 j _ (slv_get hxs hrr)
     replace hc3 : w10.cell? ⟨g3, o3 + j * 1, none⟩ = some (.slice AX xs.length cX) := hc3
     have hxl : xs.length ≤ 1048576 := by
       rcases List.mem_cons.1 (List.mem_of_getElem? hxs) with e | e
       · rw [e]; omega
       · obtain ⟨i, hi, _, e⟩ := keptL_mem.1 e
         rw [e, refsOf_at hi]; have := hsize_refs h hi; omega
     refine wp_skip ?_
     refine th_n (hK14 _ _ ?_)
     clear hK14 K14
     refine wp_seq_k fun K15 hK15 => ?_
     refine wp_block ?_
     refine wp_seq_k fun K16 hK16 => ?_
     refine Sb 54 rfl ?_  -- 11
     refine S_val (Y_index Try.underlying128 sz23 rfl rfl (by first | assumption | omega)) ?_
     refine S_val (Y_load Try.underlying23 rfl rfl (by first | assumption | exact B1.at (by rfl))) ?_  -- l6
     refine S_val (Y_assign rfl) ?_
     refine S_nl rfl rfl ?_
     refine th_n (hK16 _ _ ?_)
     clear hK16 K16
     refine wp_seq_k fun K17 hK17 => ?_
     refine Sb 54 rfl ?_  -- 12
     refine S_val (Y_move rfl) ?_
     refine S_val (Y_len Try.underlying23 rfl) ?_
     refine S_val (Y_move rfl) ?_
     refine S_nl rfl rfl ?_
     refine th_n (hK17 _ _ ?_)
     clear hK17 K17
     refine wp_block ?_
     go_loopw [45] (fun u45 wr => (∃ k : Nat, u45 = .int .i64 k ∧ k ≤ xs.length ∧ (xs.take k).any (outR h.cells (fun i => m.testBit i)) = false) ∧ Mod No w10 wr) (fun u45 wr => xs.length - (intOf u45).toNat)  -- L3
     case atStart =>
      refine ⟨?_, Mod.refl _ _⟩
      exact ⟨0, rfl, by omega, rfl⟩
     case round =>
      obtain ⟨w11, rfl⟩ : ∃ x : World, x = wr := ⟨_, rfl⟩
      obtain ⟨hrel, g11⟩ := hrel
      replace hAl := hAl.grow g11
      replace hBl := hBl.grow g11
      replace O1 := O1.grow g11
      replace RS := RS.grow g11
      replace hX := hX.grow g11
      replace G := G.grow g11
      replace GL10 := GL10.grow g11
      replace B1 := B1.grow g11
      have zg11 := g11.size
      obtain ⟨i, rfl, hi, hnx⟩ := hrel
      have GL11 := g11
      refine wp_seq_k fun K18 hK18 => ?_
      refine Sb 54 rfl ?_  -- 13
      refine S_val (Y_lss rfl rfl) ?_
      refine S_nl rfl rfl ?_
      refine th_n (hK18 _ _ ?_)
      clear hK18 K18
      refine wp_seq_k fun K19 hK19 => ?_
      refine S_if rfl (fun hb3 => ?_) (fun hb3 => ?_)  -- c4
      · -- c4T
       replace hb3 := nb_tt hb3
       have hi1 : i < xs.length := by omega
       obtain ⟨g4, o4, rfl, hp4, hc4⟩ := hX.int hi1
       have hor : outR h.cells (fun i => m.testBit i) xs[i] = hasB (lessN u0 m) xs[i] := out_has hU hm _
       refine wp_skip ?_
       refine th_n (hK19 _ _ ?_)
       clear hK19 K19
       refine wp_seq_k fun K20 hK20 => ?_
       refine wp_block ?_
       refine wp_seq_k fun K21 hK21 => ?_
       refine Sb 54 rfl ?_  -- 14
       refine S_val (Y_index Try.underlying23 sz3 rfl rfl (by first | assumption | omega)) ?_
       refine S_val (Y_load Try.underlying3 rfl rfl (by first | assumption | exact B1.at (by rfl))) ?_  -- l7
       refine S_val (Y_assign rfl) ?_
       refine S_nl rfl rfl ?_
       refine th_n (hK21 _ _ ?_)
       clear hK21 K21
       refine wp_seq_k fun K22 hK22 => ?_
       refine Sb 54 rfl ?_  -- 15
       refine S_val (Y_move rfl) ?_
       refine S_val (Y_move rfl) ?_
       refine S_call rfl en58 (impl_cellSet_has_c _ _ _ (lessN_lt hU.1)) ?_  -- k3 (impl.cellSet).has
       rintro v w' ⟨rfl, rfl⟩
       refine S_nl rfl rfl ?_
       refine th_n (hK22 _ _ ?_)
       clear hK22 K22
       refine S_if rfl (fun hb4 => ?_) (fun hb4 => ?_)  -- c5
       · -- c5T
        first | with_reducible (replace hb4 := nb_nt hb4) | with_reducible (replace hb4 := nb_tt hb4) | with_reducible (replace hb4 := nb_bt hb4) | skip
        refine wp_seq_k fun K23 hK23 => ?_
        refine Sb 54 rfl ?_  -- 16
        refine S_val (Y_assign rfl) ?_
        refine S_nl rfl rfl ?_
        refine th_n (hK23 _ _ ?_)
        clear hK23 K23
        refine wp_ret ?_
        refine ib_r ?_
        refine th_r ?_
        try clear GL11
        refine th_r ?_
        refine ib_r ?_
        refine ib_r ?_
        refine th_r ?_
        try clear GL10
        refine th_r ?_
        refine ib_r ?_
        refine th_r ?_
        clear hK20 K20 hK15 K15 hK11 K11
        refine ret_r1 rfl rfl ?_  -- r1
        exact ⟨by rw [show outB h (fun i => m.testBit i) = true from out_hit hxs hi1 (hor.trans hb4)], G⟩
       · -- c5F
        first | with_reducible (replace hb4 := nb_nf hb4) | with_reducible (replace hb4 := nb_tf hb4) | with_reducible (replace hb4 := nb_bf hb4) | skip
        refine wp_skip ?_
        refine ib_n ?_
        refine th_n (hK20 _ _ ?_)
        clear hK20 K20
        refine Sb 54 rfl ?_  -- 17
        refine S_val (Y_inc rfl rfl (by omega)) ?_
        refine S_val (Y_move rfl) ?_
        refine S_nl rfl rfl ?_
        refine th_n ?_
        go_roundw  -- e3 of L3
        case rel =>
         refine ⟨?_, GL11⟩
         exact ⟨i + 1, rfl, by omega, any_take (List.getElem?_eq_getElem hi1) hnx (hor.trans hb4)⟩
        case measure =>
         exact dec_nat (by omega)
      · -- c4F
       replace hb3 := nb_tf hb3
       refine wp_exit ?_
       refine th_x ?_
       try clear GL11
       refine th_x ?_
       refine ib_e ?_
       refine ib_n ?_
       refine th_n (hK15 _ _ ?_)
       clear hK19 K19 hK15 K15
       refine Sb 54 rfl ?_  -- 18
       refine S_val (Y_inc rfl rfl (by omega)) ?_
       refine S_val (Y_move rfl) ?_
       refine S_nl rfl rfl ?_
       refine th_n ?_
       go_roundw  -- e4 of L2
       case rel =>
        refine ⟨?_, GL10⟩
        rw [List.take_of_length_le (by omega)] at hnx
        exact ⟨j + 1, rfl, by omega, any_take hxs hno hnx⟩
       case measure =>
        exact dec_nat (by omega)
    · -- c3F
     replace hb2 := nb_tf hb2
     refine wp_exit ?_
     refine th_x ?_
     try clear GL10
     refine th_x ?_
     refine ib_e ?_
     refine th_n (hK11 _ _ ?_)
     clear hK14 K14 hK11 K11
     refine wp_seq_k fun K24 hK24 => ?_
     refine Sb 54 rfl ?_  -- 19
     refine S_val (Y_assign rfl) ?_
     refine S_nl rfl rfl ?_
     refine th_n (hK24 _ _ ?_)
     clear hK24 K24
     refine wp_ret ?_
     refine ret_r1 rfl rfl ?_  -- r2
     rw [List.take_of_length_le (by omega)] at hno
     exact ⟨by rw [show outB h (fun i => m.testBit i) = false from hno], G⟩
set_option maxHeartbeats 400000 in
set_option maxRecDepth 20000 in
theorem impl_SweepCells_c (Pr P2 : Nat → Prop) (A B C : Option Addr) (h : LH) (ms : List Bool) (c d e : Nat) (w : World) (hA : RC Pr w A h.cells) (hB : R1 Pr w B (ints h.roots)) (hC : R1 P2 w C (bools ms)) (hz : hsize h ≤ 1048576) (hmz : ms.length ≤ 1048576) :
    Calls Try.prog 39 #[.agg #[.slice A h.cells.length c, .slice B h.roots.length d], .slice C ms.length e] w (Ret fun v w' => ∃ A1 B1 n1 c1 n2 c2 rs, v = .tuple #[.agg #[.slice A1 n1 c1, .slice B1 n2 c2], .int .i64 (sweepV h ms).2] ∧ n1 = (sweepV h ms).1.cells.length ∧ n2 = (sweepV h ms).1.roots.length ∧ OH (fun i => w.heap.size ≤ i) w' 63 3 A1 B1 (sweepV h ms).1 rs ∧ Grow w w') := by
 have hz1 := hsize_cells h
 have hz2 := hsize_roots h
 have hne : (63 : TypeId) ≠ 3 := by decide
 refine enter Try.func39 rfl Try.ntmps39 (L := [_,_,_,_,_,_,_,_,_,_,_,_,_,_,_,_,_,_,_,_,_,_,_,_,_,_,_,_,_,_,_,_,_,_,_,_]) rfl ?_
 have G := Mod.refl No w
 have hA0 := hA
 have hB0 := hB
 have hC0 := hC
 refine wp_seq_k fun K1 hK1 => ?_
 refine Sb 36 rfl ?_  -- 0
 refine S_box (cs := [_, _]) rfl rfl ?_
 intro b1 w1 fb1 g1 B1
 have lb1 := B1.lt
 replace hA := hA.grow g1
 replace hB := hB.grow g1
 replace hC := hC.grow g1
 replace G := G.grow g1
 have zg1 := g1.size
 refine S_alloc (cs := [_, _]) zr32 rfl ?_
 intro b2 w2 fb2 g2 B2
 have lb2 := B2.lt
 replace hA := hA.grow g2
 replace hB := hB.grow g2
 replace hC := hC.grow g2
 replace G := G.grow g2
 replace B1 := B1.grow g2
 have zg2 := g2.size
 refine S_val (Y_assign rfl) ?_
 refine S_nl rfl rfl ?_
 refine th_n (hK1 _ _ ?_)
 clear hK1 K1
 refine wp_seq_k fun K2 hK2 => ?_
 refine wp_seq_k fun K3 hK3 => ?_
 refine D_start 17 36 (fun w => Mod (No) w) follows rfl rfl ?_  -- d1 r1
 intro w3 g3
 replace hA := hA.grow g3
 replace hB := hB.grow g3
 replace hC := hC.grow g3
 replace G := G.grow g3
 replace B1 := B1.grow g3
 replace B2 := B2.grow g3
 have zg3 := g3.size
 have GS3 := Mod.refl (No) w3
 have B1d3 := B1
 refine Dq (i := 0) rfl GS3 (fun _ hs => Y_loadS Try.underlying32 rfl sz32 rfl (by first | exact hs.cells0 (B1.row (by rfl)))) ?_
 refine D_1 (i := 1) (by kernel_rfl) ?_
 refine E_call rfl rfl en41 (impl_HeapValid_c _ _ _ _ _ _ _ (by assumption) (by assumption) (by omega)) ?_  -- k1 impl.HeapValid
 rintro v4 w4 ⟨rfl, g4⟩
 replace hA := hA.grow g4
 replace hB := hB.grow g4
 replace hC := hC.grow g4
 replace G := G.grow g4
 replace GS3 := GS3.grow g4
 replace B1 := B1.grow g4
 replace B2 := B2.grow g4
 have zg4 := g4.size
 refine ⟨GS3, ?_⟩
 refine Dq (i := 2) rfl GS3 (fun _ _ => Y_not rfl) ?_
 refine Dq (i := 3) rfl GS3 (fun _ _ => Y_move rfl) ?_
 refine D_g 11 rfl (fun hb1 => ?_) (fun hb1 => ?_)  -- g1
 · -- g1T
  first | with_reducible (replace hb1 := nb_nt hb1) | with_reducible (replace hb1 := nb_tt hb1) | with_reducible (replace hb1 := nb_bt hb1) | skip
  refine Dqoff (i := 4) rfl rfl rfl GS3 ?_
  refine Dqoff (i := 5) rfl rfl rfl GS3 ?_
  refine Dqoff (i := 6) rfl rfl rfl GS3 ?_
  refine Dqoff (i := 7) rfl rfl rfl GS3 ?_
  refine Dqoff (i := 8) rfl rfl rfl GS3 ?_
  refine Dqoff (i := 9) rfl rfl rfl GS3 ?_
  refine Dq (i := 10) rfl GS3 (fun _ _ => Y_pickT rfl rfl) ?_
  refine Dq (i := 11) rfl GS3 (fun _ _ => Y_move rfl) ?_
  refine Dqoff (i := 12) rfl rfl rfl GS3 ?_
  refine Dqoff (i := 13) rfl rfl rfl GS3 ?_
  refine Dqoff (i := 14) rfl rfl rfl GS3 ?_
  refine Dqoff (i := 15) rfl rfl rfl GS3 ?_
  refine Dq (i := 16) rfl GS3 (fun _ _ => Y_pickT rfl rfl) ?_
  refine D_en (by kernel_rfl) rfl rfl ?_
  refine th_n (hK3 _ _ ?_)
  clear hK3 K3
  refine S_ifT rfl ?_
  refine wp_seq_k fun K4 hK4 => ?_
  refine Sb 36 rfl ?_  -- 2
  refine S_val (Y_build (cs := [_, _]) zr32 pc32 rfl rfl) ?_
  refine S_stM (pre := []) (old := [_, _]) (post := []) (vs := [_, _]) sz32 rfl rfl rfl (by first | rfl | assumption) B2 rfl rfl ?_
  intro w5 m5 X5
  replace B2 := Blk.eq (ys := [_, _]) X5 rfl
  clear X5
  replace G := G.abv m5
  replace hA := hA0.grow G
  replace hB := hB0.grow G
  replace hC := hC0.grow G
  replace B1 := B1.md m5
  have zm5 := m5.size
  refine S_val (Y_assign rfl) ?_
  refine S_nl rfl rfl ?_
  refine th_n (hK4 _ _ ?_)
  clear hK4 K4
  refine wp_ret ?_
  refine th_r ?_
  clear hK2 K2
  refine ret_rct (cs := [_, _]) Try.underlying32 rfl sz32 rfl rfl rfl (B2.row (by rfl)) ?_  -- r1
  have hsv := sweepV_f1 (ms := ms) hb1
  exact ⟨_, _, _, _, _, _, [], by rw [hsv], by rw [hsv]; rfl, by rw [hsv]; rfl, by rw [hsv]; exact OH.nil _ _ _ _ _ _, G⟩
 · -- g1F
  first | with_reducible (replace hb1 := nb_nf hb1) | with_reducible (replace hb1 := nb_tf hb1) | with_reducible (replace hb1 := nb_bf hb1) | skip
  have va := valid_iff.1 hb1
  have hl := va.leads
  have h40 := va.le
  have hr4 := va.roots4
  refine Dqon (i := 4) rfl rfl rfl GS3 (fun _ _ => Y_move rfl) ?_
  refine Dqon (i := 5) rfl rfl rfl GS3 (fun _ _ => Y_len Try.underlying27 rfl) ?_
  refine Dqon (i := 6) rfl rfl rfl GS3 (fun _ _ => Y_field Try.underlying32 rfl fz32_0 (by decide) rfl) ?_
  refine Dqon (i := 7) rfl rfl rfl GS3 (fun _ hs => Y_load Try.underlying30 rfl rfl (by first | exact hs.cell0 (B1.at (by rfl)) | exact hs.cell0 (B1d3.at (by rfl)))) ?_
  refine Dqon (i := 8) rfl rfl rfl GS3 (fun _ _ => Y_len Try.underlying30 rfl) ?_
  refine Dqon (i := 9) rfl rfl rfl GS3 (fun _ _ => Y_neq rfl rfl) ?_
  refine Dq (i := 10) rfl GS3 (fun _ _ => Y_pickF rfl rfl) ?_
  refine Dq (i := 11) rfl GS3 (fun _ _ => Y_move rfl) ?_
  refine D_g 19 rfl (fun hb2 => ?_) (fun hb2 => ?_)  -- g2
  · -- g2T
   first | with_reducible (replace hb2 := nb_nt hb2) | with_reducible (replace hb2 := nb_tt hb2) | with_reducible (replace hb2 := nb_bt hb2) | skip
   refine Dqoff (i := 12) rfl rfl rfl GS3 ?_
   refine Dqoff (i := 13) rfl rfl rfl GS3 ?_
   refine Dqoff (i := 14) rfl rfl rfl GS3 ?_
   refine Dqoff (i := 15) rfl rfl rfl GS3 ?_
   refine Dq (i := 16) rfl GS3 (fun _ _ => Y_pickT rfl rfl) ?_
   refine D_en (by kernel_rfl) rfl rfl ?_
   refine th_n (hK3 _ _ ?_)
   clear hK3 K3
   refine S_ifT rfl ?_
   refine wp_seq_k fun K5 hK5 => ?_
   refine Sb 36 rfl ?_  -- 2
   refine S_val (Y_build (cs := [_, _]) zr32 pc32 rfl rfl) ?_
   refine S_stM (pre := []) (old := [_, _]) (post := []) (vs := [_, _]) sz32 rfl rfl rfl (by first | rfl | assumption) B2 rfl rfl ?_
   intro w6 m6 X6
   replace B2 := Blk.eq (ys := [_, _]) X6 rfl
   clear X6
   replace G := G.abv m6
   replace hA := hA0.grow G
   replace hB := hB0.grow G
   replace hC := hC0.grow G
   replace B1 := B1.md m6
   have zm6 := m6.size
   refine S_val (Y_assign rfl) ?_
   refine S_nl rfl rfl ?_
   refine th_n (hK5 _ _ ?_)
   clear hK5 K5
   refine wp_ret ?_
   refine th_r ?_
   clear hK2 K2
   refine ret_rct (cs := [_, _]) Try.underlying32 rfl sz32 rfl rfl rfl (B2.row (by rfl)) ?_  -- r2
   have hsv := sweepV_f2 (h := h) (ms := ms) (by omega)
   exact ⟨_, _, _, _, _, _, [], by rw [hsv], by rw [hsv]; rfl, by rw [hsv]; rfl, by rw [hsv]; exact OH.nil _ _ _ _ _ _, G⟩
  · -- g2F
   first | with_reducible (replace hb2 := nb_nf hb2) | with_reducible (replace hb2 := nb_tf hb2) | with_reducible (replace hb2 := nb_bf hb2) | skip
   have hlen : ms.length = h.cells.length := by omega
   refine Dqon (i := 12) rfl rfl rfl GS3 (fun _ hs => Y_loadS Try.underlying32 rfl sz32 rfl (by first | exact hs.cells0 (B1.row (by rfl)) | exact hs.cells0 (B1d3.row (by rfl)))) ?_
   refine Dqon (i := 13) rfl rfl rfl GS3 (fun _ _ => Y_move rfl) ?_
   refine D_1 (i := 14) (by kernel_rfl) ?_
   refine E_calln rfl rfl rfl rfl en94 (impl_setOf_c _ _ _ _ _ (by assumption) (by omega)) ?_  -- k2 impl.setOf
   rintro v7 w7 ⟨s7, rfl, hs7, g7⟩
   replace hA := hA.grow g7
   replace hB := hB.grow g7
   replace hC := hC.grow g7
   replace G := G.grow g7
   replace GS3 := GS3.grow g7
   replace B1 := B1.grow g7
   replace B2 := B2.grow g7
   have zg7 := g7.size
   have hM1 := hs7
   refine ⟨GS3, ?_⟩
   refine D_1 (i := 15) (by kernel_rfl) ?_
   refine E_calln rfl rfl rfl rfl en93 (impl_refersOutside_c _ _ _ _ _ _ _ _ (by assumption) (by assumption) (by omega) hM1.1 (by omega)) ?_  -- k3 impl.refersOutside
   rintro v8 w8 ⟨rfl, g8⟩
   replace hA := hA.grow g8
   replace hB := hB.grow g8
   replace hC := hC.grow g8
   replace G := G.grow g8
   replace GS3 := GS3.grow g8
   replace B1 := B1.grow g8
   replace B2 := B2.grow g8
   have zg8 := g8.size
   refine ⟨GS3, ?_⟩
   refine Dq (i := 16) rfl GS3 (fun _ _ => Y_pickF rfl rfl) ?_
   refine D_en (by kernel_rfl) rfl rfl ?_
   refine th_n (hK3 _ _ ?_)
   clear hK3 K3
   refine S_if rfl (fun hb3 => ?_) (fun hb3 => ?_)  -- c1
   · -- c1T
    first | with_reducible (replace hb3 := nb_nt hb3) | with_reducible (replace hb3 := nb_tt hb3) | with_reducible (replace hb3 := nb_bt hb3) | skip
    have hsw : validB (dropH h (sweepP ms)) = !outB h (inB ms) := out_valid va (inB ms)
    rw [← set_in hM1, hb3] at hsw
    refine wp_seq_k fun K6 hK6 => ?_
    refine Sb 36 rfl ?_  -- 2
    refine S_val (Y_build (cs := [_, _]) zr32 pc32 rfl rfl) ?_
    refine S_stM (pre := []) (old := [_, _]) (post := []) (vs := [_, _]) sz32 rfl rfl rfl (by first | rfl | assumption) B2 rfl rfl ?_
    intro w9 m9 X9
    replace B2 := Blk.eq (ys := [_, _]) X9 rfl
    clear X9
    replace G := G.abv m9
    replace hA := hA0.grow G
    replace hB := hB0.grow G
    replace hC := hC0.grow G
    replace B1 := B1.md m9
    have zm9 := m9.size
    refine S_val (Y_assign rfl) ?_
    refine S_nl rfl rfl ?_
    refine th_n (hK6 _ _ ?_)
    clear hK6 K6
    refine wp_ret ?_
    refine th_r ?_
    clear hK2 K2
    refine ret_rct (cs := [_, _]) Try.underlying32 rfl sz32 rfl rfl rfl (B2.row (by rfl)) ?_  -- r3
    have hsv := sweepV_f3 hsw
    exact ⟨_, _, _, _, _, _, [], by rw [hsv], by rw [hsv]; rfl, by rw [hsv]; rfl, by rw [hsv]; exact OH.nil _ _ _ _ _ _, G⟩
   · -- c1F
    first | with_reducible (replace hb3 := nb_nf hb3) | with_reducible (replace hb3 := nb_tf hb3) | with_reducible (replace hb3 := nb_bf hb3) | skip
    have hsw : validB (dropH h (sweepP ms)) = !outB h (inB ms) := out_valid va (inB ms)
    rw [← set_in hM1, hb3] at hsw
    refine wp_skip ?_
    refine th_n (hK2 _ _ ?_)
    clear hK2 K2
    refine wp_seq_k fun K7 hK7 => ?_
    refine Sb 36 rfl ?_  -- 3
    refine S_val (Y_loadS Try.underlying32 rfl sz32 rfl (B1.row (by rfl))) ?_  -- l4
    refine S_call rfl en82 (impl_copyHeap_c _ _ _ _ _ _ _ (by assumption) (by assumption) (by omega)) ?_  -- k4 impl.copyHeap
    rintro v10 w10 ⟨A10, B10, n110, c110, n210, c210, rs10, rfl, hn110, hn210, O10, g10⟩
    replace hA := hA.grow g10
    replace hB := hB.grow g10
    replace hC := hC.grow g10
    replace G := G.grow g10
    replace B1 := B1.grow g10
    replace B2 := B2.grow g10
    have zg10 := g10.size
    subst hn110
    subst hn210
    obtain ⟨AH, rfl⟩ : ∃ x, x = A10 := ⟨_, rfl⟩
    obtain ⟨BH, rfl⟩ : ∃ x, x = B10 := ⟨_, rfl⟩
    obtain ⟨cH, rfl⟩ : ∃ x, x = c110 := ⟨_, rfl⟩
    obtain ⟨dH, rfl⟩ : ∃ x, x = c210 := ⟨_, rfl⟩
    obtain ⟨rsH, rfl⟩ : ∃ x, x = rs10 := ⟨_, rfl⟩
    have OX := O10.lt
    refine S_alloc (cs := [_, _]) zr32 rfl ?_
    intro b11 w11 fb11 g11 B11
    have lb11 := B11.lt
    replace hA := hA.grow g11
    replace hB := hB.grow g11
    replace hC := hC.grow g11
    replace OX := OX.grow g11
    replace G := G.grow g11
    replace B1 := B1.grow g11
    replace B2 := B2.grow g11
    have zg11 := g11.size
    refine S_stM (pre := []) (old := [_, _]) (post := []) (vs := [_, _]) sz32 rfl rfl rfl (by first | rfl | assumption) B11 rfl rfl ?_
    intro w12 m12 X12
    replace B11 := Blk.eq (ys := [_, _]) X12 rfl
    clear X12
    replace G := G.abv m12
    replace hA := hA0.grow G
    replace hB := hB0.grow G
    replace hC := hC0.grow G
    replace OX := OX.md m12
    replace B1 := B1.md m12
    replace B2 := B2.md m12
    have zm12 := m12.size
    refine S_nl rfl rfl ?_
    refine th_n (hK7 _ _ ?_)
    clear hK7 K7
    refine wp_seq_k fun K8 hK8 => ?_
    refine Sb 36 rfl ?_  -- 4
    refine S_val (Y_loadS Try.underlying32 rfl sz32 rfl (B1.row (by rfl))) ?_  -- l5
    refine S_call rfl en77 (impl_usedSet_c _ _ _ _ _ _ _ (by assumption) (by omega)) ?_  -- k5 impl.usedSet
    rintro v13 w13 ⟨s13, rfl, hs13, g13⟩
    replace hA := hA.grow g13
    replace hB := hB.grow g13
    replace hC := hC.grow g13
    replace OX := OX.grow g13
    replace G := G.grow g13
    replace B1 := B1.grow g13
    replace B2 := B2.grow g13
    replace B11 := B11.grow g13
    have zg13 := g13.size
    obtain ⟨u0, rfl⟩ : ∃ x, x = s13 := ⟨_, rfl⟩
    have hU := hs13
    refine S_val (Y_move rfl) ?_
    refine S_call rfl en94 (impl_setOf_c _ _ _ _ _ (by assumption) (by omega)) ?_  -- k6 impl.setOf
    rintro v14 w14 ⟨s14, rfl, hs14, g14⟩
    replace hA := hA.grow g14
    replace hB := hB.grow g14
    replace hC := hC.grow g14
    replace OX := OX.grow g14
    replace G := G.grow g14
    replace B1 := B1.grow g14
    replace B2 := B2.grow g14
    replace B11 := B11.grow g14
    have zg14 := g14.size
    obtain ⟨m0, rfl⟩ : ∃ x, x = s14 := ⟨_, rfl⟩
    have hM := hs14
    refine S_val (Y_andNot rfl rfl hU.1 hM.1) ?_
    refine S_call rfl en83 (impl_freeCells_c _ b11 _ _ h.cells _ _ _ _ B11 (OX.split hne) (lessN_lt hU.1) (by omega) (fun hh => by have h2 := hh.1; dsimp only at h2; omega)) ?_  -- k7 impl.freeCells
    rintro v15 w15 ⟨rs9, rfl, OC9, sub9, mq15⟩
    have OR9 := OX.roots.keep mq15 (fun b e1 e2 e3 => e3.2 ⟨e1, ints_ne.1 e2⟩)
    have m15 := mq15.weak (T := fun i => b2 < i ∧ i < b11) (fun i h _ => by have h2 := h.1; dsimp only at h2; omega)
    replace OC9 := OC9.weak (Pr' := fun i => b2 < i ∧ i < b11) (fun i h => by have h2 := h.1; dsimp only at h2; omega)
    replace G := G.abv m15
    replace hA := hA0.grow G
    replace hB := hB0.grow G
    replace hC := hC0.grow G
    replace B1 := B1.md m15
    replace B2 := B2.md m15
    replace B11 := B11.md m15
    have zm15 := m15.size
    refine S_val (Y_assign rfl) ?_
    refine S_nl rfl rfl ?_
    refine th_n (hK8 _ _ ?_)
    clear hK8 K8
    refine wp_seq_k fun K9 hK9 => ?_
    refine Sb 36 rfl ?_  -- 5
    refine S_val (Y_loadS Try.underlying32 rfl sz32 rfl (B11.row (by rfl))) ?_  -- l6
    refine S_val (Y_move rfl) ?_
    refine S_stM (pre := []) (old := [_, _]) (post := []) (vs := [_, _]) sz32 rfl rfl rfl (by first | rfl | assumption) B2 rfl rfl ?_
    intro w16 m16 X16
    replace B2 := Blk.eq (ys := [_, _]) X16 rfl
    clear X16
    replace G := G.abv m16
    replace hA := hA0.grow G
    replace hB := hB0.grow G
    replace hC := hC0.grow G
    replace OC9 := OC9.md m16
    replace OR9 := OR9.md m16
    replace B1 := B1.md m16
    replace B11 := B11.md m16
    have zm16 := m16.size
    refine S_val (Y_assign rfl) ?_
    refine S_nl rfl rfl ?_
    refine th_n (hK9 _ _ ?_)
    clear hK9 K9
    refine wp_ret ?_
    refine ret_rct (cs := [_, _]) Try.underlying32 rfl sz32 rfl rfl rfl (B2.row (by rfl)) ?_  -- r4
    have hsv := sweepV_t hb1 hlen hsw
    have hfp : (fun i => (lessN u0 m0).testBit i && usedAt h.cells i) = sweepN h ms := by
      funext i
      rw [lessN_bit hU.1 hM.1, used_set hU, congrFun (set_in hM) i]
      unfold sweepN sweepP
      cases usedAt h.cells i <;> simp
    rw [hfp] at OC9 sub9
    have hdc : dropC h.cells (sweepN h ms) = dropC h.cells (sweepP ms) := (dropC_used va (sweepP ms)).symm
    exact ⟨AH, BH, _, cH, _, dH, rs9, by rw [hsv, hfp], by rw [hsv]; exact (dropC_len _ _).symm, by rw [hsv]; rfl, by rw [hsv]; exact OH.freed OX (OC9.cast hdc) (sub9.cast hdc) OR9 (fun k hk => by omega) (fun k hk => by omega), G⟩
set_option maxHeartbeats 400000 in
set_option maxRecDepth 20000 in
theorem impl_CollectSweep_c (Pr : Nat → Prop) (A B : Option Addr) (h : LH) (c d : Nat) (w : World) (hA : RC Pr w A h.cells) (hB : R1 Pr w B (ints h.roots)) (hz : hsize h ≤ 1048576) :
    Calls Try.prog 43 #[.agg #[.slice A h.cells.length c, .slice B h.roots.length d]] w (Ret fun v w' => ∃ A1 B1 n1 c1 n2 c2 rs, v = .tuple #[.agg #[.slice A1 n1 c1, .slice B1 n2 c2], .int .i64 (sweepV h (reachV h)).2] ∧ n1 = (sweepV h (reachV h)).1.cells.length ∧ n2 = (sweepV h (reachV h)).1.roots.length ∧ OH (fun i => w.heap.size ≤ i) w' 63 3 A1 B1 (sweepV h (reachV h)).1 rs ∧ Grow w w') := by
 have hz1 := hsize_cells h
 have hz2 := hsize_roots h
 have hne : (63 : TypeId) ≠ 3 := by decide
 have hrl := reachV_le h
 refine enter Try.func43 rfl Try.ntmps43 (L := [_,_,_,_,_,_,_,_,_,_]) rfl ?_
 have G := Mod.refl No w
 have hA0 := hA
 have hB0 := hB
 refine wp_seq_k fun K1 hK1 => ?_
 refine Sb 10 rfl ?_  -- 0
 refine S_box (cs := [_, _]) rfl rfl ?_
 intro b1 w1 fb1 g1 B1
 have lb1 := B1.lt
 replace hA := hA.grow g1
 replace hB := hB.grow g1
 replace G := G.grow g1
 have zg1 := g1.size
 refine S_alloc (cs := [_, _]) zr32 rfl ?_
 intro b2 w2 fb2 g2 B2
 have lb2 := B2.lt
 replace hA := hA.grow g2
 replace hB := hB.grow g2
 replace G := G.grow g2
 replace B1 := B1.grow g2
 have zg2 := g2.size
 refine S_val (Y_assign rfl) ?_
 refine S_nl rfl rfl ?_
 refine th_n (hK1 _ _ ?_)
 clear hK1 K1
 refine wp_seq_k fun K2 hK2 => ?_
 refine D_start 8 10 (fun w => Mod (fun i => i = b2) w) follows rfl rfl ?_  -- d1 r1
 intro w3 g3
 replace hA := hA.grow g3
 replace hB := hB.grow g3
 replace G := G.grow g3
 replace B1 := B1.grow g3
 replace B2 := B2.grow g3
 have zg3 := g3.size
 have GS3 := Mod.refl (fun i => i = b2) w3
 refine Dq (i := 0) rfl GS3 (fun _ hs => Y_loadS Try.underlying32 rfl sz32 rfl (by first | exact CellsAt.mod (B1.row (by rfl)) hs (by intro h; first | omega | (dsimp only at h; omega)))) ?_
 refine Dq (i := 1) rfl GS3 (fun _ hs => Y_loadS Try.underlying32 rfl sz32 rfl (by first | exact CellsAt.mod (B1.row (by rfl)) hs (by intro h; first | omega | (dsimp only at h; omega)))) ?_
 refine D_1 (i := 2) (by kernel_rfl) ?_
 refine E_call rfl rfl en23 (impl_Reachable_c _ _ _ _ _ _ _ (by assumption) (by assumption) (by omega)) ?_  -- k1 impl.Reachable
 rintro v4 w4 ⟨A4, q4, cap4, rfl, hq4, O4, g4⟩
 replace hA := hA.grow g4
 replace hB := hB.grow g4
 replace G := G.grow g4
 replace GS3 := GS3.grow g4
 replace B1 := B1.grow g4
 replace B2 := B2.grow g4
 have zg4 := g4.size
 subst hq4
 have OR := O4.lt
 have hR := OR.r1
 refine ⟨GS3, ?_⟩
 refine D_1 (i := 3) (by kernel_rfl) ?_
 refine E_call rfl rfl en39 (impl_SweepCells_c _ _ _ _ _ _ (reachV h) _ _ _ _ (by assumption) (by assumption) hR (by omega) (by omega)) ?_  -- k2 impl.SweepCells
 rintro v5 w5 ⟨A5, B5, n15, c15, n25, c25, rs5, rfl, hn15, hn25, O5, g5⟩
 replace hA := hA.grow g5
 replace hB := hB.grow g5
 replace hR := hR.grow g5
 replace G := G.grow g5
 replace GS3 := GS3.grow g5
 replace B1 := B1.grow g5
 replace B2 := B2.grow g5
 have zg5 := g5.size
 subst hn15
 subst hn25
 obtain ⟨AH, rfl⟩ : ∃ x, x = A5 := ⟨_, rfl⟩
 obtain ⟨BH, rfl⟩ : ∃ x, x = B5 := ⟨_, rfl⟩
 obtain ⟨cH, rfl⟩ : ∃ x, x = c15 := ⟨_, rfl⟩
 obtain ⟨dH, rfl⟩ : ∃ x, x = c25 := ⟨_, rfl⟩
 obtain ⟨rsH, rfl⟩ : ∃ x, x = rs5 := ⟨_, rfl⟩
 have OX := O5.lt
 refine ⟨GS3, ?_⟩
 refine Dq (i := 4) rfl GS3 (fun _ _ => Y_extract rfl rfl) ?_
 refine Dq (i := 5) rfl GS3 (fun _ _ => Y_extract rfl rfl) ?_
 refine D_1 (i := 6) (by kernel_rfl) ?_
 refine E_stM (pre := []) (old := [_, _]) (post := []) (vs := [_, _]) (i := 6) rfl sz32 rfl rfl rfl (by first | rfl | assumption) B2 rfl rfl ?_
 intro w6 m6 X6
 replace B2 := Blk.eq (ys := [_, _]) X6 rfl
 clear X6
 replace G := G.abv m6
 replace GS3 := GS3.trn m6
 replace hA := hA0.grow G
 replace hB := hB0.grow G
 replace hR := hR.md m6
 replace OX := OX.md m6
 replace B1 := B1.md m6
 have zm6 := m6.size
 refine ⟨GS3, ?_⟩
 refine Dq (i := 7) rfl GS3 (fun _ _ => Y_assign rfl) ?_
 refine D_en (by kernel_rfl) rfl rfl ?_
 refine th_n (hK2 _ _ ?_)
 clear hK2 K2
 refine wp_ret ?_
 refine ret_rct (cs := [_, _]) Try.underlying32 rfl sz32 rfl rfl rfl (B2.row (by rfl)) ?_  -- r1
 exact ⟨_, _, _, _, _, _, _, rfl, rfl, rfl, OX.weak (fun i hi => by omega), G⟩
end
end Go.Proofs.Ytikgflhepclfgac
