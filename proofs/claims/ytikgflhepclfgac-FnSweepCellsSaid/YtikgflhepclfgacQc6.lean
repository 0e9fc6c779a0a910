/-
  Walks through functions of the program and the reference, and the plain laws behind them: what one claim needs of them.
  Conditions: those that each theorem states.
-/
import Derived.ProofKit
import Derived.Deep.Slices
import Derived.Deep.Fields
import Derived.Deep.Grids
import Derived.ChangeSame
import Derived.Lib.SmallJoins
import Derived.Below
import Derived.Carry
import Derived.Test.YtikgflhepclfgacQc5
set_option linter.unusedVariables false
set_option linter.unusedSimpArgs false
namespace Go.Proofs.Ytikgflhepclfgac
/-! WalkOf -/
section
open Go Go.RowKit
attribute [local irreducible] wpList wpAnyH Code.wp dOp
set_option maxHeartbeats 400000 in
set_option maxRecDepth 20000 in
theorem impl_HeapOf_c (Pr : Nat → Prop) (A : Option Addr) (xs : List Int) (c : Nat) (w : World) (hA : R1 Pr w A (ints xs)) (hx : xs.length ≤ 1048576) (hc : 4 ≤ xs.length → xs.length ≤ c) :
    Calls Try.prog 25 #[.slice A xs.length c] w (Ret fun v w' => ∃ A1 B1 n1 c1 n2 c2 rs, v = .tuple #[.agg #[.slice A1 n1 c1, .slice B1 n2 c2], .bool (heapOfV xs).2] ∧ n1 = (heapOfV xs).1.cells.length ∧ n2 = (heapOfV xs).1.roots.length ∧ OH (fun i => w.heap.size ≤ i) w' 63 3 A1 B1 (heapOfV xs).1 rs ∧ Grow w w') := by
 have hne : (63 : TypeId) ≠ 3 := by decide
 have hAl := hA.below
 refine enter Try.func25 rfl Try.ntmps25 (L := [_,_,_,_,_,_,_,_,_,_,_,_,_,_,_,_,_,_,_,_,_,_,_,_,_,_,_,_,_,_,_,_,_,_,_,_,_,_,_,_,_,_,_,_,_,_,_,_,_,_,_,_,_,_,_,_,_,_,_,_,_,_,_,_,_,_,_,_,_,_,_,_,_,_,_,_,_,_]) rfl ?_
 have G := Mod.refl No w
 have hAl0 := hAl
 refine wp_seq_k fun K1 hK1 => ?_
 refine Sb 78 rfl ?_  -- 0
 refine S_alloc (cs := [_, _]) zr32 rfl ?_
 intro b1 w1 fb1 g1 B1
 have lb1 := B1.lt
 replace hAl := hAl.grow g1
 replace G := G.grow g1
 have zg1 := g1.size
 refine S_val (Y_assign rfl) ?_
 refine S_nl rfl rfl ?_
 refine th_n (hK1 _ _ ?_)
 clear hK1 K1
 refine wp_seq_k fun K2 hK2 => ?_
 refine wp_seq_k fun K3 hK3 => ?_
 refine Sb 78 rfl ?_  -- 1
 refine S_val (Y_move rfl) ?_
 refine S_val (Y_len Try.underlying23 rfl) ?_
 refine S_val (Y_lss rfl rfl) ?_
 refine S_nl rfl rfl ?_
 refine th_n (hK3 _ _ ?_)
 clear hK3 K3
 refine S_if rfl (fun hb1 => ?_) (fun hb1 => ?_)  -- c1
 · -- c1T
  replace hb1 := nb_tt hb1
  have h4n : ¬ 4 ≤ xs.length := by omega
  refine wp_seq_k fun K4 hK4 => ?_
  refine Sb 78 rfl ?_  -- 2
  refine S_val (Y_build (cs := [_, _]) zr32 pc32 rfl rfl) ?_
  refine S_stM (pre := []) (old := [_, _]) (post := []) (vs := [_, _]) sz32 rfl rfl rfl (by first | rfl | assumption) B1 rfl rfl ?_
  intro w2 m2 X2
  replace B1 := Blk.eq (ys := [_, _]) X2 rfl
  clear X2
  replace G := G.abv m2
  replace hAl := hAl0.grow G
  have zm2 := m2.size
  refine S_val (Y_assign rfl) ?_
  refine S_nl rfl rfl ?_
  refine th_n (hK4 _ _ ?_)
  clear hK4 K4
  refine wp_ret ?_
  refine th_r ?_
  clear hK2 K2
  refine ret_rct (cs := [_, _]) Try.underlying32 rfl sz32 rfl rfl rfl (B1.row (by rfl)) ?_  -- r1
  have hsv : heapOfV xs = (nilH, false) := heapOf_short h4n
  exact ⟨_, _, _, _, _, _, [], by rw [hsv], by rw [hsv]; rfl, by rw [hsv]; rfl, by rw [hsv]; exact OH.nil _ _ _ _ _ _, G⟩
 · -- c1F
  replace hb1 := nb_tf hb1
  have h4 : 4 ≤ xs.length := by omega
  have hcl := hc h4
  have hA4 := hAl.head (k := 4)
  have e4 : (xs.take 4).length = 4 := by rw [List.length_take]; omega
  have hs11 : Value.slice A 4 c = .slice A (xs.take 4).length c := by rw [e4]
  refine wp_skip ?_
  refine th_n (hK2 _ _ ?_)
  clear hK2 K2
  refine wp_seq_k fun K5 hK5 => ?_
  refine Sb 78 rfl ?_  -- 3
  refine S_val (Y_move rfl) ?_
  refine S_val (Yl.eq hs11 (Y_sliceH Try.underlying23 sz3 rfl (j := 4) rfl (by omega))) ?_
  refine S_call rfl en74 (impl_clone_int__c _ _ (xs.take 4) _ _ hA4 (by omega)) ?_  -- k1 impl.clone[int]
  rintro v3 w3 ⟨A3, q3, cap3, rfl, hq3, O3, g3⟩
  replace hAl := hAl.grow g3
  replace hA4 := hA4.grow g3
  replace G := G.grow g3
  replace B1 := B1.grow g3
  have zg3 := g3.size
  subst hq3
  obtain ⟨AR, rfl⟩ : ∃ x, x = A3 := ⟨_, rfl⟩
  obtain ⟨capR, rfl⟩ : ∃ x, x = cap3 := ⟨_, rfl⟩
  have OX := O3.lt
  have hA40 : R1 (fun k => k < w.heap.size) w3 A (ints (xs.drop 0)) := hAl
  obtain ⟨A5, hs5, hR5⟩ := hA40.rest (n := xs.length) (j := 4) (cap := c) (by omega) (by omega) (by omega)
  refine S_val (Y_build (cs := [_, _]) zr32 pc32 rfl rfl) ?_
  refine S_alloc (cs := [_, _]) zr32 rfl ?_
  intro b4 w4 fb4 g4 B4
  have lb4 := B4.lt
  replace hAl := hAl.grow g4
  replace OX := OX.grow g4
  replace hR5 := hR5.grow g4
  replace G := G.grow g4
  replace B1 := B1.grow g4
  have zg4 := g4.size
  refine S_stM (pre := []) (old := [_, _]) (post := []) (vs := [_, _]) sz32 rfl rfl rfl (by first | rfl | assumption) B4 rfl rfl ?_
  intro w5 m5 X5
  replace B4 := Blk.eq (ys := [_, _]) X5 rfl
  clear X5
  replace G := G.abv m5
  replace hAl := hAl0.grow G
  replace OX := OX.md m5
  replace hR5 := hR5.md m5
  replace B1 := B1.md m5
  have zm5 := m5.size
  refine S_nl rfl rfl ?_
  refine th_n (hK5 _ _ ?_)
  clear hK5 K5
  refine wp_seq_k fun K6 hK6 => ?_
  refine wp_seq_k fun K7 hK7 => ?_
  refine Sb 78 rfl ?_  -- 4
  refine S_val (Y_move rfl) ?_
  refine S_val (Yl.eq hs5 (Y_sliceL Try.underlying23 sz3 rfl (j := 4) rfl (by omega))) ?_
  refine S_val (Y_assign rfl) ?_
  refine S_nl rfl rfl ?_
  refine th_n (hK7 _ _ ?_)
  clear hK7 K7
  refine wp_block ?_
  obtain ⟨wz, hwz⟩ : ∃ x, x = w5.heap.size := ⟨_, rfl⟩
  have OC1 : OW (fun i => wz ≤ i) w5 63 3 none 0 0 (flatC ([] : List LC) []) := OW.nil _ _ _ _
  have OR1 : ORs (fun i => wz ≤ i) w5 3 ([] : List LC) [] := ORs.nil _ _ _
  go_loopw [5] (fun u5 wr => (∃ (cs : List LC) (rs : List (Option Addr × Nat)) (p q cap : Nat) (A1 : Option Addr), 4 ≤ p ∧ p ≤ xs.length ∧ q = cs.length ∧ (∃ (n c5 : Nat) (A5 : Option Addr), u5 = .slice A5 n c5 ∧ p + n = xs.length ∧ n ≤ c5 ∧ R1 (fun k => k < w.heap.size) wr A5 (ints (xs.drop p))) ∧ Blk wr b4 32 [.slice A1 q cap, .slice AR (xs.take 4).length capR].toArray ∧ OW (fun i => wz ≤ i) wr 63 3 A1 q cap (flatC cs rs) ∧ ORs (fun i => wz ≤ i) wr 3 cs rs ∧ PI xs cs p ∧ 2 * cs.length + rsum cs cs.length + 4 = p ∧ cs.length ≤ 40) ∧ Mod (fun i => i = b4 ∨ wz ≤ i) w5 wr) (fun u5 wr => slen u5)  -- L1
  case atStart =>
   refine ⟨?_, Mod.refl _ _⟩
   exact ⟨[], [], 4, 0, 0, none, by omega, by omega, rfl, ⟨_, _, _, rfl, by omega, by omega, hR5⟩, B4, OC1, OR1, PI.start xs, by simp [rsum], by simp⟩
  case round =>
   obtain ⟨w6, rfl⟩ : ∃ x : World, x = wr := ⟨_, rfl⟩
   obtain ⟨hrel, g6⟩ := hrel
   clear B4
   clear OC1
   clear OR1
   clear hR5
   replace G := G.abv g6
   replace hAl := hAl0.grow G
   replace OX := OX.md g6
   replace B1 := B1.md g6
   have zg6 := g6.size
   obtain ⟨cs, rs, p, q1, cap1, A1, hp4, hpl, hq1, ⟨n, c5, A5, rfl, hn, hnc, hR5⟩, B4, OC1, OR1, hpi, hwt, h40⟩ := hrel
   have GL6 := g6
   refine wp_seq_k fun K8 hK8 => ?_
   refine wp_seq_k fun K9 hK9 => ?_
   refine Sb 78 rfl ?_  -- 5
   refine S_val (Y_move rfl) ?_
   refine S_val (Y_len Try.underlying23 rfl) ?_
   refine S_val (Y_gtr rfl rfl) ?_
   refine S_nl rfl rfl ?_
   refine th_n (hK9 _ _ ?_)
   clear hK9 K9
   refine S_if rfl (fun hb2 => ?_) (fun hb2 => ?_)  -- c2
   · -- c2T
    replace hb2 := nb_tt hb2
    have hn0 : 0 < n := by omega
    replace OC1 := OC1.lt
    replace OR1 := OR1.lt
    refine wp_skip ?_
    refine th_n (hK8 _ _ ?_)
    clear hK8 K8
    refine wp_block ?_
    refine wp_seq_k fun K10 hK10 => ?_
    refine wp_seq_k fun K11 hK11 => ?_
    refine Sb 78 rfl ?_  -- 6
    refine S_val (Y_move rfl) ?_
    refine S_val (Y_len Try.underlying23 rfl) ?_
    refine S_val (Y_lss rfl rfl) ?_
    refine S_val (Y_move rfl) ?_
    refine S_g 22 rfl (fun hb3 => ?_) (fun hb3 => ?_)  -- g1
    · -- g1T
     replace hb3 := nb_tt hb3
     refine S_off rfl rfl ?_
     refine S_off rfl rfl ?_
     refine S_off rfl rfl ?_
     refine S_off rfl rfl ?_
     refine S_val (Y_pickT rfl rfl) ?_
     refine S_val (Y_move rfl) ?_
     refine S_off rfl rfl ?_
     refine S_off rfl rfl ?_
     refine S_off rfl rfl ?_
     refine S_off rfl rfl ?_
     refine S_off rfl rfl ?_
     refine S_off rfl rfl ?_
     refine S_off rfl rfl ?_
     refine S_val (Y_pickT rfl rfl) ?_
     refine S_val (Y_move rfl) ?_
     refine S_off rfl rfl ?_
     refine S_off rfl rfl ?_
     refine S_off rfl rfl ?_
     refine S_off rfl rfl ?_
     refine S_val (Y_pickT rfl rfl) ?_
     refine S_nl rfl rfl ?_
     refine th_n (hK11 _ _ ?_)
     clear hK11 K11
     refine S_ifT rfl ?_
     refine wp_seq_k fun K12 hK12 => ?_
     refine Sb 78 rfl ?_  -- 7
     refine S_val (Y_build (cs := [_, _]) zr32 pc32 rfl rfl) ?_
     refine S_stM (pre := []) (old := [_, _]) (post := []) (vs := [_, _]) sz32 rfl rfl rfl (by first | rfl | assumption) B1 rfl rfl ?_
     intro w7 m7 X7
     replace B1 := Blk.eq (ys := [_, _]) X7 rfl
     clear X7
     replace G := G.abv m7
     first | replace GL6 := GL6.abv m7 | clear GL6
     replace hAl := hAl0.grow G
     replace OX := OX.md m7
     replace OC1 := OC1.md m7
     replace OR1 := OR1.md m7
     replace hR5 := hR5.md m7
     replace B4 := B4.md m7
     have zm7 := m7.size
     refine S_val (Y_assign rfl) ?_
     refine S_nl rfl rfl ?_
     refine th_n (hK12 _ _ ?_)
     clear hK12 K12
     refine wp_ret ?_
     refine th_r ?_
     refine ib_r ?_
     try clear GL6
     refine th_r ?_
     refine ib_r ?_
     refine th_r ?_
     clear hK10 K10 hK6 K6
     refine ret_rct (cs := [_, _]) Try.underlying32 rfl sz32 rfl rfl rfl (B1.row (by rfl)) ?_  -- r2
     have hsv : heapOfV xs = (nilH, false) := heapOf_none (hpi.bad (parse_end_at (by omega) (by omega)))
     exact ⟨_, _, _, _, _, _, [], by rw [hsv], by rw [hsv]; rfl, by rw [hsv]; rfl, by rw [hsv]; exact OH.nil _ _ _ _ _ _, G⟩
    · -- g1F
     replace hb3 := nb_tf hb3
     have hn2 : 2 ≤ n := by omega
     have hp1 : p + 1 < xs.length := by omega
     obtain ⟨g4, o4, rfl, hp4b, hc4⟩ := hR5.elt (i := 1) hp1
     refine S_on rfl rfl ?_
     refine S_val (Y_move rfl) ?_
     refine S_on rfl rfl ?_
     refine S_val (Y_index (i := 1) Try.underlying23 sz3 rfl rfl (by first | assumption | omega)) ?_
     refine S_on rfl rfl ?_
     refine S_val (Y_load Try.underlying3 rfl rfl hc4) ?_  -- l1
     refine S_on rfl rfl ?_
     refine S_val (Y_lss rfl rfl) ?_
     refine S_val (Y_pickF rfl rfl) ?_
     refine S_val (Y_move rfl) ?_
     refine S_g 28 rfl (fun hb4 => ?_) (fun hb4 => ?_)  -- g2
     · -- g2T
      first | with_reducible (replace hb4 := nb_nt hb4) | with_reducible (replace hb4 := nb_tt hb4) | with_reducible (replace hb4 := nb_bt hb4) | skip
      refine S_off rfl rfl ?_
      refine S_off rfl rfl ?_
      refine S_off rfl rfl ?_
      refine S_off rfl rfl ?_
      refine S_off rfl rfl ?_
      refine S_off rfl rfl ?_
      refine S_off rfl rfl ?_
      refine S_val (Y_pickT rfl rfl) ?_
      refine S_val (Y_move rfl) ?_
      refine S_off rfl rfl ?_
      refine S_off rfl rfl ?_
      refine S_off rfl rfl ?_
      refine S_off rfl rfl ?_
      refine S_val (Y_pickT rfl rfl) ?_
      refine S_nl rfl rfl ?_
      refine th_n (hK11 _ _ ?_)
      clear hK11 K11
      refine S_ifT rfl ?_
      refine wp_seq_k fun K13 hK13 => ?_
      refine Sb 78 rfl ?_  -- 7
      refine S_val (Y_build (cs := [_, _]) zr32 pc32 rfl rfl) ?_
      refine S_stM (pre := []) (old := [_, _]) (post := []) (vs := [_, _]) sz32 rfl rfl rfl (by first | rfl | assumption) B1 rfl rfl ?_
      intro w8 m8 X8
      replace B1 := Blk.eq (ys := [_, _]) X8 rfl
      clear X8
      replace G := G.abv m8
      first | replace GL6 := GL6.abv m8 | clear GL6
      replace hAl := hAl0.grow G
      replace OX := OX.md m8
      replace OC1 := OC1.md m8
      replace OR1 := OR1.md m8
      replace hR5 := hR5.md m8
      replace B4 := B4.md m8
      have zm8 := m8.size
      refine S_val (Y_assign rfl) ?_
      refine S_nl rfl rfl ?_
      refine th_n (hK13 _ _ ?_)
      clear hK13 K13
      refine wp_ret ?_
      refine th_r ?_
      refine ib_r ?_
      try clear GL6
      refine th_r ?_
      refine ib_r ?_
      refine th_r ?_
      clear hK10 K10 hK6 K6
      refine ret_rct (cs := [_, _]) Try.underlying32 rfl sz32 rfl rfl rfl (B1.row (by rfl)) ?_  -- r3
      have hsv : heapOfV xs = (nilH, false) := heapOf_none (hpi.bad (parse_bad_at hp1 (by omega)))
      exact ⟨_, _, _, _, _, _, [], by rw [hsv], by rw [hsv]; rfl, by rw [hsv]; rfl, by rw [hsv]; exact OH.nil _ _ _ _ _ _, G⟩
     · -- g2F
      first | with_reducible (replace hb4 := nb_nf hb4) | with_reducible (replace hb4 := nb_tf hb4) | with_reducible (replace hb4 := nb_bf hb4) | skip
      refine S_on rfl rfl ?_
      refine S_val (Y_move rfl) ?_
      refine S_on rfl rfl ?_
      refine S_val (Y_index (i := 1) Try.underlying23 sz3 rfl rfl (by first | assumption | omega)) ?_
      refine S_on rfl rfl ?_
      refine S_val (Y_load Try.underlying3 rfl rfl hc4) ?_  -- l2
      refine S_on rfl rfl ?_
      refine S_val (Y_move rfl) ?_
      refine S_on rfl rfl ?_
      refine S_val (Y_len Try.underlying23 rfl) ?_
      refine S_on rfl rfl ?_
      refine S_val (Y_sub rfl rfl rfl (by omega) (by omega)) ?_
      refine S_on rfl rfl ?_
      refine S_val (Y_gtr rfl rfl) ?_
      refine S_val (Y_pickF rfl rfl) ?_
      refine S_val (Y_move rfl) ?_
      refine S_g 37 rfl (fun hb5 => ?_) (fun hb5 => ?_)  -- g3
      · -- g3T
       first | with_reducible (replace hb5 := nb_nt hb5) | with_reducible (replace hb5 := nb_tt hb5) | with_reducible (replace hb5 := nb_bt hb5) | skip
       refine S_off rfl rfl ?_
       refine S_off rfl rfl ?_
       refine S_off rfl rfl ?_
       refine S_off rfl rfl ?_
       refine S_val (Y_pickT rfl rfl) ?_
       refine S_nl rfl rfl ?_
       refine th_n (hK11 _ _ ?_)
       clear hK11 K11
       refine S_ifT rfl ?_
       refine wp_seq_k fun K14 hK14 => ?_
       refine Sb 78 rfl ?_  -- 7
       refine S_val (Y_build (cs := [_, _]) zr32 pc32 rfl rfl) ?_
       refine S_stM (pre := []) (old := [_, _]) (post := []) (vs := [_, _]) sz32 rfl rfl rfl (by first | rfl | assumption) B1 rfl rfl ?_
       intro w9 m9 X9
       replace B1 := Blk.eq (ys := [_, _]) X9 rfl
       clear X9
       replace G := G.abv m9
       first | replace GL6 := GL6.abv m9 | clear GL6
       replace hAl := hAl0.grow G
       replace OX := OX.md m9
       replace OC1 := OC1.md m9
       replace OR1 := OR1.md m9
       replace hR5 := hR5.md m9
       replace B4 := B4.md m9
       have zm9 := m9.size
       refine S_val (Y_assign rfl) ?_
       refine S_nl rfl rfl ?_
       refine th_n (hK14 _ _ ?_)
       clear hK14 K14
       refine wp_ret ?_
       refine th_r ?_
       refine ib_r ?_
       try clear GL6
       refine th_r ?_
       refine ib_r ?_
       refine th_r ?_
       clear hK10 K10 hK6 K6
       refine ret_rct (cs := [_, _]) Try.underlying32 rfl sz32 rfl rfl rfl (B1.row (by rfl)) ?_  -- r4
       have hsv : heapOfV xs = (nilH, false) := heapOf_none (hpi.bad (parse_bad_at hp1 (by omega)))
       exact ⟨_, _, _, _, _, _, [], by rw [hsv], by rw [hsv]; rfl, by rw [hsv]; rfl, by rw [hsv]; exact OH.nil _ _ _ _ _ _, G⟩
      · -- g3F
       first | with_reducible (replace hb5 := nb_nf hb5) | with_reducible (replace hb5 := nb_tf hb5) | with_reducible (replace hb5 := nb_bf hb5) | skip
       refine S_on rfl rfl ?_
       refine S_val (Y_field Try.underlying32 rfl fz32_0 (by decide) rfl) ?_
       refine S_on rfl rfl ?_
       refine S_val (Y_load Try.underlying30 rfl rfl (B4.at (by rfl))) ?_  -- l3
       refine S_on rfl rfl ?_
       refine S_val (Y_len Try.underlying30 rfl) ?_
       refine S_on rfl rfl ?_
       refine S_val (Y_eql rfl rfl) ?_
       refine S_val (Y_pickF rfl rfl) ?_
       refine S_nl rfl rfl ?_
       refine th_n (hK11 _ _ ?_)
       clear hK11 K11
       refine S_if rfl (fun hb6 => ?_) (fun hb6 => ?_)  -- c3
       · -- c3T
        first | with_reducible (replace hb6 := nb_nt hb6) | with_reducible (replace hb6 := nb_tt hb6) | with_reducible (replace hb6 := nb_bt hb6) | skip
        refine wp_seq_k fun K15 hK15 => ?_
        refine Sb 78 rfl ?_  -- 7
        refine S_val (Y_build (cs := [_, _]) zr32 pc32 rfl rfl) ?_
        refine S_stM (pre := []) (old := [_, _]) (post := []) (vs := [_, _]) sz32 rfl rfl rfl (by first | rfl | assumption) B1 rfl rfl ?_
        intro w10 m10 X10
        replace B1 := Blk.eq (ys := [_, _]) X10 rfl
        clear X10
        replace G := G.abv m10
        first | replace GL6 := GL6.abv m10 | clear GL6
        replace hAl := hAl0.grow G
        replace OX := OX.md m10
        replace OC1 := OC1.md m10
        replace OR1 := OR1.md m10
        replace hR5 := hR5.md m10
        replace B4 := B4.md m10
        have zm10 := m10.size
        refine S_val (Y_assign rfl) ?_
        refine S_nl rfl rfl ?_
        refine th_n (hK15 _ _ ?_)
        clear hK15 K15
        refine wp_ret ?_
        refine th_r ?_
        refine ib_r ?_
        try clear GL6
        refine th_r ?_
        refine ib_r ?_
        refine th_r ?_
        clear hK10 K10 hK6 K6
        refine ret_rct (cs := [_, _]) Try.underlying32 rfl sz32 rfl rfl rfl (B1.row (by rfl)) ?_  -- r5
        have hsv : heapOfV xs = (nilH, false) := heapOf_many hpi (by omega) (by omega)
        exact ⟨_, _, _, _, _, _, [], by rw [hsv], by rw [hsv]; rfl, by rw [hsv]; rfl, by rw [hsv]; exact OH.nil _ _ _ _ _ _, G⟩
       · -- c3F
        first | with_reducible (replace hb6 := nb_nf hb6) | with_reducible (replace hb6 := nb_tf hb6) | with_reducible (replace hb6 := nb_bf hb6) | skip
        obtain ⟨m, hm⟩ := Int.eq_ofNat_of_zero_le (show 0 ≤ xs[p + 1] by omega)
        have hm2 : 2 + m ≤ n := by omega
        obtain ⟨A54, hs54, hR54⟩ := hR5.sub (m := m) hn hm2 hnc
        obtain ⟨A65, hs65, hR65⟩ := hR5.rest (j := 2 + m) hn hm2 hnc
        rw [show p + (2 + m) = p + 2 + m by omega] at hR65
        have hml : ((xs.drop (p + 2)).take m).length = m := by rw [List.length_take, List.length_drop]; omega
        refine wp_skip ?_
        refine th_n (hK10 _ _ ?_)
        clear hK10 K10
        refine wp_seq_k fun K16 hK16 => ?_
        refine D_start 17 78 (fun w => Mod (fun i => i = b4 ∨ wz ≤ i) w) follows rfl rfl ?_  -- d1 r8
        intro w11 g11
        replace hAl := hAl.grow g11
        replace OX := OX.grow g11
        replace OC1 := OC1.grow g11
        replace OR1 := OR1.grow g11
        replace hR5 := hR5.grow g11
        replace hR54 := hR54.grow g11
        replace hR65 := hR65.grow g11
        replace G := G.grow g11
        replace GL6 := GL6.grow g11
        replace B1 := B1.grow g11
        replace B4 := B4.grow g11
        have zg11 := g11.size
        have GS11 := Mod.refl (fun i => i = b4 ∨ wz ≤ i) w11
        obtain ⟨g6, o6, e6, hp6, hc6⟩ := hR5.elt (i := 0) (by omega)
        cases e6
        obtain ⟨g7, o7, e7, hp7, hc7⟩ := hR5.elt (i := 1) (by omega)
        cases e7
        refine Dq (i := 0) rfl GS11 (fun _ _ => Y_field Try.underlying32 rfl fz32_0 (by decide) rfl) ?_
        refine Dq (i := 2) rfl GS11 (fun _ _ => Y_move rfl) ?_
        refine Dq (i := 3) rfl GS11 (fun _ _ => Y_index (i := 0) Try.underlying23 sz3 rfl rfl (by first | assumption | omega)) ?_
        refine Dq (i := 4) rfl GS11 (fun _ hs => Y_load Try.underlying3 rfl rfl (by first | exact hs.cell (by assumption) (by intro h; first | omega | (dsimp only at h; omega)) | exact hs.cell (B1.at (by rfl)) (by intro h; first | omega | (dsimp only at h; omega)) | exact hs.cell (B4.at (by rfl)) (by intro h; first | omega | (dsimp only at h; omega)))) ?_
        refine Dq (i := 5) rfl GS11 (fun _ _ => Y_move rfl) ?_
        refine Dq (i := 6) rfl GS11 (fun _ _ => Y_move rfl) ?_
        refine Dq (i := 7) rfl GS11 (fun _ _ => Y_index (i := 1) Try.underlying23 sz3 rfl rfl (by first | assumption | omega)) ?_
        refine Dq (i := 8) rfl GS11 (fun _ hs => Y_load Try.underlying3 rfl rfl (by first | exact hs.cell (by assumption) (by intro h; first | omega | (dsimp only at h; omega)) | exact hs.cell (B1.at (by rfl)) (by intro h; first | omega | (dsimp only at h; omega)) | exact hs.cell (B4.at (by rfl)) (by intro h; first | omega | (dsimp only at h; omega)))) ?_
        refine Dq (i := 9) rfl GS11 (fun _ _ => Y_add (c := ((2 + m : Nat) : Int)) rfl rfl (by omega) (by omega) (by omega)) ?_
        refine Dq (i := 10) rfl GS11 (fun _ _ => Yl.eq hs54 (Y_sliceLH Try.underlying23 sz3 rfl (j := 2) (k := 2 + m) rfl rfl (by omega) (by omega))) ?_
        refine D_2 (i := 1) (j := 11) (by kernel_rfl) ?_ ?_
        · -- operation 1 comes up
         refine E_val (i := 1) rfl (Y_load Try.underlying30 rfl rfl (B4.at (by rfl))) GS11 ?_
         refine D_1 (i := 11) (by kernel_rfl) ?_
         refine E_call rfl rfl en74 (impl_clone_int__c _ _ ((xs.drop (p + 2)).take m) _ _ hR54 (by omega)) ?_  -- k2 impl.clone[int]
         rintro v13 w13 ⟨A13, q13, cap13, rfl, hq13, O13, g13⟩
         replace hAl := hAl.grow g13
         replace OX := OX.grow g13
         replace OC1 := OC1.grow g13
         replace OR1 := OR1.grow g13
         replace hR5 := hR5.grow g13
         replace hR54 := hR54.grow g13
         replace hR65 := hR65.grow g13
         replace G := G.grow g13
         replace GL6 := GL6.grow g13
         replace GS11 := GS11.grow g13
         replace B1 := B1.grow g13
         replace B4 := B4.grow g13
         have zg13 := g13.size
         subst hq13
         obtain ⟨AY, rfl⟩ : ∃ x, x = A13 := ⟨_, rfl⟩
         obtain ⟨capY, rfl⟩ : ∃ x, x = cap13 := ⟨_, rfl⟩
         have OY := O13
         refine ⟨GS11, ?_⟩
         refine Dq (i := 12) rfl GS11 (fun _ _ => Y_build (cs := [_, _, _]) zr63 pc63 rfl rfl) ?_
         refine D_1 (i := 13) (by kernel_rfl) ?_
         refine E_bs1 (cs := [_, _, _]) (i := 13) rfl Try.underlying30 zr63 sz63 rfl rfl rfl ?_
         intro b14 w14 fb14 g14 B14
         refine ⟨GS11.grow g14, ?_⟩
         have lb14 := B14.lt
         replace hAl := hAl.grow g14
         replace OX := OX.grow g14
         replace OC1 := OC1.grow g14
         replace OR1 := OR1.grow g14
         replace hR5 := hR5.grow g14
         replace hR54 := hR54.grow g14
         replace hR65 := hR65.grow g14
         replace OY := OY.grow g14
         replace G := G.grow g14
         replace GL6 := GL6.grow g14
         replace GS11 := GS11.grow g14
         replace B1 := B1.grow g14
         replace B4 := B4.grow g14
         have zg14 := g14.size
         refine D_1 (i := 14) (by kernel_rfl) ?_
         refine E_app2 (i := 14) rfl Try.underlying30 zr63 sz63 by63 rfl rfl OC1 rfl (Src.blk B14) (by simp [Value.oneCell']) (by omega) (Pr' := fun i => (wz ≤ i)) (fun i hi => by omega) (by omega) ?_
         intro A15 cap15 w15 X15 m15 n15
         replace OR1 := OR1.app OC1 hne n15
         replace OC1 := X15
         clear X15 n15
         replace G := G.abv m15
         replace GL6 := GL6.trn m15
         replace GS11 := GS11.trn m15
         replace hAl := hAl0.grow G
         replace OX := OX.md m15
         replace hR5 := hR5.md m15
         replace hR54 := hR54.md m15
         replace hR65 := hR65.md m15
         replace OY := OY.md m15
         replace B1 := B1.md m15
         replace B4 := B4.md m15
         have zm15 := m15.size
         refine ⟨GS11, ?_⟩
         have OR2 := OR1.more (c := ⟨true, xs[p], (xs.drop (p + 2)).take m⟩) OY (fun i hi => by omega) (Pr' := fun i => wz ≤ i) (fun i hi => by omega) (fun i hi => by omega)
         replace OC1 : OW (fun i => (wz ≤ i)) w15 63 3 A15 (q1 + 1) cap15 (flatC (cs ++ [⟨true, xs[p], (xs.drop (p + 2)).take m⟩]) (rs ++ [(AY, capY)])) := by rw [← flat_more OR1.len]; exact OC1
         refine Dq (i := 15) rfl GS11 (fun _ _ => Y_field Try.underlying32 rfl fz32_0 (by decide) rfl) ?_
         refine D_1 (i := 16) (by kernel_rfl) ?_
         refine E_stM (pre := []) (old := [_]) (post := [_]) (vs := [_]) (i := 16) rfl sz30 rfl rfl rfl (by first | rfl | assumption) B4 rfl rfl ?_
         intro w16 m16 X16
         replace B4 := Blk.eq (ys := [_, _]) X16 rfl
         clear X16
         replace G := G.abv m16
         replace GL6 := GL6.trn m16
         replace GS11 := GS11.trn m16
         replace hAl := hAl0.grow G
         replace OX := OX.md m16
         replace OC1 := OC1.md m16
         replace hR5 := hR5.md m16
         replace hR54 := hR54.md m16
         replace hR65 := hR65.md m16
         replace OR2 := OR2.md m16
         replace B1 := B1.md m16
         have zm16 := m16.size
         refine ⟨GS11, ?_⟩
         refine D_en (by kernel_rfl) rfl rfl ?_
         refine th_n (hK16 _ _ ?_)
         clear hK16 K16
         refine Sb 78 rfl ?_  -- 9
         refine S_val (Y_move rfl) ?_
         refine S_val (Y_move rfl) ?_
         refine S_val (Y_index (i := 1) Try.underlying23 sz3 rfl rfl (by first | assumption | omega)) ?_
         refine S_val (Y_load Try.underlying3 rfl rfl (by obtain ⟨g9, o9, e9, _, h9⟩ := hR5.elt (i := 1) (by omega); cases e9; exact h9)) ?_  -- l6
         refine S_val (Y_add (c := ((2 + m : Nat) : Int)) rfl rfl (by omega) (by omega) (by omega)) ?_
         refine S_val (Yl.eq hs65 (Y_sliceL Try.underlying23 sz3 rfl (j := 2 + m) rfl (by omega))) ?_
         refine S_val (Y_assign rfl) ?_
         refine S_nl rfl rfl ?_
         refine ib_n ?_
         refine th_n ?_
         go_roundw  -- e1 of L1
         case rel =>
          refine ⟨?_, GL6⟩
          exact ⟨cs ++ [⟨true, xs[p], (xs.drop (p + 2)).take m⟩], rs ++ [(AY, capY)], p + 2 + m, _, _, _, by omega, by omega, by rw [List.length_append, hq1]; rfl, ⟨_, _, _, rfl, by omega, by omega, hR65⟩, B4, OC1, OR2, hpi.next hp1 hm (by omega), by rw [rsum_snoc, List.length_append]; simp only [List.length_cons, List.length_nil, hml]; omega, by rw [List.length_append]; simp only [List.length_cons, List.length_nil]; omega⟩
         case measure =>
          show n - (2 + m) < n
          omega
        · -- operation 11 comes up
         refine E_call rfl rfl en74 (impl_clone_int__c _ _ ((xs.drop (p + 2)).take m) _ _ hR54 (by omega)) ?_  -- k3 impl.clone[int]
         rintro v17 w17 ⟨A17, q17, cap17, rfl, hq17, O17, g17⟩
         replace hAl := hAl.grow g17
         replace OX := OX.grow g17
         replace OC1 := OC1.grow g17
         replace OR1 := OR1.grow g17
         replace hR5 := hR5.grow g17
         replace hR54 := hR54.grow g17
         replace hR65 := hR65.grow g17
         replace G := G.grow g17
         replace GL6 := GL6.grow g17
         replace GS11 := GS11.grow g17
         replace B1 := B1.grow g17
         replace B4 := B4.grow g17
         have zg17 := g17.size
         subst hq17
         obtain ⟨AY, rfl⟩ : ∃ x, x = A17 := ⟨_, rfl⟩
         obtain ⟨capY, rfl⟩ : ∃ x, x = cap17 := ⟨_, rfl⟩
         have OY := O17
         refine ⟨GS11, ?_⟩
         refine Dq (i := 12) rfl GS11 (fun _ _ => Y_build (cs := [_, _, _]) zr63 pc63 rfl rfl) ?_
         refine D_2 (i := 1) (j := 13) (by kernel_rfl) ?_ ?_
         · -- operation 1 comes up
          refine E_val (i := 1) rfl (Y_load Try.underlying30 rfl rfl (B4.at (by rfl))) GS11 ?_
          refine D_1 (i := 13) (by kernel_rfl) ?_
          refine E_bs1 (cs := [_, _, _]) (i := 13) rfl Try.underlying30 zr63 sz63 rfl rfl rfl ?_
          intro b19 w19 fb19 g19 B19
          refine ⟨GS11.grow g19, ?_⟩
          have lb19 := B19.lt
          replace hAl := hAl.grow g19
          replace OX := OX.grow g19
          replace OC1 := OC1.grow g19
          replace OR1 := OR1.grow g19
          replace hR5 := hR5.grow g19
          replace hR54 := hR54.grow g19
          replace hR65 := hR65.grow g19
          replace OY := OY.grow g19
          replace G := G.grow g19
          replace GL6 := GL6.grow g19
          replace GS11 := GS11.grow g19
          replace B1 := B1.grow g19
          replace B4 := B4.grow g19
          have zg19 := g19.size
          refine D_1 (i := 14) (by kernel_rfl) ?_
          refine E_app2 (i := 14) rfl Try.underlying30 zr63 sz63 by63 rfl rfl OC1 rfl (Src.blk B19) (by simp [Value.oneCell']) (by omega) (Pr' := fun i => (wz ≤ i)) (fun i hi => by omega) (by omega) ?_
          intro A20 cap20 w20 X20 m20 n20
          replace OR1 := OR1.app OC1 hne n20
          replace OC1 := X20
          clear X20 n20
          replace G := G.abv m20
          replace GL6 := GL6.trn m20
          replace GS11 := GS11.trn m20
          replace hAl := hAl0.grow G
          replace OX := OX.md m20
          replace hR5 := hR5.md m20
          replace hR54 := hR54.md m20
          replace hR65 := hR65.md m20
          replace OY := OY.md m20
          replace B1 := B1.md m20
          replace B4 := B4.md m20
          have zm20 := m20.size
          refine ⟨GS11, ?_⟩
          have OR2 := OR1.more (c := ⟨true, xs[p], (xs.drop (p + 2)).take m⟩) OY (fun i hi => by omega) (Pr' := fun i => wz ≤ i) (fun i hi => by omega) (fun i hi => by omega)
          replace OC1 : OW (fun i => (wz ≤ i)) w20 63 3 A20 (q1 + 1) cap20 (flatC (cs ++ [⟨true, xs[p], (xs.drop (p + 2)).take m⟩]) (rs ++ [(AY, capY)])) := by rw [← flat_more OR1.len]; exact OC1
          refine Dq (i := 15) rfl GS11 (fun _ _ => Y_field Try.underlying32 rfl fz32_0 (by decide) rfl) ?_
          refine D_1 (i := 16) (by kernel_rfl) ?_
          refine E_stM (pre := []) (old := [_]) (post := [_]) (vs := [_]) (i := 16) rfl sz30 rfl rfl rfl (by first | rfl | assumption) B4 rfl rfl ?_
          intro w21 m21 X21
          replace B4 := Blk.eq (ys := [_, _]) X21 rfl
          clear X21
          replace G := G.abv m21
          replace GL6 := GL6.trn m21
          replace GS11 := GS11.trn m21
          replace hAl := hAl0.grow G
          replace OX := OX.md m21
          replace OC1 := OC1.md m21
          replace hR5 := hR5.md m21
          replace hR54 := hR54.md m21
          replace hR65 := hR65.md m21
          replace OR2 := OR2.md m21
          replace B1 := B1.md m21
          have zm21 := m21.size
          refine ⟨GS11, ?_⟩
          refine D_en (by kernel_rfl) rfl rfl ?_
          refine th_n (hK16 _ _ ?_)
          clear hK16 K16
          refine Sb 78 rfl ?_  -- 9
          refine S_val (Y_move rfl) ?_
          refine S_val (Y_move rfl) ?_
          refine S_val (Y_index (i := 1) Try.underlying23 sz3 rfl rfl (by first | assumption | omega)) ?_
          refine S_val (Y_load Try.underlying3 rfl rfl (by obtain ⟨g9, o9, e9, _, h9⟩ := hR5.elt (i := 1) (by omega); cases e9; exact h9)) ?_  -- l7
          refine S_val (Y_add (c := ((2 + m : Nat) : Int)) rfl rfl (by omega) (by omega) (by omega)) ?_
          refine S_val (Yl.eq hs65 (Y_sliceL Try.underlying23 sz3 rfl (j := 2 + m) rfl (by omega))) ?_
          refine S_val (Y_assign rfl) ?_
          refine S_nl rfl rfl ?_
          refine ib_n ?_
          refine th_n ?_
          go_roundw  -- e2 of L1
          case rel =>
           refine ⟨?_, GL6⟩
           exact ⟨cs ++ [⟨true, xs[p], (xs.drop (p + 2)).take m⟩], rs ++ [(AY, capY)], p + 2 + m, _, _, _, by omega, by omega, by rw [List.length_append, hq1]; rfl, ⟨_, _, _, rfl, by omega, by omega, hR65⟩, B4, OC1, OR2, hpi.next hp1 hm (by omega), by rw [rsum_snoc, List.length_append]; simp only [List.length_cons, List.length_nil, hml]; omega, by rw [List.length_append]; simp only [List.length_cons, List.length_nil]; omega⟩
          case measure =>
           show n - (2 + m) < n
           omega
         · -- operation 13 comes up
          refine E_bs1 (cs := [_, _, _]) (i := 13) rfl Try.underlying30 zr63 sz63 rfl rfl rfl ?_
          intro b22 w22 fb22 g22 B22
          refine ⟨GS11.grow g22, ?_⟩
          have lb22 := B22.lt
          replace hAl := hAl.grow g22
          replace OX := OX.grow g22
          replace OC1 := OC1.grow g22
          replace OR1 := OR1.grow g22
          replace hR5 := hR5.grow g22
          replace hR54 := hR54.grow g22
          replace hR65 := hR65.grow g22
          replace OY := OY.grow g22
          replace G := G.grow g22
          replace GL6 := GL6.grow g22
          replace GS11 := GS11.grow g22
          replace B1 := B1.grow g22
          replace B4 := B4.grow g22
          have zg22 := g22.size
          refine D_1 (i := 1) (by kernel_rfl) ?_
          refine E_val (i := 1) rfl (Y_load Try.underlying30 rfl rfl (B4.at (by rfl))) GS11 ?_
          refine D_1 (i := 14) (by kernel_rfl) ?_
          refine E_app2 (i := 14) rfl Try.underlying30 zr63 sz63 by63 rfl rfl OC1 rfl (Src.blk B22) (by simp [Value.oneCell']) (by omega) (Pr' := fun i => (wz ≤ i)) (fun i hi => by omega) (by omega) ?_
          intro A24 cap24 w24 X24 m24 n24
          replace OR1 := OR1.app OC1 hne n24
          replace OC1 := X24
          clear X24 n24
          replace G := G.abv m24
          replace GL6 := GL6.trn m24
          replace GS11 := GS11.trn m24
          replace hAl := hAl0.grow G
          replace OX := OX.md m24
          replace hR5 := hR5.md m24
          replace hR54 := hR54.md m24
          replace hR65 := hR65.md m24
          replace OY := OY.md m24
          replace B1 := B1.md m24
          replace B4 := B4.md m24
          have zm24 := m24.size
          refine ⟨GS11, ?_⟩
          have OR2 := OR1.more (c := ⟨true, xs[p], (xs.drop (p + 2)).take m⟩) OY (fun i hi => by omega) (Pr' := fun i => wz ≤ i) (fun i hi => by omega) (fun i hi => by omega)
          replace OC1 : OW (fun i => (wz ≤ i)) w24 63 3 A24 (q1 + 1) cap24 (flatC (cs ++ [⟨true, xs[p], (xs.drop (p + 2)).take m⟩]) (rs ++ [(AY, capY)])) := by rw [← flat_more OR1.len]; exact OC1
          refine Dq (i := 15) rfl GS11 (fun _ _ => Y_field Try.underlying32 rfl fz32_0 (by decide) rfl) ?_
          refine D_1 (i := 16) (by kernel_rfl) ?_
          refine E_stM (pre := []) (old := [_]) (post := [_]) (vs := [_]) (i := 16) rfl sz30 rfl rfl rfl (by first | rfl | assumption) B4 rfl rfl ?_
          intro w25 m25 X25
          replace B4 := Blk.eq (ys := [_, _]) X25 rfl
          clear X25
          replace G := G.abv m25
          replace GL6 := GL6.trn m25
          replace GS11 := GS11.trn m25
          replace hAl := hAl0.grow G
          replace OX := OX.md m25
          replace OC1 := OC1.md m25
          replace hR5 := hR5.md m25
          replace hR54 := hR54.md m25
          replace hR65 := hR65.md m25
          replace OR2 := OR2.md m25
          replace B1 := B1.md m25
          have zm25 := m25.size
          refine ⟨GS11, ?_⟩
          refine D_en (by kernel_rfl) rfl rfl ?_
          refine th_n (hK16 _ _ ?_)
          clear hK16 K16
          refine Sb 78 rfl ?_  -- 9
          refine S_val (Y_move rfl) ?_
          refine S_val (Y_move rfl) ?_
          refine S_val (Y_index (i := 1) Try.underlying23 sz3 rfl rfl (by first | assumption | omega)) ?_
          refine S_val (Y_load Try.underlying3 rfl rfl (by obtain ⟨g9, o9, e9, _, h9⟩ := hR5.elt (i := 1) (by omega); cases e9; exact h9)) ?_  -- l8
          refine S_val (Y_add (c := ((2 + m : Nat) : Int)) rfl rfl (by omega) (by omega) (by omega)) ?_
          refine S_val (Yl.eq hs65 (Y_sliceL Try.underlying23 sz3 rfl (j := 2 + m) rfl (by omega))) ?_
          refine S_val (Y_assign rfl) ?_
          refine S_nl rfl rfl ?_
          refine ib_n ?_
          refine th_n ?_
          go_roundw  -- e3 of L1
          case rel =>
           refine ⟨?_, GL6⟩
           exact ⟨cs ++ [⟨true, xs[p], (xs.drop (p + 2)).take m⟩], rs ++ [(AY, capY)], p + 2 + m, _, _, _, by omega, by omega, by rw [List.length_append, hq1]; rfl, ⟨_, _, _, rfl, by omega, by omega, hR65⟩, B4, OC1, OR2, hpi.next hp1 hm (by omega), by rw [rsum_snoc, List.length_append]; simp only [List.length_cons, List.length_nil, hml]; omega, by rw [List.length_append]; simp only [List.length_cons, List.length_nil]; omega⟩
          case measure =>
           show n - (2 + m) < n
           omega
   · -- c2F
    replace hb2 := nb_tf hb2
    have hdone := hpi.done (show xs.length ≤ p by omega)
    obtain rfl : q1 = cs.length := hq1
    have hHA : RC (fun i => b1 < i) w6 A1 (LH.mk cs (xs.take 4)).cells := (OC.grown (Pr' := fun i => b1 < i) OC1 OR1 (fun _ h => by omega) (fun _ h => by omega)).rc
    have hHB : R1 _ w6 AR (ints (LH.mk cs (xs.take 4)).roots) := OX.r1
    replace hHB := hHB.weak (Pr' := fun i => b1 < i) (fun i hi => by omega)
    have hHz : hsize (LH.mk cs (xs.take 4)) ≤ 1048576 := by rw [hsize_of, List.length_take]; omega
    replace OC1 := OC1.lt
    replace OR1 := OR1.lt
    refine wp_exit ?_
    refine th_x ?_
    try clear GL6
    refine th_x ?_
    refine ib_e ?_
    refine th_n (hK6 _ _ ?_)
    clear hK8 K8 hK6 K6
    refine wp_seq_k fun K17 hK17 => ?_
    refine wp_seq_k fun K18 hK18 => ?_
    refine Sb 78 rfl ?_  -- 10
    refine S_val (Y_loadS Try.underlying32 rfl sz32 rfl (B4.row (by rfl))) ?_  -- l9
    refine S_call rfl en41 (impl_HeapValid_c _ _ _ (LH.mk cs (xs.take 4)) _ _ _ hHA hHB hHz) ?_  -- k4 impl.HeapValid
    rintro v26 w26 ⟨rfl, g26⟩
    replace hAl := hAl.grow g26
    replace OX := OX.grow g26
    replace OC1 := OC1.grow g26
    replace OR1 := OR1.grow g26
    replace hR5 := hR5.grow g26
    replace hHA := hHA.grow g26
    replace hHB := hHB.grow g26
    replace G := G.grow g26
    replace B1 := B1.grow g26
    replace B4 := B4.grow g26
    have zg26 := g26.size
    refine S_val (Y_not rfl) ?_
    refine S_val (Y_move rfl) ?_
    refine S_g 69 rfl (fun hb3 => ?_) (fun hb3 => ?_)  -- g4
    · -- g4T
     first | with_reducible (replace hb3 := nb_nt hb3) | with_reducible (replace hb3 := nb_tt hb3) | with_reducible (replace hb3 := nb_bt hb3) | skip
     refine S_off rfl rfl ?_
     refine S_off rfl rfl ?_
     refine S_off rfl rfl ?_
     refine S_off rfl rfl ?_
     refine S_off rfl rfl ?_
     refine S_val (Y_pickT rfl rfl) ?_
     refine S_nl rfl rfl ?_
     refine th_n (hK18 _ _ ?_)
     clear hK18 K18
     refine S_ifT rfl ?_
     refine wp_seq_k fun K19 hK19 => ?_
     refine Sb 78 rfl ?_  -- 11
     refine S_val (Y_build (cs := [_, _]) zr32 pc32 rfl rfl) ?_
     refine S_stM (pre := []) (old := [_, _]) (post := []) (vs := [_, _]) sz32 rfl rfl rfl (by first | rfl | assumption) B1 rfl rfl ?_
     intro w27 m27 X27
     replace B1 := Blk.eq (ys := [_, _]) X27 rfl
     clear X27
     replace G := G.abv m27
     replace hAl := hAl0.grow G
     replace OX := OX.md m27
     replace OC1 := OC1.md m27
     replace OR1 := OR1.md m27
     replace hR5 := hR5.md m27
     replace hHA := hHA.md m27
     replace hHB := hHB.md m27
     replace B4 := B4.md m27
     have zm27 := m27.size
     refine S_val (Y_assign rfl) ?_
     refine S_nl rfl rfl ?_
     refine th_n (hK19 _ _ ?_)
     clear hK19 K19
     refine wp_ret ?_
     refine th_r ?_
     clear hK17 K17
     refine ret_rct (cs := [_, _]) Try.underlying32 rfl sz32 rfl rfl rfl (B1.row (by rfl)) ?_  -- r6
     have hsv : heapOfV xs = (nilH, false) := heapOf_f1 hdone hb3
     exact ⟨_, _, _, _, _, _, [], by rw [hsv], by rw [hsv]; rfl, by rw [hsv]; rfl, by rw [hsv]; exact OH.nil _ _ _ _ _ _, G⟩
    · -- g4F
     first | with_reducible (replace hb3 := nb_nf hb3) | with_reducible (replace hb3 := nb_tf hb3) | with_reducible (replace hb3 := nb_bf hb3) | skip
     refine S_on rfl rfl ?_
     refine S_val (Y_loadS Try.underlying32 rfl sz32 rfl (B4.row (by rfl))) ?_  -- l10
     refine S_on rfl rfl ?_
     refine S_call rfl en30 (impl_ViewOf_c _ _ _ (LH.mk cs (xs.take 4)) _ _ _ hHA hHB hHz) ?_  -- k5 impl.ViewOf
     rintro v28 w28 ⟨A28, q28, cap28, rfl, hq28, O28, g28⟩
     replace hAl := hAl.grow g28
     replace OX := OX.grow g28
     replace OC1 := OC1.grow g28
     replace OR1 := OR1.grow g28
     replace hR5 := hR5.grow g28
     replace hHA := hHA.grow g28
     replace hHB := hHB.grow g28
     replace G := G.grow g28
     replace B1 := B1.grow g28
     replace B4 := B4.grow g28
     have zg28 := g28.size
     subst hq28
     have hV := O28.lt.r1
     refine S_on rfl rfl ?_
     refine S_val (Y_move rfl) ?_
     refine S_on rfl rfl ?_
     refine S_call rfl en75 (impl_sameInts_c _ _ _ _ _ _ _ _ _ hV hAl (by have := viewV_len (LH.mk cs (xs.take 4)); omega)) ?_  -- k6 impl.sameInts
     rintro v29 w29 ⟨rfl, g29⟩
     replace hAl := hAl.grow g29
     replace OX := OX.grow g29
     replace OC1 := OC1.grow g29
     replace OR1 := OR1.grow g29
     replace hR5 := hR5.grow g29
     replace hHA := hHA.grow g29
     replace hHB := hHB.grow g29
     replace hV := hV.grow g29
     replace G := G.grow g29
     replace B1 := B1.grow g29
     replace B4 := B4.grow g29
     have zg29 := g29.size
     refine S_on rfl rfl ?_
     refine S_val (Y_not rfl) ?_
     refine S_val (Y_pickF rfl rfl) ?_
     refine S_nl rfl rfl ?_
     refine th_n (hK18 _ _ ?_)
     clear hK18 K18
     refine S_if rfl (fun hb4 => ?_) (fun hb4 => ?_)  -- c4
     · -- c4T
      first | with_reducible (replace hb4 := nb_nt hb4) | with_reducible (replace hb4 := nb_tt hb4) | with_reducible (replace hb4 := nb_bt hb4) | skip
      refine wp_seq_k fun K20 hK20 => ?_
      refine Sb 78 rfl ?_  -- 11
      refine S_val (Y_build (cs := [_, _]) zr32 pc32 rfl rfl) ?_
      refine S_stM (pre := []) (old := [_, _]) (post := []) (vs := [_, _]) sz32 rfl rfl rfl (by first | rfl | assumption) B1 rfl rfl ?_
      intro w30 m30 X30
      replace B1 := Blk.eq (ys := [_, _]) X30 rfl
      clear X30
      replace G := G.abv m30
      replace hAl := hAl0.grow G
      replace OX := OX.md m30
      replace OC1 := OC1.md m30
      replace OR1 := OR1.md m30
      replace hR5 := hR5.md m30
      replace hHA := hHA.md m30
      replace hHB := hHB.md m30
      replace hV := hV.md m30
      replace B4 := B4.md m30
      have zm30 := m30.size
      refine S_val (Y_assign rfl) ?_
      refine S_nl rfl rfl ?_
      refine th_n (hK20 _ _ ?_)
      clear hK20 K20
      refine wp_ret ?_
      refine th_r ?_
      clear hK17 K17
      refine ret_rct (cs := [_, _]) Try.underlying32 rfl sz32 rfl rfl rfl (B1.row (by rfl)) ?_  -- r7
      have hsv : heapOfV xs = (nilH, false) := heapOf_f2 hdone hb4
      exact ⟨_, _, _, _, _, _, [], by rw [hsv], by rw [hsv]; rfl, by rw [hsv]; rfl, by rw [hsv]; exact OH.nil _ _ _ _ _ _, G⟩
     · -- c4F
      first | with_reducible (replace hb4 := nb_nf hb4) | with_reducible (replace hb4 := nb_tf hb4) | with_reducible (replace hb4 := nb_bf hb4) | skip
      refine wp_skip ?_
      refine th_n (hK17 _ _ ?_)
      clear hK17 K17
      refine wp_seq_k fun K21 hK21 => ?_
      refine Sb 78 rfl ?_  -- 12
      refine S_val (Y_loadS Try.underlying32 rfl sz32 rfl (B4.row (by rfl))) ?_  -- l11
      refine S_stM (pre := []) (old := [_, _]) (post := []) (vs := [_, _]) sz32 rfl rfl rfl (by first | rfl | assumption) B1 rfl rfl ?_
      intro w31 m31 X31
      replace B1 := Blk.eq (ys := [_, _]) X31 rfl
      clear X31
      replace G := G.abv m31
      replace hAl := hAl0.grow G
      replace OX := OX.md m31
      replace OC1 := OC1.md m31
      replace OR1 := OR1.md m31
      replace hR5 := hR5.md m31
      replace hHA := hHA.md m31
      replace hHB := hHB.md m31
      replace hV := hV.md m31
      replace B4 := B4.md m31
      have zm31 := m31.size
      refine S_val (Y_assign rfl) ?_
      refine S_nl rfl rfl ?_
      refine th_n (hK21 _ _ ?_)
      clear hK21 K21
      refine wp_ret ?_
      refine ret_rct (cs := [_, _]) Try.underlying32 rfl sz32 rfl rfl rfl (B1.row (by rfl)) ?_  -- r8
      have hsv := heapOf_t h4 hdone hb3 hb4
      exact ⟨_, _, _, _, _, _, rs, by rw [hsv], by rw [hsv], by rw [hsv], by rw [hsv]; exact OH.of_parts (h := LH.mk cs (xs.take 4)) (OC.grown OC1 OR1 (fun _ h => h) (fun _ h => h)) OX.oi (fun k b h1 h2 h3 => by omega) (fun k hk => by omega) (fun k hk => by omega), G⟩
set_option maxHeartbeats 400000 in
set_option maxRecDepth 20000 in
theorem spec_HeapOf_c (Pr : Nat → Prop) (A : Option Addr) (xs : List Int) (c : Nat) (w : World) (hA : R1 Pr w A (ints xs)) (hx : xs.length ≤ 1048576) (hc : 4 ≤ xs.length → xs.length ≤ c) :
    Calls Try.prog 26 #[.slice A xs.length c] w (Ret fun v w' => ∃ A1 B1 n1 c1 n2 c2 rs, v = .tuple #[.agg #[.slice A1 n1 c1, .slice B1 n2 c2], .bool (heapOfV xs).2] ∧ n1 = (heapOfV xs).1.cells.length ∧ n2 = (heapOfV xs).1.roots.length ∧ OH (fun i => w.heap.size ≤ i) w' 63 3 A1 B1 (heapOfV xs).1 rs ∧ Grow w w') := by
 have hne : (63 : TypeId) ≠ 3 := by decide
 have hAl := hA.below
 refine enter Try.func26 rfl Try.ntmps26 (L := [_,_,_,_,_,_,_,_,_,_,_,_,_,_,_,_,_,_,_,_,_,_,_,_,_,_,_,_,_,_,_,_,_,_,_,_,_,_,_,_,_,_,_,_,_,_,_,_,_,_,_,_,_,_,_,_,_,_,_,_,_,_,_,_,_,_,_,_,_,_,_,_,_,_,_,_,_,_,_,_,_,_,_,_,_,_,_,_,_,_,_,_,_,_,_,_,_,_,_,_,_,_,_,_,_,_,_]) rfl ?_
 have G := Mod.refl No w
 have hAl0 := hAl
 refine wp_seq_k fun K1 hK1 => ?_
 refine Sb 107 rfl ?_  -- 0
 refine S_alloc (cs := [_, _]) zr32 rfl ?_
 intro b1 w1 fb1 g1 B1
 have lb1 := B1.lt
 replace hAl := hAl.grow g1
 replace G := G.grow g1
 have zg1 := g1.size
 refine S_val (Y_assign rfl) ?_
 refine S_nl rfl rfl ?_
 refine th_n (hK1 _ _ ?_)
 clear hK1 K1
 refine wp_seq_k fun K2 hK2 => ?_
 refine Sb 107 rfl ?_  -- 1
 refine S_val (Y_build (cs := [_, _]) zr32 pc32 rfl rfl) ?_
 refine S_alloc (cs := [_, _]) zr32 rfl ?_
 intro b2 w2 fb2 g2 B2
 have lb2 := B2.lt
 replace hAl := hAl.grow g2
 replace G := G.grow g2
 replace B1 := B1.grow g2
 have zg2 := g2.size
 refine S_stM (pre := []) (old := [_, _]) (post := []) (vs := [_, _]) sz32 rfl rfl rfl (by first | rfl | assumption) B2 rfl rfl ?_
 intro w3 m3 X3
 replace B2 := Blk.eq (ys := [_, _]) X3 rfl
 clear X3
 replace G := G.abv m3
 replace hAl := hAl0.grow G
 replace B1 := B1.md m3
 have zm3 := m3.size
 refine S_nl rfl rfl ?_
 refine th_n (hK2 _ _ ?_)
 clear hK2 K2
 refine wp_seq_k fun K3 hK3 => ?_
 refine wp_seq_k fun K4 hK4 => ?_
 refine Sb 107 rfl ?_  -- 2
 refine S_val (Y_move rfl) ?_
 refine S_val (Y_len Try.underlying23 rfl) ?_
 refine S_val (Y_lss rfl rfl) ?_
 refine S_nl rfl rfl ?_
 refine th_n (hK4 _ _ ?_)
 clear hK4 K4
 refine S_if rfl (fun hb1 => ?_) (fun hb1 => ?_)  -- c1
 · -- c1T
  replace hb1 := nb_tt hb1
  have h4n : ¬ 4 ≤ xs.length := by omega
  refine wp_seq_k fun K5 hK5 => ?_
  refine Sb 107 rfl ?_  -- 3
  refine S_val (Y_loadS Try.underlying32 rfl sz32 rfl (B2.row (by rfl))) ?_  -- l1
  refine S_stM (pre := []) (old := [_, _]) (post := []) (vs := [_, _]) sz32 rfl rfl rfl (by first | rfl | assumption) B1 rfl rfl ?_
  intro w4 m4 X4
  replace B1 := Blk.eq (ys := [_, _]) X4 rfl
  clear X4
  replace G := G.abv m4
  replace hAl := hAl0.grow G
  replace B2 := B2.md m4
  have zm4 := m4.size
  refine S_val (Y_assign rfl) ?_
  refine S_nl rfl rfl ?_
  refine th_n (hK5 _ _ ?_)
  clear hK5 K5
  refine wp_ret ?_
  refine th_r ?_
  clear hK3 K3
  refine ret_rct (cs := [_, _]) Try.underlying32 rfl sz32 rfl rfl rfl (B1.row (by rfl)) ?_  -- r1
  have hsv : heapOfV xs = (nilH, false) := heapOf_short h4n
  exact ⟨_, _, _, _, _, _, [], by rw [hsv], by rw [hsv]; rfl, by rw [hsv]; rfl, by rw [hsv]; exact OH.nil _ _ _ _ _ _, G⟩
 · -- c1F
  replace hb1 := nb_tf hb1
  have h4 : 4 ≤ xs.length := by omega
  have hcl := hc h4
  have hA4 := hAl.head (k := 4)
  have e4 : (xs.take 4).length = 4 := by rw [List.length_take]; omega
  have hs11 : Value.slice A 4 c = .slice A (xs.take 4).length c := by rw [e4]
  refine wp_skip ?_
  refine th_n (hK3 _ _ ?_)
  clear hK3 K3
  refine wp_seq_k fun K6 hK6 => ?_
  refine Sb 107 rfl ?_  -- 4
  refine S_bs0 Try.underlying23 sz3 ?_
  intro b5 w5 fb5 g5 B5
  have lb5 := B5.lt
  replace hAl := hAl.grow g5
  replace hA4 := hA4.grow g5
  replace G := G.grow g5
  replace B1 := B1.grow g5
  replace B2 := B2.grow g5
  have zg5 := g5.size
  refine S_val (Y_move rfl) ?_
  refine S_val (Yl.eq hs11 (Y_sliceH Try.underlying23 sz3 rfl (j := 4) rfl (by omega))) ?_
  have OY : OW (fun i => b2 < i) w5 3 1 (some ⟨b5, 0, none⟩) 0 0 [] := OW.of_blk B5 rfl (by decide) (by omega)
  refine S_app0 (news := ints (xs.take 4)) Try.underlying23 zr3 sz3 by3 rfl rfl OY (by rw [ints_len]; omega) (by have hsr := Src.r1 hA4; rw [ints_len] at hsr; exact hsr) ints_one (by omega) (Pr' := fun i => b2 < i) (fun i hi => hi) (by omega) ?_
  intro A6 cap6 w6 X6 m6
  replace OY := X6
  clear X6
  replace G := G.abv m6
  replace hAl := hAl0.grow G
  replace hA4 := hA4.md m6
  replace B1 := B1.md m6
  replace B2 := B2.md m6
  have zm6 := m6.size
  have OX := OY.lt
  obtain ⟨AR, rfl⟩ : ∃ x, x = A6 := ⟨_, rfl⟩
  obtain ⟨capR, rfl⟩ : ∃ x, x = cap6 := ⟨_, rfl⟩
  clear OY
  refine S_val (Y_field Try.underlying32 rfl fz32_1 (by decide) rfl) ?_
  refine S_stM (pre := [_]) (old := [_]) (post := []) (vs := [_]) sz23 rfl rfl rfl (by first | rfl | assumption) B2 rfl rfl ?_
  intro w7 m7 X7
  replace B2 := Blk.eq (ys := [_, _]) X7 rfl
  clear X7
  replace G := G.abv m7
  replace hAl := hAl0.grow G
  replace hA4 := hA4.md m7
  replace OX := OX.md m7
  replace B1 := B1.md m7
  have zm7 := m7.size
  refine S_nl rfl rfl ?_
  refine th_n (hK6 _ _ ?_)
  clear hK6 K6
  refine wp_seq_k fun K7 hK7 => ?_
  refine wp_seq_k fun K8 hK8 => ?_
  refine Sb 107 rfl ?_  -- 5
  refine S_val (Y_assign rfl) ?_
  refine S_nl rfl rfl ?_
  refine th_n (hK8 _ _ ?_)
  clear hK8 K8
  refine wp_block ?_
  obtain ⟨wz, hwz⟩ : ∃ x, x = w7.heap.size := ⟨_, rfl⟩
  have OC1 : OW (fun i => wz ≤ i) w7 63 3 none 0 0 (flatC ([] : List LC) []) := OW.nil _ _ _ _
  have OR1 : ORs (fun i => wz ≤ i) w7 3 ([] : List LC) [] := ORs.nil _ _ _
  go_loopw [5] (fun u5 wr => (∃ (cs : List LC) (rs : List (Option Addr × Nat)) (p q cap : Nat) (A1 : Option Addr), 4 ≤ p ∧ p ≤ xs.length ∧ q = cs.length ∧ u5 = .int .i64 (p : Int) ∧ Blk wr b2 32 [.slice A1 q cap, .slice AR (xs.take 4).length capR].toArray ∧ OW (fun i => wz ≤ i) wr 63 3 A1 q cap (flatC cs rs) ∧ ORs (fun i => wz ≤ i) wr 3 cs rs ∧ PI xs cs p ∧ 2 * cs.length + rsum cs cs.length + 4 = p) ∧ Mod (fun i => i = b2 ∨ wz ≤ i) w7 wr) (fun u5 wr => xs.length - (intOf u5).toNat)  -- L1
  case atStart =>
   refine ⟨?_, Mod.refl _ _⟩
   exact ⟨[], [], 4, 0, 0, none, by omega, by omega, rfl, rfl, B2, OC1, OR1, PI.start xs, by simp [rsum]⟩
  case round =>
   obtain ⟨w8, rfl⟩ : ∃ x : World, x = wr := ⟨_, rfl⟩
   obtain ⟨hrel, g8⟩ := hrel
   clear B2
   clear OC1
   clear OR1
   replace G := G.abv g8
   replace hAl := hAl0.grow G
   replace hA4 := hA4.md g8
   replace OX := OX.md g8
   replace B1 := B1.md g8
   have zg8 := g8.size
   obtain ⟨cs, rs, p, q1, cap1, A1, hp4, hpl, hq1, rfl, B2, OC1, OR1, hpi, hwt⟩ := hrel
   have GL8 := g8
   refine wp_seq_k fun K9 hK9 => ?_
   refine wp_seq_k fun K10 hK10 => ?_
   refine Sb 107 rfl ?_  -- 6
   refine S_val (Y_move rfl) ?_
   refine S_val (Y_move rfl) ?_
   refine S_val (Y_len Try.underlying23 rfl) ?_
   refine S_val (Y_lss rfl rfl) ?_
   refine S_nl rfl rfl ?_
   refine th_n (hK10 _ _ ?_)
   clear hK10 K10
   refine S_if rfl (fun hb2 => ?_) (fun hb2 => ?_)  -- c2
   · -- c2T
    replace hb2 := nb_tt hb2
    have hn0 : p < xs.length := by omega
    replace OC1 := OC1.lt
    replace OR1 := OR1.lt
    refine wp_skip ?_
    refine th_n (hK9 _ _ ?_)
    clear hK9 K9
    refine wp_block ?_
    refine wp_seq_k fun K11 hK11 => ?_
    refine wp_seq_k fun K12 hK12 => ?_
    refine Sb 107 rfl ?_  -- 7
    refine S_val (Y_move rfl) ?_
    refine S_val (Y_add (c := ((p + 1 : Nat) : Int)) rfl rfl (by omega) (by omega) (by omega)) ?_
    refine S_val (Y_move rfl) ?_
    refine S_val (Y_len Try.underlying23 rfl) ?_
    refine S_val (Y_geq rfl rfl) ?_
    refine S_val (Y_move rfl) ?_
    refine S_g 27 rfl (fun hb3 => ?_) (fun hb3 => ?_)  -- g1
    · -- g1T
     replace hb3 := nb_tt hb3
     refine S_off rfl rfl ?_
     refine S_off rfl rfl ?_
     refine S_off rfl rfl ?_
     refine S_off rfl rfl ?_
     refine S_off rfl rfl ?_
     refine S_off rfl rfl ?_
     refine S_off rfl rfl ?_
     refine S_val (Y_pickT rfl rfl) ?_
     refine S_val (Y_move rfl) ?_
     refine S_off rfl rfl ?_
     refine S_off rfl rfl ?_
     refine S_off rfl rfl ?_
     refine S_off rfl rfl ?_
     refine S_off rfl rfl ?_
     refine S_off rfl rfl ?_
     refine S_off rfl rfl ?_
     refine S_off rfl rfl ?_
     refine S_off rfl rfl ?_
     refine S_off rfl rfl ?_
     refine S_off rfl rfl ?_
     refine S_val (Y_pickT rfl rfl) ?_
     refine S_nl rfl rfl ?_
     refine th_n (hK12 _ _ ?_)
     clear hK12 K12
     refine S_ifT rfl ?_
     refine wp_seq_k fun K13 hK13 => ?_
     refine Sb 107 rfl ?_  -- 8
     refine S_val (Y_build (cs := [_, _]) zr32 pc32 rfl rfl) ?_
     refine S_stM (pre := []) (old := [_, _]) (post := []) (vs := [_, _]) sz32 rfl rfl rfl (by first | rfl | assumption) B1 rfl rfl ?_
     intro w9 m9 X9
     replace B1 := Blk.eq (ys := [_, _]) X9 rfl
     clear X9
     replace G := G.abv m9
     first | replace GL8 := GL8.abv m9 | clear GL8
     replace hAl := hAl0.grow G
     replace hA4 := hA4.md m9
     replace OX := OX.md m9
     replace OC1 := OC1.md m9
     replace OR1 := OR1.md m9
     replace B2 := B2.md m9
     have zm9 := m9.size
     refine S_val (Y_assign rfl) ?_
     refine S_nl rfl rfl ?_
     refine th_n (hK13 _ _ ?_)
     clear hK13 K13
     refine wp_ret ?_
     refine th_r ?_
     refine ib_r ?_
     try clear GL8
     refine th_r ?_
     refine ib_r ?_
     refine th_r ?_
     clear hK11 K11 hK7 K7
     refine ret_rct (cs := [_, _]) Try.underlying32 rfl sz32 rfl rfl rfl (B1.row (by rfl)) ?_  -- r2
     have hsv : heapOfV xs = (nilH, false) := heapOf_none (hpi.bad (parse_end_at hn0 (by omega)))
     exact ⟨_, _, _, _, _, _, [], by rw [hsv], by rw [hsv]; rfl, by rw [hsv]; rfl, by rw [hsv]; exact OH.nil _ _ _ _ _ _, G⟩
    · -- g1F
     replace hb3 := nb_tf hb3
     have hp1 : p + 1 < xs.length := by omega
     obtain ⟨g4, o4, e44, hp4b, hc4⟩ := hAl.int hp1
     cases e44
     refine S_on rfl rfl ?_
     refine S_val (Y_move rfl) ?_
     refine S_on rfl rfl ?_
     refine S_val (Y_move rfl) ?_
     refine S_on rfl rfl ?_
     refine S_val (Y_add (c := ((p + 1 : Nat) : Int)) rfl rfl (by omega) (by omega) (by omega)) ?_
     refine S_on rfl rfl ?_
     refine S_val (Y_index Try.underlying23 sz3 rfl rfl (by first | assumption | omega)) ?_
     refine S_on rfl rfl ?_
     refine S_val (Y_load Try.underlying3 rfl rfl (by obtain ⟨g9, o9, e9, _, h9⟩ := hAl.int (k := p + 1) (by omega); cases e9; exact h9)) ?_  -- l2
     refine S_on rfl rfl ?_
     refine S_call rfl en52 (spec_l1In_c _ _ _ _) ?_  -- k1 spec.l1In
     rintro v w' ⟨rfl, rfl⟩
     refine S_on rfl rfl ?_
     refine S_val (Y_not rfl) ?_
     refine S_val (Y_pickF rfl rfl) ?_
     refine S_val (Y_move rfl) ?_
     refine S_g 36 rfl (fun hb4 => ?_) (fun hb4 => ?_)  -- g2
     · -- g2T
      first | with_reducible (replace hb4 := nb_nt hb4) | with_reducible (replace hb4 := nb_tt hb4) | with_reducible (replace hb4 := nb_bt hb4) | skip
      refine S_off rfl rfl ?_
      refine S_off rfl rfl ?_
      refine S_off rfl rfl ?_
      refine S_off rfl rfl ?_
      refine S_off rfl rfl ?_
      refine S_off rfl rfl ?_
      refine S_off rfl rfl ?_
      refine S_off rfl rfl ?_
      refine S_off rfl rfl ?_
      refine S_off rfl rfl ?_
      refine S_off rfl rfl ?_
      refine S_val (Y_pickT rfl rfl) ?_
      refine S_nl rfl rfl ?_
      refine th_n (hK12 _ _ ?_)
      clear hK12 K12
      refine S_ifT rfl ?_
      refine wp_seq_k fun K14 hK14 => ?_
      refine Sb 107 rfl ?_  -- 8
      refine S_val (Y_build (cs := [_, _]) zr32 pc32 rfl rfl) ?_
      refine S_stM (pre := []) (old := [_, _]) (post := []) (vs := [_, _]) sz32 rfl rfl rfl (by first | rfl | assumption) B1 rfl rfl ?_
      intro w11 m11 X11
      replace B1 := Blk.eq (ys := [_, _]) X11 rfl
      clear X11
      replace G := G.abv m11
      first | replace GL8 := GL8.abv m11 | clear GL8
      replace hAl := hAl0.grow G
      replace hA4 := hA4.md m11
      replace OX := OX.md m11
      replace OC1 := OC1.md m11
      replace OR1 := OR1.md m11
      replace B2 := B2.md m11
      have zm11 := m11.size
      refine S_val (Y_assign rfl) ?_
      refine S_nl rfl rfl ?_
      refine th_n (hK14 _ _ ?_)
      clear hK14 K14
      refine wp_ret ?_
      refine th_r ?_
      refine ib_r ?_
      try clear GL8
      refine th_r ?_
      refine ib_r ?_
      refine th_r ?_
      clear hK11 K11 hK7 K7
      refine ret_rct (cs := [_, _]) Try.underlying32 rfl sz32 rfl rfl rfl (B1.row (by rfl)) ?_  -- r3
      have hsv : heapOfV xs = (nilH, false) := by
        by_cases h3 : 3 < xs[p + 1]
        · exact heapOf_big hpi hp1 h3
        · exact heapOf_none (hpi.bad (parse_bad_at hp1 (by omega)))
      exact ⟨_, _, _, _, _, _, [], by rw [hsv], by rw [hsv]; rfl, by rw [hsv]; rfl, by rw [hsv]; exact OH.nil _ _ _ _ _ _, G⟩
     · -- g2F
      first | with_reducible (replace hb4 := nb_nf hb4) | with_reducible (replace hb4 := nb_tf hb4) | with_reducible (replace hb4 := nb_bf hb4) | skip
      obtain ⟨m, hm⟩ := Int.eq_ofNat_of_zero_le (show 0 ≤ xs[p + 1] by omega)
      have hm3 : m ≤ 3 := by omega
      refine S_on rfl rfl ?_
      refine S_val (Y_move rfl) ?_
      refine S_on rfl rfl ?_
      refine S_val (Y_add (c := ((p + 2 : Nat) : Int)) rfl rfl (by omega) (by omega) (by omega)) ?_
      refine S_on rfl rfl ?_
      refine S_val (Y_move rfl) ?_
      refine S_on rfl rfl ?_
      refine S_val (Y_move rfl) ?_
      refine S_on rfl rfl ?_
      refine S_val (Y_add (c := ((p + 1 : Nat) : Int)) rfl rfl (by omega) (by omega) (by omega)) ?_
      refine S_on rfl rfl ?_
      refine S_val (Y_index Try.underlying23 sz3 rfl rfl (by first | assumption | omega)) ?_
      refine S_on rfl rfl ?_
      refine S_val (Y_load Try.underlying3 rfl rfl (by obtain ⟨g9, o9, e9, _, h9⟩ := hAl.int (k := p + 1) (by omega); cases e9; exact h9)) ?_  -- l3
      refine S_on rfl rfl ?_
      refine S_val (Y_add (c := ((p + 2 + m : Nat) : Int)) rfl rfl (by omega) (by omega) (by omega)) ?_
      refine S_on rfl rfl ?_
      refine S_val (Y_move rfl) ?_
      refine S_on rfl rfl ?_
      refine S_val (Y_len Try.underlying23 rfl) ?_
      refine S_on rfl rfl ?_
      refine S_val (Y_gtr rfl rfl) ?_
      refine S_val (Y_pickF rfl rfl) ?_
      refine S_nl rfl rfl ?_
      refine th_n (hK12 _ _ ?_)
      clear hK12 K12
      refine S_if rfl (fun hb5 => ?_) (fun hb5 => ?_)  -- c3
      · -- c3T
       first | with_reducible (replace hb5 := nb_nt hb5) | with_reducible (replace hb5 := nb_tt hb5) | with_reducible (replace hb5 := nb_bt hb5) | skip
       refine wp_seq_k fun K15 hK15 => ?_
       refine Sb 107 rfl ?_  -- 8
       refine S_val (Y_build (cs := [_, _]) zr32 pc32 rfl rfl) ?_
       refine S_stM (pre := []) (old := [_, _]) (post := []) (vs := [_, _]) sz32 rfl rfl rfl (by first | rfl | assumption) B1 rfl rfl ?_
       intro w12 m12 X12
       replace B1 := Blk.eq (ys := [_, _]) X12 rfl
       clear X12
       replace G := G.abv m12
       first | replace GL8 := GL8.abv m12 | clear GL8
       replace hAl := hAl0.grow G
       replace hA4 := hA4.md m12
       replace OX := OX.md m12
       replace OC1 := OC1.md m12
       replace OR1 := OR1.md m12
       replace B2 := B2.md m12
       have zm12 := m12.size
       refine S_val (Y_assign rfl) ?_
       refine S_nl rfl rfl ?_
       refine th_n (hK15 _ _ ?_)
       clear hK15 K15
       refine wp_ret ?_
       refine th_r ?_
       refine ib_r ?_
       try clear GL8
       refine th_r ?_
       refine ib_r ?_
       refine th_r ?_
       clear hK11 K11 hK7 K7
       refine ret_rct (cs := [_, _]) Try.underlying32 rfl sz32 rfl rfl rfl (B1.row (by rfl)) ?_  -- r4
       have hsv : heapOfV xs = (nilH, false) := heapOf_none (hpi.bad (parse_bad_at hp1 (by omega)))
       exact ⟨_, _, _, _, _, _, [], by rw [hsv], by rw [hsv]; rfl, by rw [hsv]; rfl, by rw [hsv]; exact OH.nil _ _ _ _ _ _, G⟩
      · -- c3F
       first | with_reducible (replace hb5 := nb_nf hb5) | with_reducible (replace hb5 := nb_tf hb5) | with_reducible (replace hb5 := nb_bf hb5) | skip
       have hm2 : 2 + m ≤ xs.length - p := by omega
       have hml : ((xs.drop (p + 2)).take m).length = m := by rw [List.length_take, List.length_drop]; omega
       refine wp_skip ?_
       refine th_n (hK11 _ _ ?_)
       clear hK11 K11
       refine wp_seq_k fun K16 hK16 => ?_
       refine D_start 25 107 (fun w => Mod (fun i => i = b2 ∨ wz ≤ i) w) follows rfl rfl ?_  -- d1 r9
       intro w13 g13
       replace hAl := hAl.grow g13
       replace hA4 := hA4.grow g13
       replace OX := OX.grow g13
       replace OC1 := OC1.grow g13
       replace OR1 := OR1.grow g13
       replace G := G.grow g13
       replace GL8 := GL8.grow g13
       replace B1 := B1.grow g13
       replace B2 := B2.grow g13
       have zg13 := g13.size
       have GS13 := Mod.refl (fun i => i = b2 ∨ wz ≤ i) w13
       obtain ⟨g6, o6, e6, hp6, hc6⟩ := hAl.int (k := p) (by omega)
       cases e6
       obtain ⟨g7, o7, e7, hp7, hc7⟩ := hAl.int (k := p + 1) (by omega)
       cases e7
       obtain ⟨A54, hs54, hR54⟩ := hAl.subAt (p := p + 2) (m := m) (cap := c) (by omega) (by omega)
       refine Dq (i := 0) rfl GS13 (fun _ _ => Y_field Try.underlying32 rfl fz32_0 (by decide) rfl) ?_
       refine Dq (i := 2) rfl GS13 (fun _ _ => Y_move rfl) ?_
       refine Dq (i := 3) rfl GS13 (fun _ _ => Y_move rfl) ?_
       refine Dq (i := 4) rfl GS13 (fun _ _ => Y_index Try.underlying23 sz3 rfl rfl (by first | assumption | omega)) ?_
       refine Dq (i := 5) rfl GS13 (fun _ hs => Y_load Try.underlying3 rfl rfl (by first | exact hs.cell (by assumption) (by intro h; first | omega | (dsimp only at h; omega)) | exact hs.cell (B1.at (by rfl)) (by intro h; first | omega | (dsimp only at h; omega)) | exact hs.cell (B2.at (by rfl)) (by intro h; first | omega | (dsimp only at h; omega)))) ?_
       refine Dq (i := 7) rfl GS13 (fun _ _ => Y_move rfl) ?_
       refine Dq (i := 8) rfl GS13 (fun _ _ => Y_move rfl) ?_
       refine Dq (i := 9) rfl GS13 (fun _ _ => Y_add (c := ((p + 2 : Nat) : Int)) rfl rfl (by omega) (by omega) (by omega)) ?_
       refine Dq (i := 10) rfl GS13 (fun _ _ => Y_move rfl) ?_
       refine Dq (i := 11) rfl GS13 (fun _ _ => Y_add (c := ((p + 2 : Nat) : Int)) rfl rfl (by omega) (by omega) (by omega)) ?_
       refine Dq (i := 12) rfl GS13 (fun _ _ => Y_move rfl) ?_
       refine Dq (i := 13) rfl GS13 (fun _ _ => Y_move rfl) ?_
       refine Dq (i := 14) rfl GS13 (fun _ _ => Y_add (c := ((p + 1 : Nat) : Int)) rfl rfl (by omega) (by omega) (by omega)) ?_
       refine Dq (i := 15) rfl GS13 (fun _ _ => Y_index Try.underlying23 sz3 rfl rfl (by first | assumption | omega)) ?_
       refine Dq (i := 16) rfl GS13 (fun _ hs => Y_load Try.underlying3 rfl rfl (by first | exact hs.cell (by assumption) (by intro h; first | omega | (dsimp only at h; omega)) | exact hs.cell (B1.at (by rfl)) (by intro h; first | omega | (dsimp only at h; omega)) | exact hs.cell (B2.at (by rfl)) (by intro h; first | omega | (dsimp only at h; omega)))) ?_
       refine Dq (i := 17) rfl GS13 (fun _ _ => Y_add (c := ((p + 2 + m : Nat) : Int)) rfl rfl (by omega) (by omega) (by omega)) ?_
       refine Dq (i := 18) rfl GS13 (fun _ _ => Yl.eq hs54 (Y_sliceLH Try.underlying23 sz3 rfl (j := p + 2) (k := p + 2 + m) rfl rfl (by omega) (by omega))) ?_
       refine D_2 (i := 1) (j := 6) (by kernel_rfl) ?_ ?_
       · -- operation 1 comes up
        refine E_val (i := 1) rfl (Y_load Try.underlying30 rfl rfl (B2.at (by rfl))) GS13 ?_
        refine D_1 (i := 6) (by kernel_rfl) ?_
        refine E_bs0 (i := 6) rfl Try.underlying23 sz3 ?_
        intro b15 w15 fb15 g15 B15
        refine ⟨GS13.grow g15, ?_⟩
        have lb15 := B15.lt
        replace hAl := hAl.grow g15
        replace hA4 := hA4.grow g15
        replace OX := OX.grow g15
        replace OC1 := OC1.grow g15
        replace OR1 := OR1.grow g15
        replace hR54 := hR54.grow g15
        replace G := G.grow g15
        replace GL8 := GL8.grow g15
        replace GS13 := GS13.grow g15
        replace B1 := B1.grow g15
        replace B2 := B2.grow g15
        have zg15 := g15.size
        refine D_1 (i := 19) (by kernel_rfl) ?_
        have OY : OW (fun i => b15 ≤ i) w15 3 1 (some ⟨b15, 0, none⟩) 0 0 [] := OW.of_blk B15 rfl (by decide) (Nat.le_refl _)
        refine E_app0 (i := 19) rfl (news := ints ((xs.drop (p + 2)).take m)) Try.underlying23 zr3 sz3 by3 rfl rfl OY (by rw [ints_len, Nat.mul_one]) (by have hsr := Src.r1 hR54; rw [ints_len] at hsr; exact hsr) ints_one (by omega) (Pr' := fun i => b15 ≤ i) (fun i hi => hi) (by omega) ?_
        intro A16 cap16 w16 X16 m16
        replace OY := X16
        clear X16
        replace G := G.abv m16
        first | replace GL8 := GL8.abv m16 | clear GL8
        replace GS13 := GS13.abv m16
        replace hAl := hAl0.grow G
        replace hA4 := hA4.md m16
        replace OX := OX.md m16
        replace OC1 := OC1.md m16
        replace OR1 := OR1.md m16
        replace hR54 := hR54.md m16
        replace B1 := B1.md m16
        replace B2 := B2.md m16
        have zm16 := m16.size
        refine ⟨GS13, ?_⟩
        obtain ⟨AY, rfl⟩ : ∃ x, x = A16 := ⟨_, rfl⟩
        obtain ⟨capY, rfl⟩ : ∃ x, x = cap16 := ⟨_, rfl⟩
        refine Dq (i := 20) rfl GS13 (fun _ _ => Y_build (cs := [_, _, _]) zr63 pc63 rfl rfl) ?_
        refine D_1 (i := 21) (by kernel_rfl) ?_
        refine E_bs1 (cs := [_, _, _]) (i := 21) rfl Try.underlying30 zr63 sz63 rfl rfl rfl ?_
        intro b17 w17 fb17 g17 B17
        refine ⟨GS13.grow g17, ?_⟩
        have lb17 := B17.lt
        replace hAl := hAl.grow g17
        replace hA4 := hA4.grow g17
        replace OX := OX.grow g17
        replace OC1 := OC1.grow g17
        replace OR1 := OR1.grow g17
        replace hR54 := hR54.grow g17
        replace OY := OY.grow g17
        replace G := G.grow g17
        replace GL8 := GL8.grow g17
        replace GS13 := GS13.grow g17
        replace B1 := B1.grow g17
        replace B2 := B2.grow g17
        have zg17 := g17.size
        refine D_1 (i := 22) (by kernel_rfl) ?_
        refine E_app2 (i := 22) rfl Try.underlying30 zr63 sz63 by63 rfl rfl OC1 rfl (Src.blk B17) (by simp [Value.oneCell']) (by omega) (Pr' := fun i => (wz ≤ i)) (fun i hi => by omega) (by omega) ?_
        intro A18 cap18 w18 X18 m18 n18
        replace OR1 := OR1.app OC1 hne n18
        replace OC1 := X18
        clear X18 n18
        replace G := G.abv m18
        replace GL8 := GL8.trn m18
        replace GS13 := GS13.trn m18
        replace hAl := hAl0.grow G
        replace hA4 := hA4.md m18
        replace OX := OX.md m18
        replace hR54 := hR54.md m18
        replace OY := OY.md m18
        replace B1 := B1.md m18
        replace B2 := B2.md m18
        have zm18 := m18.size
        refine ⟨GS13, ?_⟩
        have OR2 := OR1.more (c := ⟨true, xs[p], (xs.drop (p + 2)).take m⟩) OY (fun i hi => by omega) (Pr' := fun i => wz ≤ i) (fun i hi => by omega) (fun i hi => by omega)
        replace OC1 : OW (fun i => (wz ≤ i)) w18 63 3 A18 (q1 + 1) cap18 (flatC (cs ++ [⟨true, xs[p], (xs.drop (p + 2)).take m⟩]) (rs ++ [(AY, capY)])) := by rw [← flat_more OR1.len]; exact OC1
        refine Dq (i := 23) rfl GS13 (fun _ _ => Y_field Try.underlying32 rfl fz32_0 (by decide) rfl) ?_
        refine D_1 (i := 24) (by kernel_rfl) ?_
        refine E_stM (pre := []) (old := [_]) (post := [_]) (vs := [_]) (i := 24) rfl sz30 rfl rfl rfl (by first | rfl | assumption) B2 rfl rfl ?_
        intro w19 m19 X19
        replace B2 := Blk.eq (ys := [_, _]) X19 rfl
        clear X19
        replace G := G.abv m19
        replace GL8 := GL8.trn m19
        replace GS13 := GS13.trn m19
        replace hAl := hAl0.grow G
        replace hA4 := hA4.md m19
        replace OX := OX.md m19
        replace OC1 := OC1.md m19
        replace hR54 := hR54.md m19
        replace OR2 := OR2.md m19
        replace B1 := B1.md m19
        have zm19 := m19.size
        refine ⟨GS13, ?_⟩
        refine D_en (by kernel_rfl) rfl rfl ?_
        refine th_n (hK16 _ _ ?_)
        clear hK16 K16
        refine Sb 107 rfl ?_  -- 10
        refine S_val (Y_move rfl) ?_
        refine S_val (Y_add (c := ((p + 2 : Nat) : Int)) rfl rfl (by omega) (by omega) (by omega)) ?_
        refine S_val (Y_move rfl) ?_
        refine S_val (Y_move rfl) ?_
        refine S_val (Y_add (c := ((p + 1 : Nat) : Int)) rfl rfl (by omega) (by omega) (by omega)) ?_
        refine S_val (Y_index Try.underlying23 sz3 rfl rfl (by first | assumption | omega)) ?_
        refine S_val (Y_load Try.underlying3 rfl rfl (by obtain ⟨g9, o9, e9, _, h9⟩ := hAl.int (k := p + 1) (by omega); cases e9; exact h9)) ?_  -- l6
        refine S_val (Y_add (c := ((p + 2 + m : Nat) : Int)) rfl rfl (by omega) (by omega) (by omega)) ?_
        refine S_val (Y_assign rfl) ?_
        refine S_nl rfl rfl ?_
        refine ib_n ?_
        refine th_n ?_
        go_roundw  -- e1 of L1
        case rel =>
         refine ⟨?_, GL8⟩
         exact ⟨cs ++ [⟨true, xs[p], (xs.drop (p + 2)).take m⟩], rs ++ [(AY, capY)], p + 2 + m, _, _, _, by omega, by omega, by rw [List.length_append, hq1]; rfl, rfl, B2, OC1, OR2, hpi.next hp1 hm (by omega), by rw [rsum_snoc, List.length_append]; simp only [List.length_cons, List.length_nil, hml]; omega⟩
        case measure =>
         show xs.length - (p + 2 + m) < xs.length - p
         omega
       · -- operation 6 comes up
        refine E_bs0 (i := 6) rfl Try.underlying23 sz3 ?_
        intro b20 w20 fb20 g20 B20
        refine ⟨GS13.grow g20, ?_⟩
        have lb20 := B20.lt
        replace hAl := hAl.grow g20
        replace hA4 := hA4.grow g20
        replace OX := OX.grow g20
        replace OC1 := OC1.grow g20
        replace OR1 := OR1.grow g20
        replace hR54 := hR54.grow g20
        replace G := G.grow g20
        replace GL8 := GL8.grow g20
        replace GS13 := GS13.grow g20
        replace B1 := B1.grow g20
        replace B2 := B2.grow g20
        have zg20 := g20.size
        refine D_2 (i := 1) (j := 19) (by kernel_rfl) ?_ ?_
        · -- operation 1 comes up
         refine E_val (i := 1) rfl (Y_load Try.underlying30 rfl rfl (B2.at (by rfl))) GS13 ?_
         refine D_1 (i := 19) (by kernel_rfl) ?_
         have OY : OW (fun i => b20 ≤ i) w20 3 1 (some ⟨b20, 0, none⟩) 0 0 [] := OW.of_blk B20 rfl (by decide) (Nat.le_refl _)
         refine E_app0 (i := 19) rfl (news := ints ((xs.drop (p + 2)).take m)) Try.underlying23 zr3 sz3 by3 rfl rfl OY (by rw [ints_len, Nat.mul_one]) (by have hsr := Src.r1 hR54; rw [ints_len] at hsr; exact hsr) ints_one (by omega) (Pr' := fun i => b20 ≤ i) (fun i hi => hi) (by omega) ?_
         intro A22 cap22 w22 X22 m22
         replace OY := X22
         clear X22
         replace G := G.abv m22
         first | replace GL8 := GL8.abv m22 | clear GL8
         replace GS13 := GS13.abv m22
         replace hAl := hAl0.grow G
         replace hA4 := hA4.md m22
         replace OX := OX.md m22
         replace OC1 := OC1.md m22
         replace OR1 := OR1.md m22
         replace hR54 := hR54.md m22
         replace B1 := B1.md m22
         replace B2 := B2.md m22
         have zm22 := m22.size
         refine ⟨GS13, ?_⟩
         obtain ⟨AY, rfl⟩ : ∃ x, x = A22 := ⟨_, rfl⟩
         obtain ⟨capY, rfl⟩ : ∃ x, x = cap22 := ⟨_, rfl⟩
         refine Dq (i := 20) rfl GS13 (fun _ _ => Y_build (cs := [_, _, _]) zr63 pc63 rfl rfl) ?_
         refine D_1 (i := 21) (by kernel_rfl) ?_
         refine E_bs1 (cs := [_, _, _]) (i := 21) rfl Try.underlying30 zr63 sz63 rfl rfl rfl ?_
         intro b23 w23 fb23 g23 B23
         refine ⟨GS13.grow g23, ?_⟩
         have lb23 := B23.lt
         replace hAl := hAl.grow g23
         replace hA4 := hA4.grow g23
         replace OX := OX.grow g23
         replace OC1 := OC1.grow g23
         replace OR1 := OR1.grow g23
         replace hR54 := hR54.grow g23
         replace OY := OY.grow g23
         replace G := G.grow g23
         replace GL8 := GL8.grow g23
         replace GS13 := GS13.grow g23
         replace B1 := B1.grow g23
         replace B2 := B2.grow g23
         have zg23 := g23.size
         refine D_1 (i := 22) (by kernel_rfl) ?_
         refine E_app2 (i := 22) rfl Try.underlying30 zr63 sz63 by63 rfl rfl OC1 rfl (Src.blk B23) (by simp [Value.oneCell']) (by omega) (Pr' := fun i => (wz ≤ i)) (fun i hi => by omega) (by omega) ?_
         intro A24 cap24 w24 X24 m24 n24
         replace OR1 := OR1.app OC1 hne n24
         replace OC1 := X24
         clear X24 n24
         replace G := G.abv m24
         replace GL8 := GL8.trn m24
         replace GS13 := GS13.trn m24
         replace hAl := hAl0.grow G
         replace hA4 := hA4.md m24
         replace OX := OX.md m24
         replace hR54 := hR54.md m24
         replace OY := OY.md m24
         replace B1 := B1.md m24
         replace B2 := B2.md m24
         have zm24 := m24.size
         refine ⟨GS13, ?_⟩
         have OR2 := OR1.more (c := ⟨true, xs[p], (xs.drop (p + 2)).take m⟩) OY (fun i hi => by omega) (Pr' := fun i => wz ≤ i) (fun i hi => by omega) (fun i hi => by omega)
         replace OC1 : OW (fun i => (wz ≤ i)) w24 63 3 A24 (q1 + 1) cap24 (flatC (cs ++ [⟨true, xs[p], (xs.drop (p + 2)).take m⟩]) (rs ++ [(AY, capY)])) := by rw [← flat_more OR1.len]; exact OC1
         refine Dq (i := 23) rfl GS13 (fun _ _ => Y_field Try.underlying32 rfl fz32_0 (by decide) rfl) ?_
         refine D_1 (i := 24) (by kernel_rfl) ?_
         refine E_stM (pre := []) (old := [_]) (post := [_]) (vs := [_]) (i := 24) rfl sz30 rfl rfl rfl (by first | rfl | assumption) B2 rfl rfl ?_
         intro w25 m25 X25
         replace B2 := Blk.eq (ys := [_, _]) X25 rfl
         clear X25
         replace G := G.abv m25
         replace GL8 := GL8.trn m25
         replace GS13 := GS13.trn m25
         replace hAl := hAl0.grow G
         replace hA4 := hA4.md m25
         replace OX := OX.md m25
         replace OC1 := OC1.md m25
         replace hR54 := hR54.md m25
         replace OR2 := OR2.md m25
         replace B1 := B1.md m25
         have zm25 := m25.size
         refine ⟨GS13, ?_⟩
         refine D_en (by kernel_rfl) rfl rfl ?_
         refine th_n (hK16 _ _ ?_)
         clear hK16 K16
         refine Sb 107 rfl ?_  -- 10
         refine S_val (Y_move rfl) ?_
         refine S_val (Y_add (c := ((p + 2 : Nat) : Int)) rfl rfl (by omega) (by omega) (by omega)) ?_
         refine S_val (Y_move rfl) ?_
         refine S_val (Y_move rfl) ?_
         refine S_val (Y_add (c := ((p + 1 : Nat) : Int)) rfl rfl (by omega) (by omega) (by omega)) ?_
         refine S_val (Y_index Try.underlying23 sz3 rfl rfl (by first | assumption | omega)) ?_
         refine S_val (Y_load Try.underlying3 rfl rfl (by obtain ⟨g9, o9, e9, _, h9⟩ := hAl.int (k := p + 1) (by omega); cases e9; exact h9)) ?_  -- l7
         refine S_val (Y_add (c := ((p + 2 + m : Nat) : Int)) rfl rfl (by omega) (by omega) (by omega)) ?_
         refine S_val (Y_assign rfl) ?_
         refine S_nl rfl rfl ?_
         refine ib_n ?_
         refine th_n ?_
         go_roundw  -- e2 of L1
         case rel =>
          refine ⟨?_, GL8⟩
          exact ⟨cs ++ [⟨true, xs[p], (xs.drop (p + 2)).take m⟩], rs ++ [(AY, capY)], p + 2 + m, _, _, _, by omega, by omega, by rw [List.length_append, hq1]; rfl, rfl, B2, OC1, OR2, hpi.next hp1 hm (by omega), by rw [rsum_snoc, List.length_append]; simp only [List.length_cons, List.length_nil, hml]; omega⟩
         case measure =>
          show xs.length - (p + 2 + m) < xs.length - p
          omega
        · -- operation 19 comes up
         have OY : OW (fun i => b20 ≤ i) w20 3 1 (some ⟨b20, 0, none⟩) 0 0 [] := OW.of_blk B20 rfl (by decide) (Nat.le_refl _)
         refine E_app0 (i := 19) rfl (news := ints ((xs.drop (p + 2)).take m)) Try.underlying23 zr3 sz3 by3 rfl rfl OY (by rw [ints_len, Nat.mul_one]) (by have hsr := Src.r1 hR54; rw [ints_len] at hsr; exact hsr) ints_one (by omega) (Pr' := fun i => b20 ≤ i) (fun i hi => hi) (by omega) ?_
         intro A26 cap26 w26 X26 m26
         replace OY := X26
         clear X26
         replace G := G.abv m26
         first | replace GL8 := GL8.abv m26 | clear GL8
         replace GS13 := GS13.abv m26
         replace hAl := hAl0.grow G
         replace hA4 := hA4.md m26
         replace OX := OX.md m26
         replace OC1 := OC1.md m26
         replace OR1 := OR1.md m26
         replace hR54 := hR54.md m26
         replace B1 := B1.md m26
         replace B2 := B2.md m26
         have zm26 := m26.size
         refine ⟨GS13, ?_⟩
         obtain ⟨AY, rfl⟩ : ∃ x, x = A26 := ⟨_, rfl⟩
         obtain ⟨capY, rfl⟩ : ∃ x, x = cap26 := ⟨_, rfl⟩
         refine Dq (i := 20) rfl GS13 (fun _ _ => Y_build (cs := [_, _, _]) zr63 pc63 rfl rfl) ?_
         refine D_2 (i := 1) (j := 21) (by kernel_rfl) ?_ ?_
         · -- operation 1 comes up
          refine E_val (i := 1) rfl (Y_load Try.underlying30 rfl rfl (B2.at (by rfl))) GS13 ?_
          refine D_1 (i := 21) (by kernel_rfl) ?_
          refine E_bs1 (cs := [_, _, _]) (i := 21) rfl Try.underlying30 zr63 sz63 rfl rfl rfl ?_
          intro b28 w28 fb28 g28 B28
          refine ⟨GS13.grow g28, ?_⟩
          have lb28 := B28.lt
          replace hAl := hAl.grow g28
          replace hA4 := hA4.grow g28
          replace OX := OX.grow g28
          replace OC1 := OC1.grow g28
          replace OR1 := OR1.grow g28
          replace hR54 := hR54.grow g28
          replace OY := OY.grow g28
          replace G := G.grow g28
          replace GL8 := GL8.grow g28
          replace GS13 := GS13.grow g28
          replace B1 := B1.grow g28
          replace B2 := B2.grow g28
          have zg28 := g28.size
          refine D_1 (i := 22) (by kernel_rfl) ?_
          refine E_app2 (i := 22) rfl Try.underlying30 zr63 sz63 by63 rfl rfl OC1 rfl (Src.blk B28) (by simp [Value.oneCell']) (by omega) (Pr' := fun i => (wz ≤ i)) (fun i hi => by omega) (by omega) ?_
          intro A29 cap29 w29 X29 m29 n29
          replace OR1 := OR1.app OC1 hne n29
          replace OC1 := X29
          clear X29 n29
          replace G := G.abv m29
          replace GL8 := GL8.trn m29
          replace GS13 := GS13.trn m29
          replace hAl := hAl0.grow G
          replace hA4 := hA4.md m29
          replace OX := OX.md m29
          replace hR54 := hR54.md m29
          replace OY := OY.md m29
          replace B1 := B1.md m29
          replace B2 := B2.md m29
          have zm29 := m29.size
          refine ⟨GS13, ?_⟩
          have OR2 := OR1.more (c := ⟨true, xs[p], (xs.drop (p + 2)).take m⟩) OY (fun i hi => by omega) (Pr' := fun i => wz ≤ i) (fun i hi => by omega) (fun i hi => by omega)
          replace OC1 : OW (fun i => (wz ≤ i)) w29 63 3 A29 (q1 + 1) cap29 (flatC (cs ++ [⟨true, xs[p], (xs.drop (p + 2)).take m⟩]) (rs ++ [(AY, capY)])) := by rw [← flat_more OR1.len]; exact OC1
          refine Dq (i := 23) rfl GS13 (fun _ _ => Y_field Try.underlying32 rfl fz32_0 (by decide) rfl) ?_
          refine D_1 (i := 24) (by kernel_rfl) ?_
          refine E_stM (pre := []) (old := [_]) (post := [_]) (vs := [_]) (i := 24) rfl sz30 rfl rfl rfl (by first | rfl | assumption) B2 rfl rfl ?_
          intro w30 m30 X30
          replace B2 := Blk.eq (ys := [_, _]) X30 rfl
          clear X30
          replace G := G.abv m30
          replace GL8 := GL8.trn m30
          replace GS13 := GS13.trn m30
          replace hAl := hAl0.grow G
          replace hA4 := hA4.md m30
          replace OX := OX.md m30
          replace OC1 := OC1.md m30
          replace hR54 := hR54.md m30
          replace OR2 := OR2.md m30
          replace B1 := B1.md m30
          have zm30 := m30.size
          refine ⟨GS13, ?_⟩
          refine D_en (by kernel_rfl) rfl rfl ?_
          refine th_n (hK16 _ _ ?_)
          clear hK16 K16
          refine Sb 107 rfl ?_  -- 10
          refine S_val (Y_move rfl) ?_
          refine S_val (Y_add (c := ((p + 2 : Nat) : Int)) rfl rfl (by omega) (by omega) (by omega)) ?_
          refine S_val (Y_move rfl) ?_
          refine S_val (Y_move rfl) ?_
          refine S_val (Y_add (c := ((p + 1 : Nat) : Int)) rfl rfl (by omega) (by omega) (by omega)) ?_
          refine S_val (Y_index Try.underlying23 sz3 rfl rfl (by first | assumption | omega)) ?_
          refine S_val (Y_load Try.underlying3 rfl rfl (by obtain ⟨g9, o9, e9, _, h9⟩ := hAl.int (k := p + 1) (by omega); cases e9; exact h9)) ?_  -- l8
          refine S_val (Y_add (c := ((p + 2 + m : Nat) : Int)) rfl rfl (by omega) (by omega) (by omega)) ?_
          refine S_val (Y_assign rfl) ?_
          refine S_nl rfl rfl ?_
          refine ib_n ?_
          refine th_n ?_
          go_roundw  -- e3 of L1
          case rel =>
           refine ⟨?_, GL8⟩
           exact ⟨cs ++ [⟨true, xs[p], (xs.drop (p + 2)).take m⟩], rs ++ [(AY, capY)], p + 2 + m, _, _, _, by omega, by omega, by rw [List.length_append, hq1]; rfl, rfl, B2, OC1, OR2, hpi.next hp1 hm (by omega), by rw [rsum_snoc, List.length_append]; simp only [List.length_cons, List.length_nil, hml]; omega⟩
          case measure =>
           show xs.length - (p + 2 + m) < xs.length - p
           omega
         · -- operation 21 comes up
          refine E_bs1 (cs := [_, _, _]) (i := 21) rfl Try.underlying30 zr63 sz63 rfl rfl rfl ?_
          intro b31 w31 fb31 g31 B31
          refine ⟨GS13.grow g31, ?_⟩
          have lb31 := B31.lt
          replace hAl := hAl.grow g31
          replace hA4 := hA4.grow g31
          replace OX := OX.grow g31
          replace OC1 := OC1.grow g31
          replace OR1 := OR1.grow g31
          replace hR54 := hR54.grow g31
          replace OY := OY.grow g31
          replace G := G.grow g31
          replace GL8 := GL8.grow g31
          replace GS13 := GS13.grow g31
          replace B1 := B1.grow g31
          replace B2 := B2.grow g31
          have zg31 := g31.size
          refine D_1 (i := 1) (by kernel_rfl) ?_
          refine E_val (i := 1) rfl (Y_load Try.underlying30 rfl rfl (B2.at (by rfl))) GS13 ?_
          refine D_1 (i := 22) (by kernel_rfl) ?_
          refine E_app2 (i := 22) rfl Try.underlying30 zr63 sz63 by63 rfl rfl OC1 rfl (Src.blk B31) (by simp [Value.oneCell']) (by omega) (Pr' := fun i => (wz ≤ i)) (fun i hi => by omega) (by omega) ?_
          intro A33 cap33 w33 X33 m33 n33
          replace OR1 := OR1.app OC1 hne n33
          replace OC1 := X33
          clear X33 n33
          replace G := G.abv m33
          replace GL8 := GL8.trn m33
          replace GS13 := GS13.trn m33
          replace hAl := hAl0.grow G
          replace hA4 := hA4.md m33
          replace OX := OX.md m33
          replace hR54 := hR54.md m33
          replace OY := OY.md m33
          replace B1 := B1.md m33
          replace B2 := B2.md m33
          have zm33 := m33.size
          refine ⟨GS13, ?_⟩
          have OR2 := OR1.more (c := ⟨true, xs[p], (xs.drop (p + 2)).take m⟩) OY (fun i hi => by omega) (Pr' := fun i => wz ≤ i) (fun i hi => by omega) (fun i hi => by omega)
          replace OC1 : OW (fun i => (wz ≤ i)) w33 63 3 A33 (q1 + 1) cap33 (flatC (cs ++ [⟨true, xs[p], (xs.drop (p + 2)).take m⟩]) (rs ++ [(AY, capY)])) := by rw [← flat_more OR1.len]; exact OC1
          refine Dq (i := 23) rfl GS13 (fun _ _ => Y_field Try.underlying32 rfl fz32_0 (by decide) rfl) ?_
          refine D_1 (i := 24) (by kernel_rfl) ?_
          refine E_stM (pre := []) (old := [_]) (post := [_]) (vs := [_]) (i := 24) rfl sz30 rfl rfl rfl (by first | rfl | assumption) B2 rfl rfl ?_
          intro w34 m34 X34
          replace B2 := Blk.eq (ys := [_, _]) X34 rfl
          clear X34
          replace G := G.abv m34
          replace GL8 := GL8.trn m34
          replace GS13 := GS13.trn m34
          replace hAl := hAl0.grow G
          replace hA4 := hA4.md m34
          replace OX := OX.md m34
          replace OC1 := OC1.md m34
          replace hR54 := hR54.md m34
          replace OR2 := OR2.md m34
          replace B1 := B1.md m34
          have zm34 := m34.size
          refine ⟨GS13, ?_⟩
          refine D_en (by kernel_rfl) rfl rfl ?_
          refine th_n (hK16 _ _ ?_)
          clear hK16 K16
          refine Sb 107 rfl ?_  -- 10
          refine S_val (Y_move rfl) ?_
          refine S_val (Y_add (c := ((p + 2 : Nat) : Int)) rfl rfl (by omega) (by omega) (by omega)) ?_
          refine S_val (Y_move rfl) ?_
          refine S_val (Y_move rfl) ?_
          refine S_val (Y_add (c := ((p + 1 : Nat) : Int)) rfl rfl (by omega) (by omega) (by omega)) ?_
          refine S_val (Y_index Try.underlying23 sz3 rfl rfl (by first | assumption | omega)) ?_
          refine S_val (Y_load Try.underlying3 rfl rfl (by obtain ⟨g9, o9, e9, _, h9⟩ := hAl.int (k := p + 1) (by omega); cases e9; exact h9)) ?_  -- l9
          refine S_val (Y_add (c := ((p + 2 + m : Nat) : Int)) rfl rfl (by omega) (by omega) (by omega)) ?_
          refine S_val (Y_assign rfl) ?_
          refine S_nl rfl rfl ?_
          refine ib_n ?_
          refine th_n ?_
          go_roundw  -- e4 of L1
          case rel =>
           refine ⟨?_, GL8⟩
           exact ⟨cs ++ [⟨true, xs[p], (xs.drop (p + 2)).take m⟩], rs ++ [(AY, capY)], p + 2 + m, _, _, _, by omega, by omega, by rw [List.length_append, hq1]; rfl, rfl, B2, OC1, OR2, hpi.next hp1 hm (by omega), by rw [rsum_snoc, List.length_append]; simp only [List.length_cons, List.length_nil, hml]; omega⟩
          case measure =>
           show xs.length - (p + 2 + m) < xs.length - p
           omega
   · -- c2F
    replace hb2 := nb_tf hb2
    have hdone := hpi.done (show xs.length ≤ p by omega)
    obtain rfl : q1 = cs.length := hq1
    have hHA : RC (fun i => b1 < i) w8 A1 (LH.mk cs (xs.take 4)).cells := (OC.grown (Pr' := fun i => b1 < i) OC1 OR1 (fun _ h => by omega) (fun _ h => by omega)).rc
    have hHB : R1 _ w8 AR (ints (LH.mk cs (xs.take 4)).roots) := OX.r1
    replace hHB := hHB.weak (Pr' := fun i => b1 < i) (fun i hi => by omega)
    have hHz : hsize (LH.mk cs (xs.take 4)) ≤ 1048576 := by rw [hsize_of, List.length_take]; omega
    replace OC1 := OC1.lt
    replace OR1 := OR1.lt
    refine wp_exit ?_
    refine th_x ?_
    try clear GL8
    refine th_x ?_
    refine ib_e ?_
    refine th_n (hK7 _ _ ?_)
    clear hK9 K9 hK7 K7
    refine wp_seq_k fun K17 hK17 => ?_
    refine Sb 107 rfl ?_  -- 11
    refine S_val (Y_loadS Try.underlying32 rfl sz32 rfl (B2.row (by rfl))) ?_  -- l10
    refine S_call rfl en72 (spec_ViewOf_c _ _ _ (LH.mk cs (xs.take 4)) _ _ _ hHA hHB hHz) ?_  -- k2 spec.ViewOf
    rintro v35 w35 ⟨A35, q35, cap35, rfl, hq35, O35, g35⟩
    replace hAl := hAl.grow g35
    replace hA4 := hA4.grow g35
    replace OX := OX.grow g35
    replace OC1 := OC1.grow g35
    replace OR1 := OR1.grow g35
    replace hHA := hHA.grow g35
    replace hHB := hHB.grow g35
    replace G := G.grow g35
    replace B1 := B1.grow g35
    replace B2 := B2.grow g35
    have zg35 := g35.size
    subst hq35
    have hV := O35.lt.r1
    refine S_val (Y_assign rfl) ?_
    refine S_nl rfl rfl ?_
    refine th_n (hK17 _ _ ?_)
    clear hK17 K17
    refine wp_seq_k fun K18 hK18 => ?_
    refine wp_seq_k fun K19 hK19 => ?_
    refine Sb 107 rfl ?_  -- 12
    refine S_val (Y_move rfl) ?_
    refine S_val (Y_len Try.underlying23 rfl) ?_
    refine S_val (Y_move rfl) ?_
    refine S_val (Y_len Try.underlying23 rfl) ?_
    refine S_val (Y_neq rfl rfl) ?_
    refine S_nl rfl rfl ?_
    refine th_n (hK19 _ _ ?_)
    clear hK19 K19
    refine S_if rfl (fun hb3 => ?_) (fun hb3 => ?_)  -- c4
    · -- c4T
     replace hb3 := nb_nt hb3
     refine wp_seq_k fun K20 hK20 => ?_
     refine Sb 107 rfl ?_  -- 13
     refine S_val (Y_build (cs := [_, _]) zr32 pc32 rfl rfl) ?_
     refine S_stM (pre := []) (old := [_, _]) (post := []) (vs := [_, _]) sz32 rfl rfl rfl (by first | rfl | assumption) B1 rfl rfl ?_
     intro w36 m36 X36
     replace B1 := Blk.eq (ys := [_, _]) X36 rfl
     clear X36
     replace G := G.abv m36
     replace hAl := hAl0.grow G
     replace hA4 := hA4.md m36
     replace OX := OX.md m36
     replace OC1 := OC1.md m36
     replace OR1 := OR1.md m36
     replace hHA := hHA.md m36
     replace hHB := hHB.md m36
     replace hV := hV.md m36
     replace B2 := B2.md m36
     have zm36 := m36.size
     refine S_val (Y_assign rfl) ?_
     refine S_nl rfl rfl ?_
     refine th_n (hK20 _ _ ?_)
     clear hK20 K20
     refine wp_ret ?_
     refine th_r ?_
     clear hK18 K18
     refine ret_rct (cs := [_, _]) Try.underlying32 rfl sz32 rfl rfl rfl (B1.row (by rfl)) ?_  -- r5
     have hsv : heapOfV xs = (nilH, false) := heapOf_f2 hdone (fun e => hb3 (by rw [e]))
     exact ⟨_, _, _, _, _, _, [], by rw [hsv], by rw [hsv]; rfl, by rw [hsv]; rfl, by rw [hsv]; exact OH.nil _ _ _ _ _ _, G⟩
    · -- c4F
     replace hb3 := nb_nf hb3
     have hvl : (viewV (LH.mk cs (xs.take 4))).length = xs.length := by omega
     refine wp_skip ?_
     refine th_n (hK18 _ _ ?_)
     clear hK18 K18
     refine wp_seq_k fun K21 hK21 => ?_
     refine wp_seq_k fun K22 hK22 => ?_
     refine Sb 107 rfl ?_  -- 14
     refine S_val (Y_assign rfl) ?_
     refine S_nl rfl rfl ?_
     refine th_n (hK22 _ _ ?_)
     clear hK22 K22
     refine wp_block ?_
     go_loopw [7] (fun u7 wr => (∃ k : Nat, u7 = .int .i64 k ∧ k ≤ xs.length ∧ (viewV (LH.mk cs (xs.take 4))).take k = xs.take k) ∧ Mod No w35 wr) (fun u7 wr => xs.length - (intOf u7).toNat)  -- L2
     case atStart =>
      refine ⟨?_, Mod.refl _ _⟩
      exact ⟨0, rfl, by omega, by simp⟩
     case round =>
      obtain ⟨w37, rfl⟩ : ∃ x : World, x = wr := ⟨_, rfl⟩
      obtain ⟨hrel, g37⟩ := hrel
      replace hAl := hAl.grow g37
      replace hA4 := hA4.grow g37
      replace OX := OX.grow g37
      replace OC1 := OC1.grow g37
      replace OR1 := OR1.grow g37
      replace hHA := hHA.grow g37
      replace hHB := hHB.grow g37
      replace hV := hV.grow g37
      replace G := G.grow g37
      replace B1 := B1.grow g37
      replace B2 := B2.grow g37
      have zg37 := g37.size
      obtain ⟨k, rfl, hk, hs⟩ := hrel
      have GL37 := g37
      refine wp_seq_k fun K23 hK23 => ?_
      refine wp_seq_k fun K24 hK24 => ?_
      refine Sb 107 rfl ?_  -- 15
      refine S_val (Y_move rfl) ?_
      refine S_val (Y_move rfl) ?_
      refine S_val (Y_len Try.underlying23 rfl) ?_
      refine S_val (Y_lss rfl rfl) ?_
      refine S_nl rfl rfl ?_
      refine th_n (hK24 _ _ ?_)
      clear hK24 K24
      refine S_if rfl (fun hb4 => ?_) (fun hb4 => ?_)  -- c5
      · -- c5T
       replace hb4 := nb_tt hb4
       have hk1 : k < xs.length := by omega
       have hk2 : k < (viewV (LH.mk cs (xs.take 4))).length := by omega
       refine wp_skip ?_
       refine th_n (hK23 _ _ ?_)
       clear hK23 K23
       refine wp_seq_k fun K25 hK25 => ?_
       refine wp_block ?_
       refine wp_seq_k fun K26 hK26 => ?_
       refine D_start 9 107 (fun w => Mod (No) w) follows rfl rfl ?_  -- d2 r17
       intro w38 g38
       replace hAl := hAl.grow g38
       replace hA4 := hA4.grow g38
       replace OX := OX.grow g38
       replace OC1 := OC1.grow g38
       replace OR1 := OR1.grow g38
       replace hHA := hHA.grow g38
       replace hHB := hHB.grow g38
       replace hV := hV.grow g38
       replace G := G.grow g38
       replace GL37 := GL37.grow g38
       replace B1 := B1.grow g38
       replace B2 := B2.grow g38
       have zg38 := g38.size
       have GS38 := Mod.refl (No) w38
       obtain ⟨g6, o6, e6, hp6, hc6⟩ := hAl.int hk1
       cases e6
       obtain ⟨g7, o7, rfl, hp7, hc7⟩ := hV.int hk2
       refine Dq (i := 0) rfl GS38 (fun _ _ => Y_move rfl) ?_
       refine Dq (i := 1) rfl GS38 (fun _ _ => Y_move rfl) ?_
       refine Dq (i := 2) rfl GS38 (fun _ _ => Y_index Try.underlying23 sz3 rfl rfl (by first | assumption | omega)) ?_
       refine Dq (i := 3) rfl GS38 (fun _ hs => Y_load Try.underlying3 rfl rfl (by first | exact hs.cell0 (by assumption) | exact hs.cell0 (B1.at (by rfl)) | exact hs.cell0 (B2.at (by rfl)))) ?_
       refine Dq (i := 4) rfl GS38 (fun _ _ => Y_move rfl) ?_
       refine Dq (i := 5) rfl GS38 (fun _ _ => Y_move rfl) ?_
       refine Dq (i := 6) rfl GS38 (fun _ _ => Y_index Try.underlying23 sz3 rfl rfl (by first | assumption | omega)) ?_
       refine Dq (i := 7) rfl GS38 (fun _ hs => Y_load Try.underlying3 rfl rfl (by first | exact hs.cell0 (by assumption) | exact hs.cell0 (B1.at (by rfl)) | exact hs.cell0 (B2.at (by rfl)))) ?_
       refine Dq (i := 8) rfl GS38 (fun _ _ => Y_neq rfl rfl) ?_
       refine D_en (by kernel_rfl) rfl rfl ?_
       refine th_n (hK26 _ _ ?_)
       clear hK26 K26
       refine S_if rfl (fun hb5 => ?_) (fun hb5 => ?_)  -- c6
       · -- c6T
        replace hb5 := nb_nt hb5
        refine wp_seq_k fun K27 hK27 => ?_
        refine Sb 107 rfl ?_  -- 18
        refine S_val (Y_build (cs := [_, _]) zr32 pc32 rfl rfl) ?_
        refine S_stM (pre := []) (old := [_, _]) (post := []) (vs := [_, _]) sz32 rfl rfl rfl (by first | rfl | assumption) B1 rfl rfl ?_
        intro w39 m39 X39
        replace B1 := Blk.eq (ys := [_, _]) X39 rfl
        clear X39
        replace G := G.abv m39
        first | replace GL37 := GL37.abv m39 | clear GL37
        replace hAl := hAl0.grow G
        replace hA4 := hA4.md m39
        replace OX := OX.md m39
        replace OC1 := OC1.md m39
        replace OR1 := OR1.md m39
        replace hHA := hHA.md m39
        replace hHB := hHB.md m39
        replace hV := hV.md m39
        replace B2 := B2.md m39
        have zm39 := m39.size
        refine S_val (Y_assign rfl) ?_
        refine S_nl rfl rfl ?_
        refine th_n (hK27 _ _ ?_)
        clear hK27 K27
        refine wp_ret ?_
        refine ib_r ?_
        refine th_r ?_
        try clear GL37
        refine th_r ?_
        refine ib_r ?_
        refine th_r ?_
        clear hK25 K25 hK21 K21
        refine ret_rct (cs := [_, _]) Try.underlying32 rfl sz32 rfl rfl rfl (B1.row (by rfl)) ?_  -- r6
        have hsv : heapOfV xs = (nilH, false) := heapOf_f2 hdone (fun e => hb5 (by rw [List.getElem_of_eq e]))
        exact ⟨_, _, _, _, _, _, [], by rw [hsv], by rw [hsv]; rfl, by rw [hsv]; rfl, by rw [hsv]; exact OH.nil _ _ _ _ _ _, G⟩
       · -- c6F
        replace hb5 := nb_nf hb5
        refine wp_skip ?_
        refine ib_n ?_
        refine th_n (hK25 _ _ ?_)
        clear hK25 K25
        refine Sb 107 rfl ?_  -- 16
        refine S_val (Y_move rfl) ?_
        refine S_val (Y_inc rfl rfl (by omega)) ?_
        refine S_val (Y_assign rfl) ?_
        refine S_nl rfl rfl ?_
        refine th_n ?_
        go_roundw  -- e5 of L2
        case rel =>
         refine ⟨?_, GL37⟩
         exact ⟨k + 1, rfl, by omega, take_eq hs hk2 hk1 (by assumption)⟩
        case measure =>
         exact dec_nat (by omega)
      · -- c5F
       replace hb4 := nb_tf hb4
       have hvw : viewV (LH.mk cs (xs.take 4)) = xs := take_all hs (by omega) (by omega)
       have hvv : validB (LH.mk cs (xs.take 4)) = true := by
         cases hv : validB (LH.mk cs (xs.take 4)) with
         | true => rfl
         | false => rw [viewV_f hv] at hvl; simp at hvl; omega
       refine wp_exit ?_
       refine th_x ?_
       try clear GL37
       refine th_x ?_
       refine ib_e ?_
       refine th_n (hK21 _ _ ?_)
       clear hK23 K23 hK21 K21
       refine wp_seq_k fun K28 hK28 => ?_
       refine Sb 107 rfl ?_  -- 19
       refine S_val (Y_loadS Try.underlying32 rfl sz32 rfl (B2.row (by rfl))) ?_  -- l13
       refine S_stM (pre := []) (old := [_, _]) (post := []) (vs := [_, _]) sz32 rfl rfl rfl (by first | rfl | assumption) B1 rfl rfl ?_
       intro w40 m40 X40
       replace B1 := Blk.eq (ys := [_, _]) X40 rfl
       clear X40
       replace G := G.abv m40
       replace hAl := hAl0.grow G
       replace hA4 := hA4.md m40
       replace OX := OX.md m40
       replace OC1 := OC1.md m40
       replace OR1 := OR1.md m40
       replace hHA := hHA.md m40
       replace hHB := hHB.md m40
       replace hV := hV.md m40
       replace B2 := B2.md m40
       have zm40 := m40.size
       refine S_val (Y_assign rfl) ?_
       refine S_nl rfl rfl ?_
       refine th_n (hK28 _ _ ?_)
       clear hK28 K28
       refine wp_ret ?_
       refine ret_rct (cs := [_, _]) Try.underlying32 rfl sz32 rfl rfl rfl (B1.row (by rfl)) ?_  -- r7
       have hsv := heapOf_t h4 hdone hvv hvw
       exact ⟨_, _, _, _, _, _, rs, by rw [hsv], by rw [hsv], by rw [hsv], by rw [hsv]; exact OH.of_parts (h := LH.mk cs (xs.take 4)) (OC.grown OC1 OR1 (fun _ h => h) (fun _ h => h)) OX.oi (fun k b h1 h2 h3 => by omega) (fun k hk => by omega) (fun k hk => by omega), G⟩
end
/-! Open -/
section
open Go Go.ChangeShapes Go.WideShapes Go.ChangeAt Go.RowKit Go.Deep Go.Joins
section
variable {H : Type} {enc : TypeId × Value → H} {P : Program} {w : World} {base : Nat} {spare : Nat → Bool} {held : Bool}
theorem plain_of_cell {w : World} {a : Addr} {v : Value} (h : w.cell? a = some v) : ∃ g o, a = ⟨g, o, none⟩ := by
  obtain ⟨g, o, s⟩ := a
  have hs := World.cell?_spot h
  simp only at hs
  subst hs
  exact ⟨g, o, rfl⟩
theorem trod_top {t e : TypeId} {r : Reach} {b0 : Nat} {v : Value} {d : DataW H} {p : List MemPlace} (hu : P.underlying t = some (.slice e)) (hval : Value.okWide P w r b0 t v) (h : DataW.Trod enc P w base spare held t v d p) :
    ∃ fuel, DataW.trod enc P w base spare held fuel t [v] = some (d, p) := by
  obtain ⟨a, len, cap, rfl⟩ := okWide_slice hu hval
  obtain ⟨fuel, hf⟩ := h
  exact ⟨fuel, hf⟩
theorem open_ru {t e : TypeId} {fuel : Nat} {v : Value} {x : DataW H × List MemPlace} (ht : P.underlying t = some (.slice e)) (he : P.underlying e = some (.int .u8)) (hc : P.cellsOf e = 1)
    (h : DataW.trod enc P w base spare held fuel t [v] = some x) : ∃ (A : Option Addr) (xs : List Int) (c : Nat), v = .slice A xs.length c ∧ R1 (fun _ => True) w A (u8s xs) ∧ xs.length ≤ 9223372036854775807 ∧ xs.length ≤ c ∧ ∀ y ∈ xs, 0 ≤ y ∧ y ≤ 255 := by
  rcases open_ints ht he hc h with ⟨hcs, _⟩ | ⟨a, len, cap, zs, hcs, _, hl, hm, hz, _, hcell, hwz⟩
  · simp only [List.cons.injEq, and_true] at hcs
    subst hcs
    exact ⟨none, [], 0, rfl, R1.nil _ _ _, by simp, by simp, by simp⟩
  · simp only [List.cons.injEq, and_true] at hcs
    subst hcs
    have hlz : len ≤ zs.length := by
      rw [hz]
      split
      · exact hl
      · exact Nat.le_refl _
    have hlen : (zs.take len).length = len := by rw [List.length_take]; omega
    refine ⟨some a, zs.take len, cap, by rw [hlen], fun k u hu => ?_, by rw [hlen]; unfold maxLen at hm; omega, by rw [hlen]; exact hl, fun y hy => ?_⟩
    · have hk : k < len := by
        have := (List.getElem?_eq_some_iff.1 hu).1
        rw [u8s, List.length_map, hlen] at this
        exact this
      obtain ⟨g, o, rfl⟩ : ∃ g o, a = ⟨g, o, none⟩ := by
        have h0 := hcell 0 (by omega)
        rw [show a.add 0 = a by simp [Addr.add]] at h0
        exact plain_of_cell h0
      refine ⟨g, o, rfl, trivial, ?_⟩
      have hck := hcell k (by omega)
      rw [Addr.add_lit] at hck
      rw [Nat.mul_one, hck]
      have hu' : (u8s (zs.take len))[k]? = some (.int .u8 (zs.getD k 0)) := by
        unfold u8s
        rw [List.getElem?_map, List.getElem?_take, if_pos hk, List.getElem?_eq_getElem (show k < zs.length by omega)]
        simp [List.getD, List.getElem?_eq_getElem (show k < zs.length by omega)]
      rw [hu'] at hu
      exact hu
    · have hy' := List.mem_of_mem_take hy
      have := hwz y hy'
      simp [Lit.wf, IntKind.min, IntKind.max, IntKind.bits, IntKind.signed] at this
      omega
end
end
end Go.Proofs.Ytikgflhepclfgac
