/-
  The law FnExactCollectCycles returns true.
  Conditions: those that each theorem states.
-/
import Derived.Test.YtjmfdmndchoplaaTy
import Derived.Test.YtjmfdmndchoplaaWalkCy
namespace Go.Proofs.Ytjmfdmndchoplaa
open Go Go.RowKit
attribute [local irreducible] wpList wpAnyH Code.wp dOp

set_option maxHeartbeats 400000 in
set_option maxRecDepth 20000 in
theorem laws_FnExactCollectCycles_c (Pr : Nat → Prop) (A B C : Option Addr) (h : LH) (xs : List Int) (c d e : Nat) (w : World) (hA : RC Pr w A h.cells) (hB : R1 Pr w B (ints h.roots)) (hC : R1 Pr w C (ints xs)) (hn : h.cells.length ≤ 9223372036854775807) (hN : ∀ x ∈ h.cells, x.refs.length ≤ 9223372036854775807) (hm : h.roots.length ≤ 9223372036854775807) (hk : xs.length ≤ 9223372036854775807) :
    Calls Try.prog 9 #[.agg #[.slice A h.cells.length c, .slice B h.roots.length d, .slice C xs.length e]] w (Ret fun v w' => v = .bool true ∧ Grow w w') := by
 refine enter Try.func9 rfl Try.ntmps9 (L := [_,_,_,_,_,_,_,_,_,_,_,_,_,_,_,_,_,_,_,_,_,_,_,_,_,_,_,_,_,_,_,_,_,_,_,_,_,_,_,_,_,_,_,_,_,_,_,_,_,_,_,_,_,_,_,_,_,_,_,_,_,_,_,_,_,_,_,_,_,_,_,_,_,_,_,_,_,_,_,_,_,_,_,_,_,_,_,_,_,_,_,_,_,_,_,_]) rfl ?_
 have G := Mod.refl No w
 have hA0 := hA
 have hB0 := hB
 have hC0 := hC
 refine wp_seq_k fun K1 hK1 => ?_
 refine Sb 96 rfl ?_  -- 0
 refine S_box (cs := [_, _, _]) rfl rfl ?_
 intro b1 w1 fb1 g1 B1
 have lb1 := B1.lt
 replace hA := hA.grow g1
 replace hB := hB.grow g1
 replace hC := hC.grow g1
 replace G := G.grow g1
 have zg1 := g1.size
 refine S_val (Y_assign rfl) ?_
 refine S_nl rfl rfl ?_
 refine th_n (hK1 _ _ ?_)
 clear hK1 K1
 refine wp_seq_k fun K2 hK2 => ?_
 refine Sb 96 rfl ?_  -- 1
 refine S_val (Y_assign rfl) ?_
 refine S_nl rfl rfl ?_
 refine th_n (hK2 _ _ ?_)
 clear hK2 K2
 refine wp_seq_k fun K3 hK3 => ?_
 refine Sb 96 rfl ?_  -- 2
 refine S_val (Y_loadS Try.underlying58 rfl sz58 rfl (B1.row (by rfl))) ?_  -- l1
 refine S_val (Y_move rfl) ?_
 refine S_call rfl en37 (laws_szCounted_c _ _ _ _ _ _ _ _ _ _ _ (by assumption) (by omega) (by assumption) (by omega) (by omega) (by omega) (by omega)) ?_  -- k1 laws.szCounted
 rintro v2 w2 ⟨r2, rfl, hr2, g2⟩
 replace hA := hA.grow g2
 replace hB := hB.grow g2
 replace hC := hC.grow g2
 replace G := G.grow g2
 replace B1 := B1.grow g2
 have zg2 := g2.size
 refine S_val (Y_assign rfl) ?_
 refine S_nl rfl rfl ?_
 refine th_n (hK3 _ _ ?_)
 clear hK3 K3
 refine wp_seq_k fun K4 hK4 => ?_
 refine wp_seq_k fun K5 hK5 => ?_
 refine Sb 96 rfl ?_  -- 3
 refine S_val (Y_move rfl) ?_
 refine S_val (Y_lss rfl rfl) ?_
 refine S_nl rfl rfl ?_
 refine th_n (hK5 _ _ ?_)
 clear hK5 K5
 refine S_if rfl (fun hb1 => ?_) (fun hb1 => ?_)  -- c1
 · -- c1T
  replace hb1 := nb_tt hb1
  refine wp_seq_k fun K6 hK6 => ?_
  refine Sb 96 rfl ?_  -- 4
  refine S_val (Y_assign rfl) ?_
  refine S_nl rfl rfl ?_
  refine th_n (hK6 _ _ ?_)
  clear hK6 K6
  refine wp_ret ?_
  refine th_r ?_
  clear hK4 K4
  refine ret_r1 rfl rfl ?_  -- r1
  exact ⟨rfl, G⟩
 · -- c1F
  replace hb1 := nb_tf hb1
  have hz : hsize h ≤ 1048576 := by omega
  have hxz : xs.length ≤ 1048576 := by omega
  have hsm := (cycle_small h xs).1
  have hrl := (cycle_small h xs).2
  have hk9 : kEnd 1 h ≤ 4194304 := by
    have := kAt_le (k := 1) (cs := h.cells) (Nat.le_refl _)
    unfold kEnd
    unfold hsize at hz
    omega
  have hk8 := kEnd_ge 1 h
  have hk7 := kEnd_ge 1 ((cycleV h xs).1.1)
  have hk6 : kEnd 1 (cycleV h xs).1.1 ≤ 4194304 := by
    have := kAt_le (k := 1) (cs := (cycleV h xs).1.1.cells) (Nat.le_refl _)
    unfold kEnd
    unfold hsize at hsm
    omega
  have hk5 := kEnd_ge 1 (cycleV h xs).1.1
  refine wp_skip ?_
  refine th_n (hK4 _ _ ?_)
  clear hK4 K4
  refine wp_seq_k fun K7 hK7 => ?_
  refine Sb 96 rfl ?_  -- 5
  refine S_val (Y_loadS Try.underlying58 rfl sz58 rfl (B1.row (by rfl))) ?_  -- l2
  refine S_call rfl en39 (laws_toCounted_c _ _ _ _ _ _ _ _ _ _ (by assumption) (by assumption) (by assumption) (by omega) (by omega)) ?_  -- k2 laws.toCounted
  rintro v3 w3 ⟨a3, b3, f3, rs3, rfl, O3, ff3, B3, g3⟩
  replace hA := hA.grow g3
  replace hB := hB.grow g3
  replace hC := hC.grow g3
  replace G := G.grow g3
  replace B1 := B1.grow g3
  have zg3 := g3.size
  obtain ⟨lo3, hlo3⟩ : ∃ x, x = w2.heap.size := ⟨_, rfl⟩
  obtain ⟨hi3, hhi3⟩ : ∃ x, x = w3.heap.size := ⟨_, rfl⟩
  have lbf3 := B3.lt
  have OT3 := (O3.lt).weak (Pr' := fun k => lo3 ≤ k ∧ k < hi3) (fun k hk => by omega)
  have hA3 := OT3.rc
  have hB3 := OT3.r1
  have hC3 := (R1.of_blkE B3).weak (Pr' := fun k => lo3 ≤ k ∧ k < hi3) (fun k hk => by omega)
  refine S_call rfl en38 (spec_CollectCycles_c _ _ _ _ _ _ _ _ _ _ (by assumption) (by assumption) (by assumption) (by omega) (by omega)) ?_  -- k3 spec.CollectCycles
  rintro v4 w4 ⟨A4, B4, C4, n14, c14, n24, c24, n34, c34, rs4, P4, Q4, rfl, hn14, hn24, hn34, hPQ4, hQ4, O4, OM4, g4⟩
  replace hA := hA.grow g4
  replace hB := hB.grow g4
  replace hC := hC.grow g4
  replace hA3 := hA3.grow g4
  replace hB3 := hB3.grow g4
  replace hC3 := hC3.grow g4
  replace G := G.grow g4
  replace B1 := B1.grow g4
  have zg4 := g4.size
  subst hn14
  subst hn24
  subst hn34
  obtain ⟨Pw, rfl⟩ : ∃ x, x = P4 := ⟨_, rfl⟩
  obtain ⟨Qw, rfl⟩ : ∃ x, x = Q4 := ⟨_, rfl⟩
  have hpqw := hPQ4
  have hqqw := hQ4
  obtain ⟨low, hlow⟩ : ∃ x, x = w3.heap.size := ⟨_, rfl⟩
  obtain ⟨hiw, hhiw⟩ : ∃ x, x = w4.heap.size := ⟨_, rfl⟩
  have OXw := (O4.lt).weak (Pr' := fun k => Pw k ∧ low ≤ k ∧ k < hiw) (fun k hk => ⟨hk.1, by have h8 := (hpqw k hk.1).1; omega, by have h8 := hk.2; omega⟩)
  have OMw := (OM4.lt).weak (Pr' := fun k => Qw k ∧ low ≤ k ∧ k < hiw) (fun k hk => ⟨hk.1, by have h8 := hqqw k hk.1; omega, by have h8 := hk.2; omega⟩)
  have hAw := OXw.rc
  have hBw := OXw.r1
  have hCw := OMw.r1
  refine S_val (Y_move rfl) ?_
  refine S_val (Y_extract rfl rfl) ?_
  refine S_val (Y_extract rfl rfl) ?_
  refine S_alloc (cs := [_, _, _]) zr61 rfl ?_
  intro b5 w5 fb5 g5 B5
  have lb5 := B5.lt
  replace hA := hA.grow g5
  replace hB := hB.grow g5
  replace hC := hC.grow g5
  replace hA3 := hA3.grow g5
  replace hB3 := hB3.grow g5
  replace hC3 := hC3.grow g5
  replace OXw := OXw.grow g5
  replace OMw := OMw.grow g5
  replace hAw := hAw.grow g5
  replace hBw := hBw.grow g5
  replace hCw := hCw.grow g5
  replace G := G.grow g5
  replace B1 := B1.grow g5
  have zg5 := g5.size
  refine S_stM (pre := []) (old := [_, _, _]) (post := []) (vs := [_, _, _]) sz61 rfl rfl rfl (by first | rfl | assumption) B5 rfl rfl ?_
  intro w6 m6 X6
  replace B5 := Blk.eq (ys := [_, _, _]) X6 rfl
  clear X6
  replace G := G.abv m6
  replace hA := hA0.grow G
  replace hB := hB0.grow G
  replace hC := hC0.grow G
  replace hA3 := hA3.md m6
  replace hB3 := hB3.md m6
  replace hC3 := hC3.md m6
  replace OXw := OXw.md m6
  replace OMw := OMw.md m6
  replace hAw := hAw.md m6
  replace hBw := hBw.md m6
  replace hCw := hCw.md m6
  replace B1 := B1.md m6
  have zm6 := m6.size
  refine S_val (Y_assign rfl) ?_
  refine S_nl rfl rfl ?_
  refine th_n (hK7 _ _ ?_)
  clear hK7 K7
  refine wp_seq_k fun K8 hK8 => ?_
  refine Sb 96 rfl ?_  -- 6
  refine S_val (Y_loadS Try.underlying58 rfl sz58 rfl (B1.row (by rfl))) ?_  -- l3
  refine S_call rfl en39 (laws_toCounted_c _ _ _ _ _ _ _ _ _ _ (by assumption) (by assumption) (by assumption) (by omega) (by omega)) ?_  -- k4 laws.toCounted
  rintro v7 w7 ⟨a7, b7, f7, rs7, rfl, O7, ff7, B7, g7⟩
  replace hA := hA.grow g7
  replace hB := hB.grow g7
  replace hC := hC.grow g7
  replace hA3 := hA3.grow g7
  replace hB3 := hB3.grow g7
  replace hC3 := hC3.grow g7
  replace OXw := OXw.grow g7
  replace OMw := OMw.grow g7
  replace hAw := hAw.grow g7
  replace hBw := hBw.grow g7
  replace hCw := hCw.grow g7
  replace G := G.grow g7
  replace B1 := B1.grow g7
  replace B5 := B5.grow g7
  have zg7 := g7.size
  obtain ⟨lox, hlox⟩ : ∃ x, x = w6.heap.size := ⟨_, rfl⟩
  obtain ⟨hix, hhix⟩ : ∃ x, x = w7.heap.size := ⟨_, rfl⟩
  have OH := (O7.lt).weak (Pr' := fun k => lox ≤ k ∧ k < f7 ∧ k < hix) (fun k hk => by omega)
  have hXA := (OH.weak (Pr' := fun k => lox ≤ k ∧ k < hix) (fun k hk => by omega)).rc
  have hXB := (OH.weak (Pr' := fun k => lox ≤ k ∧ k < hix) (fun k hk => by omega)).r1
  have lbf := B7.lt
  have OS : OI (fun i => i = f7 ∧ lox ≤ i ∧ i < hix) w7 3 (some ⟨f7, 0, none⟩) (ints xs) := OI.of_blk' B7 ⟨rfl, by omega, by omega⟩
  have hSS := (OS.weak (Pr' := fun k => lox ≤ k ∧ k < hix) (fun k hk => by omega)).r1
  refine S_alloc (cs := [_, _, _]) zr61 rfl ?_
  intro b8 w8 fb8 g8 B8
  have lb8 := B8.lt
  replace hA := hA.grow g8
  replace hB := hB.grow g8
  replace hC := hC.grow g8
  replace hA3 := hA3.grow g8
  replace hB3 := hB3.grow g8
  replace hC3 := hC3.grow g8
  replace OXw := OXw.grow g8
  replace OMw := OMw.grow g8
  replace hAw := hAw.grow g8
  replace hBw := hBw.grow g8
  replace hCw := hCw.grow g8
  replace OH := OH.grow g8
  replace hXA := hXA.grow g8
  replace hXB := hXB.grow g8
  replace OS := OS.grow g8
  replace hSS := hSS.grow g8
  replace G := G.grow g8
  replace B1 := B1.grow g8
  replace B5 := B5.grow g8
  have zg8 := g8.size
  refine S_stM (pre := []) (old := [_, _, _]) (post := []) (vs := [_, _, _]) sz61 rfl rfl rfl (by first | rfl | assumption) B8 rfl rfl ?_
  intro w9 m9 X9
  replace B8 := Blk.eq (ys := [_, _, _]) X9 rfl
  clear X9
  replace G := G.abv m9
  replace hA := hA0.grow G
  replace hB := hB0.grow G
  replace hC := hC0.grow G
  replace hA3 := hA3.md m9
  replace hB3 := hB3.md m9
  replace hC3 := hC3.md m9
  replace OXw := OXw.md m9
  replace OMw := OMw.md m9
  replace hAw := hAw.md m9
  replace hBw := hBw.md m9
  replace hCw := hCw.md m9
  replace OH := OH.md m9
  replace hXA := hXA.md m9
  replace hXB := hXB.md m9
  replace OS := OS.md m9
  replace hSS := hSS.md m9
  replace B1 := B1.md m9
  replace B5 := B5.md m9
  have zm9 := m9.size
  refine S_nl rfl rfl ?_
  refine th_n (hK8 _ _ ?_)
  clear hK8 K8
  refine wp_seq_k fun K9 hK9 => ?_
  refine Sb 96 rfl ?_  -- 7
  refine S_val (Y_loadS Try.underlying61 rfl sz61 rfl (B8.row (by rfl))) ?_  -- l4
  refine S_call rfl en40 (impl_CollectCycles_c _ _ _ _ _ _ _ _ _ _ (by assumption) (by assumption) (by assumption) (by omega) (by omega)) ?_  -- k5 impl.CollectCycles
  rintro v10 w10 ⟨A10, B10, C10, n110, c110, n210, c210, n310, c310, rs10, P10, Q10, rfl, hn110, hn210, hn310, hPQ10, hQ10, O10, OM10, g10⟩
  replace hA := hA.grow g10
  replace hB := hB.grow g10
  replace hC := hC.grow g10
  replace hA3 := hA3.grow g10
  replace hB3 := hB3.grow g10
  replace hC3 := hC3.grow g10
  replace OXw := OXw.grow g10
  replace OMw := OMw.grow g10
  replace hAw := hAw.grow g10
  replace hBw := hBw.grow g10
  replace hCw := hCw.grow g10
  replace OH := OH.grow g10
  replace hXA := hXA.grow g10
  replace hXB := hXB.grow g10
  replace OS := OS.grow g10
  replace hSS := hSS.grow g10
  replace G := G.grow g10
  replace B1 := B1.grow g10
  replace B5 := B5.grow g10
  replace B8 := B8.grow g10
  have zg10 := g10.size
  subst hn110
  subst hn210
  subst hn310
  obtain ⟨Pg, rfl⟩ : ∃ x, x = P10 := ⟨_, rfl⟩
  obtain ⟨Qg, rfl⟩ : ∃ x, x = Q10 := ⟨_, rfl⟩
  have hpqg := hPQ10
  have hqqg := hQ10
  obtain ⟨log, hlog⟩ : ∃ x, x = w9.heap.size := ⟨_, rfl⟩
  obtain ⟨hig, hhig⟩ : ∃ x, x = w10.heap.size := ⟨_, rfl⟩
  have OXg := (O10.lt).weak (Pr' := fun k => Pg k ∧ log ≤ k ∧ k < hig) (fun k hk => ⟨hk.1, by have h8 := (hpqg k hk.1).1; omega, by have h8 := hk.2; omega⟩)
  have OMg := (OM10.lt).weak (Pr' := fun k => Qg k ∧ log ≤ k ∧ k < hig) (fun k hk => ⟨hk.1, by have h8 := hqqg k hk.1; omega, by have h8 := hk.2; omega⟩)
  have hAg := OXg.rc
  have hBg := OXg.r1
  have hCg := OMg.r1
  refine S_val (Y_move rfl) ?_
  refine S_val (Y_extract rfl rfl) ?_
  refine S_val (Y_extract rfl rfl) ?_
  refine S_alloc (cs := [_, _, _]) zr61 rfl ?_
  intro b11 w11 fb11 g11 B11
  have lb11 := B11.lt
  replace hA := hA.grow g11
  replace hB := hB.grow g11
  replace hC := hC.grow g11
  replace hA3 := hA3.grow g11
  replace hB3 := hB3.grow g11
  replace hC3 := hC3.grow g11
  replace OXw := OXw.grow g11
  replace OMw := OMw.grow g11
  replace hAw := hAw.grow g11
  replace hBw := hBw.grow g11
  replace hCw := hCw.grow g11
  replace OH := OH.grow g11
  replace hXA := hXA.grow g11
  replace hXB := hXB.grow g11
  replace OS := OS.grow g11
  replace hSS := hSS.grow g11
  replace OXg := OXg.grow g11
  replace OMg := OMg.grow g11
  replace hAg := hAg.grow g11
  replace hBg := hBg.grow g11
  replace hCg := hCg.grow g11
  replace G := G.grow g11
  replace B1 := B1.grow g11
  replace B5 := B5.grow g11
  replace B8 := B8.grow g11
  have zg11 := g11.size
  refine S_stM (pre := []) (old := [_, _, _]) (post := []) (vs := [_, _, _]) sz61 rfl rfl rfl (by first | rfl | assumption) B11 rfl rfl ?_
  intro w12 m12 X12
  replace B11 := Blk.eq (ys := [_, _, _]) X12 rfl
  clear X12
  replace G := G.abv m12
  replace hA := hA0.grow G
  replace hB := hB0.grow G
  replace hC := hC0.grow G
  replace hA3 := hA3.md m12
  replace hB3 := hB3.md m12
  replace hC3 := hC3.md m12
  replace OXw := OXw.md m12
  replace OMw := OMw.md m12
  replace hAw := hAw.md m12
  replace hBw := hBw.md m12
  replace hCw := hCw.md m12
  replace OH := OH.md m12
  replace hXA := hXA.md m12
  replace hXB := hXB.md m12
  replace OS := OS.md m12
  replace hSS := hSS.md m12
  replace OXg := OXg.md m12
  replace OMg := OMg.md m12
  replace hAg := hAg.md m12
  replace hBg := hBg.md m12
  replace hCg := hCg.md m12
  replace B1 := B1.md m12
  replace B5 := B5.md m12
  replace B8 := B8.md m12
  have zm12 := m12.size
  refine S_val (Y_assign rfl) ?_
  refine S_nl rfl rfl ?_
  refine th_n (hK9 _ _ ?_)
  clear hK9 K9
  refine wp_seq_k fun K10 hK10 => ?_
  refine wp_seq_k fun K11 hK11 => ?_
  refine Sb 96 rfl ?_  -- 8
  refine S_val (Y_loadS Try.underlying61 rfl sz61 rfl (B11.row (by rfl))) ?_  -- l5
  refine S_val (Y_loadS Try.underlying61 rfl sz61 rfl (B5.row (by rfl))) ?_  -- l6
  refine S_call rfl en41 (laws_eqCounted_c _ _ _ _ _ _ _ _ _ _ _ _ _ _ _ _ _ _ _ _ _ (by assumption) (by assumption) (by assumption) (by assumption) (by assumption) (by assumption) (by omega) (by omega)) ?_  -- k6 laws.eqCounted
  rintro v13 w13 ⟨rfl, g13⟩
  replace hA := hA.grow g13
  replace hB := hB.grow g13
  replace hC := hC.grow g13
  replace hA3 := hA3.grow g13
  replace hB3 := hB3.grow g13
  replace hC3 := hC3.grow g13
  replace OXw := OXw.grow g13
  replace OMw := OMw.grow g13
  replace hAw := hAw.grow g13
  replace hBw := hBw.grow g13
  replace hCw := hCw.grow g13
  replace OH := OH.grow g13
  replace hXA := hXA.grow g13
  replace hXB := hXB.grow g13
  replace OS := OS.grow g13
  replace hSS := hSS.grow g13
  replace OXg := OXg.grow g13
  replace OMg := OMg.grow g13
  replace hAg := hAg.grow g13
  replace hBg := hBg.grow g13
  replace hCg := hCg.grow g13
  replace G := G.grow g13
  replace B1 := B1.grow g13
  replace B5 := B5.grow g13
  replace B8 := B8.grow g13
  replace B11 := B11.grow g13
  have zg13 := g13.size
  refine S_val (Y_not rfl) ?_
  refine S_val (Y_move rfl) ?_
  refine S_g 36 rfl (fun hb2 => ?_) (fun hb2 => ?_)  -- g1
  · -- g1T
   first | with_reducible (replace hb2 := nb_nt hb2) | with_reducible (replace hb2 := nb_tt hb2) | with_reducible (replace hb2 := nb_bt hb2) | skip
   first | exact absurd rfl hb2 | omega | (simp at hb2)
  · -- g1F
   first | with_reducible (replace hb2 := nb_nf hb2) | with_reducible (replace hb2 := nb_tf hb2) | with_reducible (replace hb2 := nb_bf hb2) | skip
   refine S_on rfl rfl ?_
   refine S_val (Y_move rfl) ?_
   refine S_on rfl rfl ?_
   refine S_val (Y_move rfl) ?_
   refine S_on rfl rfl ?_
   refine S_val (Y_neq rfl rfl) ?_
   refine S_val (Y_pickF rfl rfl) ?_
   refine S_nl rfl rfl ?_
   refine th_n (hK11 _ _ ?_)
   clear hK11 K11
   refine S_if rfl (fun hb3 => ?_) (fun hb3 => ?_)  -- c2
   · -- c2T
    first | with_reducible (replace hb3 := nb_nt hb3) | with_reducible (replace hb3 := nb_tt hb3) | with_reducible (replace hb3 := nb_bt hb3) | skip
    first | exact absurd rfl hb3 | omega | (simp at hb3)
   · -- c2F
    first | with_reducible (replace hb3 := nb_nf hb3) | with_reducible (replace hb3 := nb_tf hb3) | with_reducible (replace hb3 := nb_bf hb3) | skip
    refine wp_skip ?_
    refine th_n (hK10 _ _ ?_)
    clear hK10 K10
    refine wp_seq_k fun K12 hK12 => ?_
    refine wp_seq_k fun K13 hK13 => ?_
    refine D_start 5 96 (fun w => Mod (No) w) follows rfl rfl ?_  -- d1 r10
    intro w14 g14
    replace hA := hA.grow g14
    replace hB := hB.grow g14
    replace hC := hC.grow g14
    replace hA3 := hA3.grow g14
    replace hB3 := hB3.grow g14
    replace hC3 := hC3.grow g14
    replace OXw := OXw.grow g14
    replace OMw := OMw.grow g14
    replace hAw := hAw.grow g14
    replace hBw := hBw.grow g14
    replace hCw := hCw.grow g14
    replace OH := OH.grow g14
    replace hXA := hXA.grow g14
    replace hXB := hXB.grow g14
    replace OS := OS.grow g14
    replace hSS := hSS.grow g14
    replace OXg := OXg.grow g14
    replace OMg := OMg.grow g14
    replace hAg := hAg.grow g14
    replace hBg := hBg.grow g14
    replace hCg := hCg.grow g14
    replace G := G.grow g14
    replace B1 := B1.grow g14
    replace B5 := B5.grow g14
    replace B8 := B8.grow g14
    replace B11 := B11.grow g14
    have zg14 := g14.size
    have GS14 := Mod.refl (No) w14
    have B1d14 := B1
    have B8d14 := B8
    refine Dq (i := 0) rfl GS14 (fun _ hs => Y_loadS Try.underlying61 rfl sz61 rfl (by first | exact hs.cells0 (B8.row (by rfl)))) ?_
    refine Dq (i := 1) rfl GS14 (fun _ hs => Y_loadS Try.underlying58 rfl sz58 rfl (by first | exact hs.cells0 (B1.row (by rfl)))) ?_
    refine D_1 (i := 2) (by kernel_rfl) ?_
    refine E_call rfl rfl en39 (laws_toCounted_c _ _ _ _ _ _ _ _ _ _ (by assumption) (by assumption) (by assumption) (by omega) (by omega)) ?_  -- k7 laws.toCounted
    rintro v15 w15 ⟨a15, b15, f15, rs15, rfl, O15, ff15, B15, g15⟩
    replace hA := hA.grow g15
    replace hB := hB.grow g15
    replace hC := hC.grow g15
    replace hA3 := hA3.grow g15
    replace hB3 := hB3.grow g15
    replace hC3 := hC3.grow g15
    replace OXw := OXw.grow g15
    replace OMw := OMw.grow g15
    replace hAw := hAw.grow g15
    replace hBw := hBw.grow g15
    replace hCw := hCw.grow g15
    replace OH := OH.grow g15
    replace hXA := hXA.grow g15
    replace hXB := hXB.grow g15
    replace OS := OS.grow g15
    replace hSS := hSS.grow g15
    replace OXg := OXg.grow g15
    replace OMg := OMg.grow g15
    replace hAg := hAg.grow g15
    replace hBg := hBg.grow g15
    replace hCg := hCg.grow g15
    replace G := G.grow g15
    replace GS14 := GS14.grow g15
    replace B1 := B1.grow g15
    replace B5 := B5.grow g15
    replace B8 := B8.grow g15
    replace B11 := B11.grow g15
    have zg15 := g15.size
    obtain ⟨lo15, hlo15⟩ : ∃ x, x = w14.heap.size := ⟨_, rfl⟩
    obtain ⟨hi15, hhi15⟩ : ∃ x, x = w15.heap.size := ⟨_, rfl⟩
    have lbf15 := B15.lt
    have OT15 := (O15.lt).weak (Pr' := fun k => lo15 ≤ k ∧ k < hi15) (fun k hk => by omega)
    have hA15 := OT15.rc
    have hB15 := OT15.r1
    have hC15 := (R1.of_blkE B15).weak (Pr' := fun k => lo15 ≤ k ∧ k < hi15) (fun k hk => by omega)
    refine ⟨GS14, ?_⟩
    refine D_1 (i := 3) (by kernel_rfl) ?_
    refine E_call rfl rfl en41 (laws_eqCounted_c _ _ _ _ _ _ _ _ _ _ _ _ _ _ _ _ _ _ _ _ _ (by assumption) (by assumption) (by assumption) (by assumption) (by assumption) (by assumption) (by omega) (by omega)) ?_  -- k8 laws.eqCounted
    rintro v16 w16 ⟨rfl, g16⟩
    replace hA := hA.grow g16
    replace hB := hB.grow g16
    replace hC := hC.grow g16
    replace hA3 := hA3.grow g16
    replace hB3 := hB3.grow g16
    replace hC3 := hC3.grow g16
    replace OXw := OXw.grow g16
    replace OMw := OMw.grow g16
    replace hAw := hAw.grow g16
    replace hBw := hBw.grow g16
    replace hCw := hCw.grow g16
    replace OH := OH.grow g16
    replace hXA := hXA.grow g16
    replace hXB := hXB.grow g16
    replace OS := OS.grow g16
    replace hSS := hSS.grow g16
    replace OXg := OXg.grow g16
    replace OMg := OMg.grow g16
    replace hAg := hAg.grow g16
    replace hBg := hBg.grow g16
    replace hCg := hCg.grow g16
    replace hA15 := hA15.grow g16
    replace hB15 := hB15.grow g16
    replace hC15 := hC15.grow g16
    replace G := G.grow g16
    replace GS14 := GS14.grow g16
    replace B1 := B1.grow g16
    replace B5 := B5.grow g16
    replace B8 := B8.grow g16
    replace B11 := B11.grow g16
    have zg16 := g16.size
    refine ⟨GS14, ?_⟩
    refine Dq (i := 4) rfl GS14 (fun _ _ => Y_not rfl) ?_
    refine D_en (by kernel_rfl) rfl rfl ?_
    refine th_n (hK13 _ _ ?_)
    clear hK13 K13
    refine S_if rfl (fun hb4 => ?_) (fun hb4 => ?_)  -- c3
    · -- c3T
     first | with_reducible (replace hb4 := nb_nt hb4) | with_reducible (replace hb4 := nb_tt hb4) | with_reducible (replace hb4 := nb_bt hb4) | skip
     first | exact absurd rfl hb4 | omega | (simp at hb4)
    · -- c3F
     first | with_reducible (replace hb4 := nb_nf hb4) | with_reducible (replace hb4 := nb_tf hb4) | with_reducible (replace hb4 := nb_bf hb4) | skip
     refine wp_skip ?_
     refine th_n (hK12 _ _ ?_)
     clear hK12 K12
     refine wp_seq_k fun K14 hK14 => ?_
     refine Sb 96 rfl ?_  -- 12
     refine S_val (Y_assign rfl) ?_
     refine S_nl rfl rfl ?_
     refine th_n (hK14 _ _ ?_)
     clear hK14 K14
     refine wp_seq_k fun K15 hK15 => ?_
     refine Sb 96 rfl ?_  -- 13
     refine S_val (Y_loadS Try.underlying61 rfl sz61 rfl (B8.row (by rfl))) ?_  -- l9
     refine S_val (Y_move rfl) ?_
     refine S_call rfl en42 (laws_markCounted_c _ _ _ _ _ _ _ _ _ _ _ _ _ OH OS (fun i hi hj => by omega) (by omega) (by omega) ⟨by omega, by omega⟩) ?_  -- k9 laws.markCounted
     rintro v17 w17 ⟨rfl, O17, OM17, m17⟩
     have mm17 := m17.weak (T := fun i => lox ≤ i ∧ i < hix) (fun i h _ => by rcases h with h | h <;> omega)
     replace G := G.abv mm17
     replace hA := hA0.grow G
     replace hB := hB0.grow G
     replace hC := hC0.grow G
     replace hA3 := hA3.md mm17
     replace hB3 := hB3.md mm17
     replace hC3 := hC3.md mm17
     replace OXw := OXw.md mm17
     replace OMw := OMw.md mm17
     replace hAw := hAw.md mm17
     replace hBw := hBw.md mm17
     replace hCw := hCw.md mm17
     replace OXg := OXg.md mm17
     replace OMg := OMg.md mm17
     replace hAg := hAg.md mm17
     replace hBg := hBg.md mm17
     replace hCg := hCg.md mm17
     replace hA15 := hA15.md mm17
     replace hB15 := hB15.md mm17
     replace hC15 := hC15.md mm17
     replace B1 := B1.md mm17
     replace B5 := B5.md mm17
     replace B8 := B8.md mm17
     replace B11 := B11.md mm17
     have zmm17 := mm17.size
     refine S_val (Y_assign rfl) ?_
     refine S_nl rfl rfl ?_
     refine th_n (hK15 _ _ ?_)
     clear hK15 K15
     refine wp_seq_k fun K16 hK16 => ?_
     refine wp_seq_k fun K17 hK17 => ?_
     refine Sb 96 rfl ?_  -- 14
     refine S_val (Y_move rfl) ?_
     refine S_val (Y_lss rfl rfl) ?_
     refine S_val (Y_move rfl) ?_
     refine S_g 51 rfl (fun hb5 => ?_) (fun hb5 => ?_)  -- g2
     · -- g2T
      replace hb5 := nb_tt hb5
      first | exact absurd rfl hb5 | omega | (simp at hb5)
     · -- g2F
      replace hb5 := nb_tf hb5
      refine S_on rfl rfl ?_
      refine S_val (Y_loadS Try.underlying61 rfl sz61 rfl (B11.row (by rfl))) ?_  -- l10
      refine S_on rfl rfl ?_
      refine S_val (Y_loadS Try.underlying61 rfl sz61 rfl (B5.row (by rfl))) ?_  -- l11
      refine S_on rfl rfl ?_
      refine S_call rfl en41 (laws_eqCounted_c _ _ _ _ _ _ _ _ _ _ _ _ _ _ _ _ _ _ _ _ _ (by assumption) (by assumption) (by assumption) (by assumption) (by assumption) (by assumption) (by omega) (by omega)) ?_  -- k10 laws.eqCounted
      rintro v18 w18 ⟨rfl, g18⟩
      replace hA := hA.grow g18
      replace hB := hB.grow g18
      replace hC := hC.grow g18
      replace hA3 := hA3.grow g18
      replace hB3 := hB3.grow g18
      replace hC3 := hC3.grow g18
      replace OXw := OXw.grow g18
      replace OMw := OMw.grow g18
      replace hAw := hAw.grow g18
      replace hBw := hBw.grow g18
      replace hCw := hCw.grow g18
      replace OXg := OXg.grow g18
      replace OMg := OMg.grow g18
      replace hAg := hAg.grow g18
      replace hBg := hBg.grow g18
      replace hCg := hCg.grow g18
      replace hA15 := hA15.grow g18
      replace hB15 := hB15.grow g18
      replace hC15 := hC15.grow g18
      replace G := G.grow g18
      replace B1 := B1.grow g18
      replace B5 := B5.grow g18
      replace B8 := B8.grow g18
      replace B11 := B11.grow g18
      have zg18 := g18.size
      refine S_on rfl rfl ?_
      refine S_val (Y_not rfl) ?_
      refine S_val (Y_pickF rfl rfl) ?_
      refine S_val (Y_move rfl) ?_
      refine S_g 57 rfl (fun hb6 => ?_) (fun hb6 => ?_)  -- g3
      · -- g3T
       first | with_reducible (replace hb6 := nb_nt hb6) | with_reducible (replace hb6 := nb_tt hb6) | with_reducible (replace hb6 := nb_bt hb6) | skip
       first | exact absurd rfl hb6 | omega | (simp at hb6)
      · -- g3F
       first | with_reducible (replace hb6 := nb_nf hb6) | with_reducible (replace hb6 := nb_tf hb6) | with_reducible (replace hb6 := nb_bf hb6) | skip
       refine S_on rfl rfl ?_
       refine S_val (Y_move rfl) ?_
       refine S_on rfl rfl ?_
       refine S_val (Y_move rfl) ?_
       refine S_on rfl rfl ?_
       refine S_val (Y_neq rfl rfl) ?_
       refine S_val (Y_pickF rfl rfl) ?_
       refine S_nl rfl rfl ?_
       refine th_n (hK17 _ _ ?_)
       clear hK17 K17
       refine S_if rfl (fun hb7 => ?_) (fun hb7 => ?_)  -- c4
       · -- c4T
        first | with_reducible (replace hb7 := nb_nt hb7) | with_reducible (replace hb7 := nb_tt hb7) | with_reducible (replace hb7 := nb_bt hb7) | skip
        first | exact absurd rfl hb7 | omega | (simp at hb7)
       · -- c4F
        first | with_reducible (replace hb7 := nb_nf hb7) | with_reducible (replace hb7 := nb_tf hb7) | with_reducible (replace hb7 := nb_bf hb7) | skip
        refine wp_skip ?_
        refine th_n (hK16 _ _ ?_)
        clear hK16 K16
        refine wp_seq_k fun K18 hK18 => ?_
        refine Sb 96 rfl ?_  -- 16
        refine S_val (Y_assign rfl) ?_
        refine S_nl rfl rfl ?_
        refine th_n (hK18 _ _ ?_)
        clear hK18 K18
        refine wp_seq_k fun K19 hK19 => ?_
        refine Sb 96 rfl ?_  -- 17
        refine S_val (Y_loadS Try.underlying61 rfl sz61 rfl (B11.row (by rfl))) ?_  -- l12
        refine S_val (Y_move rfl) ?_
        refine S_call rfl en42 (laws_markCounted_c _ _ _ _ _ _ _ _ _ _ _ _ _ OXg OMg (fun i hi hj => (hpqg i hi.1).2 hj.1) (by omega) (by omega) ⟨by omega, by omega⟩) ?_  -- k11 laws.markCounted
        rintro v19 w19 ⟨rfl, O19, OM19, m19⟩
        have mm19 := m19.weak (T := fun i => log ≤ i ∧ i < hig) (fun i h _ => by rcases h with h | h <;> exact h.2)
        replace G := G.abv mm19
        replace hA := hA0.grow G
        replace hB := hB0.grow G
        replace hC := hC0.grow G
        replace hA3 := hA3.md mm19
        replace hB3 := hB3.md mm19
        replace hC3 := hC3.md mm19
        replace OXw := OXw.md mm19
        replace OMw := OMw.md mm19
        replace hAw := hAw.md mm19
        replace hBw := hBw.md mm19
        replace hCw := hCw.md mm19
        replace hA15 := hA15.md mm19
        replace hB15 := hB15.md mm19
        replace hC15 := hC15.md mm19
        replace B1 := B1.md mm19
        replace B5 := B5.md mm19
        replace B8 := B8.md mm19
        replace B11 := B11.md mm19
        have zmm19 := mm19.size
        have hMA := O19.rc
        have hMB := O19.r1
        have hMC := OM19.r1
        refine S_val (Y_assign rfl) ?_
        refine S_nl rfl rfl ?_
        refine th_n (hK19 _ _ ?_)
        clear hK19 K19
        refine wp_seq_k fun K20 hK20 => ?_
        refine Sb 96 rfl ?_  -- 18
        refine S_val (Y_assign rfl) ?_
        refine S_nl rfl rfl ?_
        refine th_n (hK20 _ _ ?_)
        clear hK20 K20
        refine wp_seq_k fun K21 hK21 => ?_
        refine Sb 96 rfl ?_  -- 19
        refine S_val (Y_loadS Try.underlying61 rfl sz61 rfl (B11.row (by rfl))) ?_  -- l13
        refine S_val (Y_move rfl) ?_
        refine S_call rfl en43 (laws_heldCounted_c _ _ _ _ _ _ _ _ _ _ _ _ hMA hMB hMC (by omega) (by omega) ⟨by omega, by omega⟩) ?_  -- k12 laws.heldCounted
        rintro v20 w20 ⟨rfl, g20⟩
        replace hA := hA.grow g20
        replace hB := hB.grow g20
        replace hC := hC.grow g20
        replace hA3 := hA3.grow g20
        replace hB3 := hB3.grow g20
        replace hC3 := hC3.grow g20
        replace OXw := OXw.grow g20
        replace OMw := OMw.grow g20
        replace hAw := hAw.grow g20
        replace hBw := hBw.grow g20
        replace hCw := hCw.grow g20
        replace hA15 := hA15.grow g20
        replace hB15 := hB15.grow g20
        replace hC15 := hC15.grow g20
        replace hMA := hMA.grow g20
        replace hMB := hMB.grow g20
        replace hMC := hMC.grow g20
        replace G := G.grow g20
        replace B1 := B1.grow g20
        replace B5 := B5.grow g20
        replace B8 := B8.grow g20
        replace B11 := B11.grow g20
        have zg20 := g20.size
        refine S_val (Y_assign rfl) ?_
        refine S_nl rfl rfl ?_
        refine th_n (hK21 _ _ ?_)
        clear hK21 K21
        refine wp_seq_k fun K22 hK22 => ?_
        refine wp_seq_k fun K23 hK23 => ?_
        refine Sb 96 rfl ?_  -- 20
        refine S_val (Y_move rfl) ?_
        refine S_val (Y_lss rfl rfl) ?_
        refine S_nl rfl rfl ?_
        refine th_n (hK23 _ _ ?_)
        clear hK23 K23
        refine S_if rfl (fun hb8 => ?_) (fun hb8 => ?_)  -- c5
        · -- c5T
         replace hb8 := nb_tt hb8
         first | exact absurd rfl hb8 | omega | (simp at hb8)
        · -- c5F
         replace hb8 := nb_tf hb8
         refine wp_skip ?_
         refine th_n (hK22 _ _ ?_)
         clear hK22 K22
         refine wp_seq_k fun K24 hK24 => ?_
         refine wp_seq_k fun K25 hK25 => ?_
         refine Sb 96 rfl ?_  -- 22
         refine S_val (Y_move rfl) ?_
         refine S_val (Y_move rfl) ?_
         refine S_val (Y_neq rfl rfl) ?_
         refine S_nl rfl rfl ?_
         refine th_n (hK25 _ _ ?_)
         clear hK25 K25
         refine S_if rfl (fun hb9 => ?_) (fun hb9 => ?_)  -- c6
         · -- c6T
          replace hb9 := nb_nt hb9
          first | exact absurd rfl hb9 | omega | (simp at hb9)
         · -- c6F
          replace hb9 := nb_nf hb9
          refine wp_skip ?_
          refine th_n (hK24 _ _ ?_)
          clear hK24 K24
          refine wp_seq_k fun K26 hK26 => ?_
          refine Sb 96 rfl ?_  -- 24
          refine S_val (Y_loadS Try.underlying58 rfl sz58 rfl (B1.row (by rfl))) ?_  -- l14
          refine S_call rfl en39 (laws_toCounted_c _ _ _ _ _ _ _ _ _ _ (by assumption) (by assumption) (by assumption) (by omega) (by omega)) ?_  -- k13 laws.toCounted
          rintro v21 w21 ⟨a21, b21, f21, rs21, rfl, O21, ff21, B21, g21⟩
          replace hA := hA.grow g21
          replace hB := hB.grow g21
          replace hC := hC.grow g21
          replace hA3 := hA3.grow g21
          replace hB3 := hB3.grow g21
          replace hC3 := hC3.grow g21
          replace OXw := OXw.grow g21
          replace OMw := OMw.grow g21
          replace hAw := hAw.grow g21
          replace hBw := hBw.grow g21
          replace hCw := hCw.grow g21
          replace hA15 := hA15.grow g21
          replace hB15 := hB15.grow g21
          replace hC15 := hC15.grow g21
          replace hMA := hMA.grow g21
          replace hMB := hMB.grow g21
          replace hMC := hMC.grow g21
          replace G := G.grow g21
          replace B1 := B1.grow g21
          replace B5 := B5.grow g21
          replace B8 := B8.grow g21
          replace B11 := B11.grow g21
          have zg21 := g21.size
          obtain ⟨lo21, hlo21⟩ : ∃ x, x = w20.heap.size := ⟨_, rfl⟩
          obtain ⟨hi21, hhi21⟩ : ∃ x, x = w21.heap.size := ⟨_, rfl⟩
          have lbf21 := B21.lt
          have OT21 := (O21.lt).weak (Pr' := fun k => lo21 ≤ k ∧ k < hi21) (fun k hk => by omega)
          have hA21 := OT21.rc
          have hB21 := OT21.r1
          have hC21 := (R1.of_blkE B21).weak (Pr' := fun k => lo21 ≤ k ∧ k < hi21) (fun k hk => by omega)
          refine S_call rfl en40 (impl_CollectCycles_c _ _ _ _ _ _ _ _ _ _ (by assumption) (by assumption) (by assumption) (by omega) (by omega)) ?_  -- k14 impl.CollectCycles
          rintro v22 w22 ⟨A22, B22, C22, n122, c122, n222, c222, n322, c322, rs22, P22, Q22, rfl, hn122, hn222, hn322, hPQ22, hQ22, O22, OM22, g22⟩
          replace hA := hA.grow g22
          replace hB := hB.grow g22
          replace hC := hC.grow g22
          replace hA3 := hA3.grow g22
          replace hB3 := hB3.grow g22
          replace hC3 := hC3.grow g22
          replace OXw := OXw.grow g22
          replace OMw := OMw.grow g22
          replace hAw := hAw.grow g22
          replace hBw := hBw.grow g22
          replace hCw := hCw.grow g22
          replace hA15 := hA15.grow g22
          replace hB15 := hB15.grow g22
          replace hC15 := hC15.grow g22
          replace hMA := hMA.grow g22
          replace hMB := hMB.grow g22
          replace hMC := hMC.grow g22
          replace hA21 := hA21.grow g22
          replace hB21 := hB21.grow g22
          replace hC21 := hC21.grow g22
          replace G := G.grow g22
          replace B1 := B1.grow g22
          replace B5 := B5.grow g22
          replace B8 := B8.grow g22
          replace B11 := B11.grow g22
          have zg22 := g22.size
          subst hn122
          subst hn222
          subst hn322
          obtain ⟨Ph, rfl⟩ : ∃ x, x = P22 := ⟨_, rfl⟩
          obtain ⟨Qh, rfl⟩ : ∃ x, x = Q22 := ⟨_, rfl⟩
          have hpqh := hPQ22
          have hqqh := hQ22
          obtain ⟨loh, hloh⟩ : ∃ x, x = w21.heap.size := ⟨_, rfl⟩
          obtain ⟨hih, hhih⟩ : ∃ x, x = w22.heap.size := ⟨_, rfl⟩
          have OXh := (O22.lt).weak (Pr' := fun k => Ph k ∧ loh ≤ k ∧ k < hih) (fun k hk => ⟨hk.1, by have h8 := (hpqh k hk.1).1; omega, by have h8 := hk.2; omega⟩)
          have OMh := (OM22.lt).weak (Pr' := fun k => Qh k ∧ loh ≤ k ∧ k < hih) (fun k hk => ⟨hk.1, by have h8 := hqqh k hk.1; omega, by have h8 := hk.2; omega⟩)
          have hAh := OXh.rc
          have hBh := OXh.r1
          have hCh := OMh.r1
          refine S_val (Y_move rfl) ?_
          refine S_val (Y_extract rfl rfl) ?_
          refine S_val (Y_extract rfl rfl) ?_
          refine S_alloc (cs := [_, _, _]) zr61 rfl ?_
          intro b23 w23 fb23 g23 B23
          have lb23 := B23.lt
          replace hA := hA.grow g23
          replace hB := hB.grow g23
          replace hC := hC.grow g23
          replace hA3 := hA3.grow g23
          replace hB3 := hB3.grow g23
          replace hC3 := hC3.grow g23
          replace OXw := OXw.grow g23
          replace OMw := OMw.grow g23
          replace hAw := hAw.grow g23
          replace hBw := hBw.grow g23
          replace hCw := hCw.grow g23
          replace hA15 := hA15.grow g23
          replace hB15 := hB15.grow g23
          replace hC15 := hC15.grow g23
          replace hMA := hMA.grow g23
          replace hMB := hMB.grow g23
          replace hMC := hMC.grow g23
          replace hA21 := hA21.grow g23
          replace hB21 := hB21.grow g23
          replace hC21 := hC21.grow g23
          replace OXh := OXh.grow g23
          replace OMh := OMh.grow g23
          replace hAh := hAh.grow g23
          replace hBh := hBh.grow g23
          replace hCh := hCh.grow g23
          replace G := G.grow g23
          replace B1 := B1.grow g23
          replace B5 := B5.grow g23
          replace B8 := B8.grow g23
          replace B11 := B11.grow g23
          have zg23 := g23.size
          refine S_stM (pre := []) (old := [_, _, _]) (post := []) (vs := [_, _, _]) sz61 rfl rfl rfl (by first | rfl | assumption) B23 rfl rfl ?_
          intro w24 m24 X24
          replace B23 := Blk.eq (ys := [_, _, _]) X24 rfl
          clear X24
          replace G := G.abv m24
          replace hA := hA0.grow G
          replace hB := hB0.grow G
          replace hC := hC0.grow G
          replace hA3 := hA3.md m24
          replace hB3 := hB3.md m24
          replace hC3 := hC3.md m24
          replace OXw := OXw.md m24
          replace OMw := OMw.md m24
          replace hAw := hAw.md m24
          replace hBw := hBw.md m24
          replace hCw := hCw.md m24
          replace hA15 := hA15.md m24
          replace hB15 := hB15.md m24
          replace hC15 := hC15.md m24
          replace hMA := hMA.md m24
          replace hMB := hMB.md m24
          replace hMC := hMC.md m24
          replace hA21 := hA21.md m24
          replace hB21 := hB21.md m24
          replace hC21 := hC21.md m24
          replace OXh := OXh.md m24
          replace OMh := OMh.md m24
          replace hAh := hAh.md m24
          replace hBh := hBh.md m24
          replace hCh := hCh.md m24
          replace B1 := B1.md m24
          replace B5 := B5.md m24
          replace B8 := B8.md m24
          replace B11 := B11.md m24
          have zm24 := m24.size
          refine S_val (Y_assign rfl) ?_
          refine S_nl rfl rfl ?_
          refine th_n (hK26 _ _ ?_)
          clear hK26 K26
          refine wp_seq_k fun K27 hK27 => ?_
          refine wp_seq_k fun K28 hK28 => ?_
          refine Sb 96 rfl ?_  -- 25
          refine S_val (Y_loadS Try.underlying61 rfl sz61 rfl (B23.row (by rfl))) ?_  -- l15
          refine S_val (Y_loadS Try.underlying61 rfl sz61 rfl (B5.row (by rfl))) ?_  -- l16
          refine S_call rfl en41 (laws_eqCounted_c _ _ _ _ _ _ _ _ _ _ _ _ _ _ _ _ _ _ _ _ _ (by assumption) (by assumption) (by assumption) (by assumption) (by assumption) (by assumption) (by omega) (by omega)) ?_  -- k15 laws.eqCounted
          rintro v25 w25 ⟨rfl, g25⟩
          replace hA := hA.grow g25
          replace hB := hB.grow g25
          replace hC := hC.grow g25
          replace hA3 := hA3.grow g25
          replace hB3 := hB3.grow g25
          replace hC3 := hC3.grow g25
          replace OXw := OXw.grow g25
          replace OMw := OMw.grow g25
          replace hAw := hAw.grow g25
          replace hBw := hBw.grow g25
          replace hCw := hCw.grow g25
          replace hA15 := hA15.grow g25
          replace hB15 := hB15.grow g25
          replace hC15 := hC15.grow g25
          replace hMA := hMA.grow g25
          replace hMB := hMB.grow g25
          replace hMC := hMC.grow g25
          replace hA21 := hA21.grow g25
          replace hB21 := hB21.grow g25
          replace hC21 := hC21.grow g25
          replace OXh := OXh.grow g25
          replace OMh := OMh.grow g25
          replace hAh := hAh.grow g25
          replace hBh := hBh.grow g25
          replace hCh := hCh.grow g25
          replace G := G.grow g25
          replace B1 := B1.grow g25
          replace B5 := B5.grow g25
          replace B8 := B8.grow g25
          replace B11 := B11.grow g25
          replace B23 := B23.grow g25
          have zg25 := g25.size
          refine S_val (Y_not rfl) ?_
          refine S_val (Y_move rfl) ?_
          refine S_g 83 rfl (fun hb10 => ?_) (fun hb10 => ?_)  -- g4
          · -- g4T
           first | with_reducible (replace hb10 := nb_nt hb10) | with_reducible (replace hb10 := nb_tt hb10) | with_reducible (replace hb10 := nb_bt hb10) | skip
           first | exact absurd rfl hb10 | omega | (simp at hb10)
          · -- g4F
           first | with_reducible (replace hb10 := nb_nf hb10) | with_reducible (replace hb10 := nb_tf hb10) | with_reducible (replace hb10 := nb_bf hb10) | skip
           refine S_on rfl rfl ?_
           refine S_val (Y_move rfl) ?_
           refine S_on rfl rfl ?_
           refine S_val (Y_move rfl) ?_
           refine S_on rfl rfl ?_
           refine S_val (Y_neq rfl rfl) ?_
           refine S_val (Y_pickF rfl rfl) ?_
           refine S_nl rfl rfl ?_
           refine th_n (hK28 _ _ ?_)
           clear hK28 K28
           refine S_if rfl (fun hb11 => ?_) (fun hb11 => ?_)  -- c7
           · -- c7T
            first | with_reducible (replace hb11 := nb_nt hb11) | with_reducible (replace hb11 := nb_tt hb11) | with_reducible (replace hb11 := nb_bt hb11) | skip
            first | exact absurd rfl hb11 | omega | (simp at hb11)
           · -- c7F
            first | with_reducible (replace hb11 := nb_nf hb11) | with_reducible (replace hb11 := nb_tf hb11) | with_reducible (replace hb11 := nb_bf hb11) | skip
            refine wp_skip ?_
            refine th_n (hK27 _ _ ?_)
            clear hK27 K27
            refine wp_seq_k fun K29 hK29 => ?_
            refine Sb 96 rfl ?_  -- 27
            refine S_val (Y_assign rfl) ?_
            refine S_nl rfl rfl ?_
            refine th_n (hK29 _ _ ?_)
            clear hK29 K29
            refine wp_seq_k fun K30 hK30 => ?_
            refine Sb 96 rfl ?_  -- 28
            refine S_val (Y_loadS Try.underlying61 rfl sz61 rfl (B11.row (by rfl))) ?_  -- l17
            refine S_val (Y_move rfl) ?_
            refine S_call rfl en43 (laws_heldCounted_c _ _ _ _ _ _ _ _ _ _ _ _ hMA hMB hMC (by omega) (by omega) ⟨by omega, by omega⟩) ?_  -- k16 laws.heldCounted
            rintro v26 w26 ⟨rfl, g26⟩
            replace hA := hA.grow g26
            replace hB := hB.grow g26
            replace hC := hC.grow g26
            replace hA3 := hA3.grow g26
            replace hB3 := hB3.grow g26
            replace hC3 := hC3.grow g26
            replace OXw := OXw.grow g26
            replace OMw := OMw.grow g26
            replace hAw := hAw.grow g26
            replace hBw := hBw.grow g26
            replace hCw := hCw.grow g26
            replace hA15 := hA15.grow g26
            replace hB15 := hB15.grow g26
            replace hC15 := hC15.grow g26
            replace hMA := hMA.grow g26
            replace hMB := hMB.grow g26
            replace hMC := hMC.grow g26
            replace hA21 := hA21.grow g26
            replace hB21 := hB21.grow g26
            replace hC21 := hC21.grow g26
            replace OXh := OXh.grow g26
            replace OMh := OMh.grow g26
            replace hAh := hAh.grow g26
            replace hBh := hBh.grow g26
            replace hCh := hCh.grow g26
            replace G := G.grow g26
            replace B1 := B1.grow g26
            replace B5 := B5.grow g26
            replace B8 := B8.grow g26
            replace B11 := B11.grow g26
            replace B23 := B23.grow g26
            have zg26 := g26.size
            refine S_val (Y_assign rfl) ?_
            refine S_nl rfl rfl ?_
            refine th_n (hK30 _ _ ?_)
            clear hK30 K30
            refine wp_seq_k fun K31 hK31 => ?_
            refine wp_seq_k fun K32 hK32 => ?_
            refine Sb 96 rfl ?_  -- 29
            refine S_val (Y_move rfl) ?_
            refine S_val (Y_lss rfl rfl) ?_
            refine S_nl rfl rfl ?_
            refine th_n (hK32 _ _ ?_)
            clear hK32 K32
            refine S_if rfl (fun hb12 => ?_) (fun hb12 => ?_)  -- c8
            · -- c8T
             replace hb12 := nb_tt hb12
             first | exact absurd rfl hb12 | omega | (simp at hb12)
            · -- c8F
             replace hb12 := nb_tf hb12
             refine wp_skip ?_
             refine th_n (hK31 _ _ ?_)
             clear hK31 K31
             refine wp_seq_k fun K33 hK33 => ?_
             refine wp_seq_k fun K34 hK34 => ?_
             refine Sb 96 rfl ?_  -- 31
             refine S_val (Y_move rfl) ?_
             refine S_val (Y_move rfl) ?_
             refine S_val (Y_neq rfl rfl) ?_
             refine S_nl rfl rfl ?_
             refine th_n (hK34 _ _ ?_)
             clear hK34 K34
             refine S_if rfl (fun hb13 => ?_) (fun hb13 => ?_)  -- c9
             · -- c9T
              replace hb13 := nb_nt hb13
              first | exact absurd rfl hb13 | omega | (simp at hb13)
             · -- c9F
              replace hb13 := nb_nf hb13
              refine wp_skip ?_
              refine th_n (hK33 _ _ ?_)
              clear hK33 K33
              refine wp_seq_k fun K35 hK35 => ?_
              refine Sb 96 rfl ?_  -- 33
              refine S_val (Y_assign rfl) ?_
              refine S_nl rfl rfl ?_
              refine th_n (hK35 _ _ ?_)
              clear hK35 K35
              refine wp_ret ?_
              refine ret_r1 rfl rfl ?_  -- r2
              exact ⟨rfl, G⟩

end Go.Proofs.Ytjmfdmndchoplaa
