/-
  Walks through functions of the program and the reference, and the plain laws behind them: what one claim needs of them.
  Conditions: those that each theorem states.
-/
import Derived.Test.YtdlmjmcddafojaaQdS4
set_option linter.unusedVariables false
set_option linter.unusedSimpArgs false
namespace Go.Proofs.Ytdlmjmcddafojaa
/-! WalkDh -/
section
open Go Go.RowKit
attribute [local irreducible] wpList wpAnyH Code.wp dOp
set_option maxHeartbeats 2000000 in
set_option maxRecDepth 20000 in
theorem spec_l20Heap_c (bR p : Nat) (n : Int) (w : World) (RD : Rd w bR p) (hp : p ≤ 700000) (hn : n ≤ 9223372036854775807) :
    Calls Try.prog 48 #[.pointer (some ⟨bR, 0, none⟩), .int .i64 n] w (Ret fun v w' => ∃ (hD : LH) (A1 B1 : Option Addr) (n1 c1 n2 c2 p2 : Nat), v = .agg #[.slice A1 n1 c1, .slice B1 n2 c2] ∧ n1 = hD.cells.length ∧ n2 = hD.roots.length ∧ hsize hD ≤ 300 ∧ p2 ≤ p + 900 ∧ RC (fun i => w.heap.size ≤ i) w' A1 hD.cells ∧ R1 (fun i => w.heap.size ≤ i) w' B1 (ints hD.roots) ∧ Rd w' bR p2 ∧ Mod (fun i => i = bR) w w') := by
 have lbR := RD.lt
 have hne : (50 : TypeId) ≠ 3 := by decide
 obtain ⟨z0, hz0⟩ : ∃ x, x = w.heap.size := ⟨_, rfl⟩
 refine enter Try.func48 rfl Try.ntmps48 (L := [_,_,_,_,_,_,_,_,_,_,_,_,_,_,_,_,_,_,_,_,_,_,_,_,_,_,_,_,_,_,_,_,_,_,_,_,_,_,_,_,_,_,_,_,_,_,_,_,_,_,_,_,_,_,_,_,_,_,_,_,_,_,_,_,_,_,_,_,_,_,_,_,_,_,_,_,_,_,_,_,_,_,_,_,_,_,_,_,_,_,_,_,_,_,_,_,_,_,_,_,_,_,_,_,_,_,_,_,_,_,_,_,_,_,_,_,_,_,_,_,_,_,_,_,_,_,_,_,_,_,_,_,_,_,_,_,_,_,_,_,_,_]) rfl ?_
 have G := Mod.refl (fun i => i = bR) w
 refine wp_seq_k fun K1 hK1 => ?_
 refine Sb 142 rfl ?_
 refine S_alloc (cs := [_, _]) zr26 rfl ?_
 intro b1 w1 fb1 g1 B1
 have lb1 := B1.lt
 replace RD := RD.grow g1
 replace G := G.grow g1
 have zg1 := g1.size
 refine S_nl rfl rfl ?_
 refine th_n (hK1 _ _ ?_)
 clear hK1 K1
 refine wp_seq_k fun K2 hK2 => ?_
 refine Sb 142 rfl ?_
 refine Smv rfl ?_
 refine S_call rfl en52 (spec_l20Program_c _ _ 0 _ RD (by omega) (by omega)) ?_
 rintro v2 w2 ⟨l2, A2, q2, cap2, p2, rfl, hq2, hqc2, hl2, hcs2, hp2, RO2, RD2, m2⟩
 obtain ⟨lP, rfl⟩ : ∃ x, x = l2 := ⟨_, rfl⟩
 subst hq2
 obtain ⟨pP, rfl⟩ : ∃ x, x = p2 := ⟨_, rfl⟩
 have hcsP := hcs2 (by decide)
 have hpP := hp2
 have hROP := RO2.below
 replace RD := RD2
 clear RD2
 replace G := Mod.trans' G m2 (fun _ h _ => h) (fun i h hl => by first | exact h | omega | (dsimp only at h ⊢; omega))
 replace B1 := B1.md m2
 have zm2 := m2.size
 refine S_call rfl en70 (spec_RunHeap_c _ _ lP _ _ hROP (by omega) hcsP) ?_
 rintro v3 w3 ⟨A3, B3, n13, c13, n23, c23, rs3, h3, rfl, hn13, hn23, va3, O3, g3⟩
 replace RD := RD.grow g3
 replace hROP := hROP.grow g3
 replace G := G.grow g3
 replace B1 := B1.grow g3
 have zg3 := g3.size
 obtain ⟨hK, rfl⟩ : ∃ x, x = h3 := ⟨_, rfl⟩
 have vK := va3
 subst hn13
 subst hn23
 obtain ⟨AK, rfl⟩ : ∃ x, x = A3 := ⟨_, rfl⟩
 obtain ⟨BK, rfl⟩ : ∃ x, x = B3 := ⟨_, rfl⟩
 obtain ⟨cK, rfl⟩ : ∃ x, x = c13 := ⟨_, rfl⟩
 obtain ⟨dK, rfl⟩ : ∃ x, x = c23 := ⟨_, rfl⟩
 obtain ⟨rsK, rfl⟩ : ∃ x, x = rs3 := ⟨_, rfl⟩
 have OX := O3.lt
 refine S_alloc (cs := [_, _]) zr26 rfl ?_
 intro b4 w4 fb4 g4 B4
 have lb4 := B4.lt
 replace RD := RD.grow g4
 replace OX := OX.grow g4
 replace G := G.grow g4
 replace B1 := B1.grow g4
 have zg4 := g4.size
 refine S_stM (pre := []) (old := [_, _]) (post := []) (vs := [_, _]) sz26 rfl rfl rfl (by first | rfl | assumption) B4 rfl rfl ?_
 intro w5 m5 X5
 replace B4 := Blk.eq (ys := [_, _]) X5 rfl
 clear X5
 replace G := Mod.trans' G m5 (fun _ h _ => h) (fun i h hl => by first | exact h | omega | (dsimp only at h ⊢; omega))
 replace RD := RD.md m5
 replace OX := OX.md m5
 replace B1 := B1.md m5
 have zm5 := m5.size
 refine S_nl rfl rfl ?_
 refine th_n (hK2 _ _ ?_)
 clear hK2 K2
 refine wp_seq_k fun K3 hK3 => ?_
 refine wp_seq_k fun K4 hK4 => ?_
 refine Sb 142 rfl ?_
 refine Smv rfl ?_
 refine S_call rfl en50 (spec_l20Rd_pick_c _ _ _ _ RD (by omega) (by omega)) ?_
 rintro v6 w6 ⟨k6, rfl, hk6, RD6, m6⟩
 obtain ⟨k0, rfl⟩ : ∃ x, x = k6 := ⟨_, rfl⟩
 have hk0 := hk6 (by decide)
 replace RD := RD6
 clear RD6
 replace G := Mod.trans' G m6 (fun _ h _ => h) (fun i h hl => by first | exact h | omega | (dsimp only at h ⊢; omega))
 replace OX := OX.md m6
 replace B1 := B1.md m6
 replace B4 := B4.md m6
 have zm6 := m6.size
 refine S_val (Y_eql rfl rfl) ?_
 refine S_nl rfl rfl ?_
 refine th_n (hK4 _ _ ?_)
 clear hK4 K4
 refine D_cut (fun a' w' => ∃ (hQ : LH) (AQ BQ : Option Addr) (cQ dQ : Nat) (rsQ : List (Option Addr × Nat)) (L : List Value), a' = ⟨L.toArray, []⟩ ∧ L.length = 142 ∧ L[0]? = some (.pointer (some ⟨bR, 0, none⟩)) ∧ L[1]? = some (.int .i64 n) ∧ L[4]? = some (.pointer (some ⟨b1, 0, none⟩)) ∧ L[5]? = some (.pointer (some ⟨b4, 0, none⟩)) ∧ Mod (fun i => i = bR ∨ i = b4) w6 w' ∧ (Blk w' b4 26 [.slice AQ hQ.cells.length cQ, .slice BQ hQ.roots.length dQ].toArray) ∧ (XH (fun i => w.heap.size ≤ i ∧ i ≠ b1 ∧ i ≠ b4 ∧ i < w'.heap.size) w' 50 3 AQ BQ hQ rsQ cQ dQ) ∧ (Sm hQ) ∧ (Rd w' bR (pP + 1))) ?_ ?_
 ·
  have GC7 := Mod.refl (fun i => i = bR ∨ i = b4) w6
  refine S_if rfl (fun hb1 => ?_) (fun hb1 => ?_)
  ·
   replace hb1 := nb_tt hb1
   have hXA := OX.rc
   have hXB := OX.r1
   have hzK := vK.small
   refine Sb 142 rfl ?_
   refine S_val (Y_loadS U26 rfl sz26 rfl (B4.row (by rfl))) ?_
   refine S_call rfl en71 (spec_CollectSweep2_c _ _ _ hK _ _ _ hXA hXB (by omega)) ?_
   rintro v9 w9 ⟨A9, B9, n19, c19, n29, c29, rs9, rfl, hn19, hn29, O9, g9⟩
   replace OX := OX.grow g9
   replace RD := RD.grow g9
   replace hXA := hXA.grow g9
   replace hXB := hXB.grow g9
   replace G := G.grow g9
   replace GC7 := GC7.grow g9
   replace B1 := B1.grow g9
   replace B4 := B4.grow g9
   have zg9 := g9.size
   obtain ⟨hS, hSe⟩ : ∃ x, x = (sweepV hK (reachV hK)).1 := ⟨_, rfl⟩
   have sQ : Sm hS := hSe ▸ Sm.swept vK
   rw [← hSe] at hn19 hn29 O9
   subst hn19
   subst hn29
   obtain ⟨AS, rfl⟩ : ∃ x, x = A9 := ⟨_, rfl⟩
   obtain ⟨BS, rfl⟩ : ∃ x, x = B9 := ⟨_, rfl⟩
   obtain ⟨cS, rfl⟩ : ∃ x, x = c19 := ⟨_, rfl⟩
   obtain ⟨dS, rfl⟩ : ∃ x, x = c29 := ⟨_, rfl⟩
   obtain ⟨rsS, rfl⟩ : ∃ x, x = rs9 := ⟨_, rfl⟩
   have OQ := O9.lt
   refine Smv rfl ?_
   refine S_val (Y_extract rfl rfl) ?_
   refine S_val (Y_extract rfl rfl) ?_
   refine S_stM (pre := []) (old := [_, _]) (post := []) (vs := [_, _]) sz26 rfl rfl rfl (by first | rfl | assumption) B4 rfl rfl ?_
   intro w10 m10 X10
   replace B4 := Blk.eq (ys := [_, _]) X10 rfl
   clear X10
   replace G := Mod.trans' G m10 (fun _ h _ => h) (fun i h hl => by first | exact h | omega | (dsimp only at h ⊢; omega))
   replace GC7 := GC7.trn m10
   replace OX := OX.md m10
   replace RD := RD.md m10
   replace OQ := OQ.md m10
   replace B1 := B1.md m10
   have zm10 := m10.size
   refine S_nl rfl rfl ?_
   exact ⟨rfl, _, _, _, _, _, _, _, rfl, rfl, rfl, rfl, rfl, rfl, GC7, B4, OQ.weak (fun i hi => by first | omega | (dsimp only at hi ⊢; omega)), sQ, RD⟩
  replace hb1 := nb_tf hb1
  have OQ := OX
  have sQ := vK.sm
  refine wp_skip ?_
  exact ⟨rfl, _, _, _, _, _, _, _, rfl, rfl, rfl, rfl, rfl, rfl, GC7, B4, OQ.weak (fun i hi => by first | omega | (dsimp only at hi ⊢; omega)), sQ, RD⟩
 rintro a' w8 ⟨hQ, AQ, BQ, cQ, dQ, rsQ, L, rfl, hL, hs0, hs1, hs4, hs5, gJ8, B4, OQ, sQ, RD⟩
 obtain ⟨x, rfl⟩ : ∃ x : Nat → Value, L = ((.pointer (some ⟨bR, 0, none⟩)) :: (.int .i64 n) :: x 2 :: x 3 :: (.pointer (some ⟨b1, 0, none⟩)) :: (.pointer (some ⟨b4, 0, none⟩)) :: x 6 :: x 7 :: x 8 :: x 9 :: x 10 :: x 11 :: x 12 :: x 13 :: x 14 :: x 15 :: x 16 :: x 17 :: x 18 :: x 19 :: x 20 :: x 21 :: x 22 :: x 23 :: x 24 :: x 25 :: x 26 :: x 27 :: x 28 :: x 29 :: x 30 :: x 31 :: x 32 :: x 33 :: x 34 :: x 35 :: x 36 :: x 37 :: x 38 :: x 39 :: x 40 :: x 41 :: x 42 :: x 43 :: x 44 :: x 45 :: x 46 :: x 47 :: x 48 :: x 49 :: x 50 :: x 51 :: x 52 :: x 53 :: x 54 :: x 55 :: x 56 :: x 57 :: x 58 :: x 59 :: x 60 :: x 61 :: x 62 :: x 63 :: x 64 :: x 65 :: x 66 :: x 67 :: x 68 :: x 69 :: x 70 :: x 71 :: x 72 :: x 73 :: x 74 :: x 75 :: x 76 :: x 77 :: x 78 :: x 79 :: x 80 :: x 81 :: x 82 :: x 83 :: x 84 :: x 85 :: x 86 :: x 87 :: x 88 :: x 89 :: x 90 :: x 91 :: x 92 :: x 93 :: x 94 :: x 95 :: x 96 :: x 97 :: x 98 :: x 99 :: x 100 :: x 101 :: x 102 :: x 103 :: x 104 :: x 105 :: x 106 :: x 107 :: x 108 :: x 109 :: x 110 :: x 111 :: x 112 :: x 113 :: x 114 :: x 115 :: x 116 :: x 117 :: x 118 :: x 119 :: x 120 :: x 121 :: x 122 :: x 123 :: x 124 :: x 125 :: x 126 :: x 127 :: x 128 :: x 129 :: x 130 :: x 131 :: x 132 :: x 133 :: x 134 :: x 135 :: x 136 :: x 137 :: x 138 :: x 139 :: x 140 :: x 141 :: []) := ⟨fun i => L.getD i undef, (slots_eta L 142 hL).trans (by show (L.getD 0 undef :: L.getD 1 undef :: L.getD 2 undef :: L.getD 3 undef :: L.getD 4 undef :: L.getD 5 undef :: L.getD 6 undef :: L.getD 7 undef :: L.getD 8 undef :: L.getD 9 undef :: L.getD 10 undef :: L.getD 11 undef :: L.getD 12 undef :: L.getD 13 undef :: L.getD 14 undef :: L.getD 15 undef :: L.getD 16 undef :: L.getD 17 undef :: L.getD 18 undef :: L.getD 19 undef :: L.getD 20 undef :: L.getD 21 undef :: L.getD 22 undef :: L.getD 23 undef :: L.getD 24 undef :: L.getD 25 undef :: L.getD 26 undef :: L.getD 27 undef :: L.getD 28 undef :: L.getD 29 undef :: L.getD 30 undef :: L.getD 31 undef :: L.getD 32 undef :: L.getD 33 undef :: L.getD 34 undef :: L.getD 35 undef :: L.getD 36 undef :: L.getD 37 undef :: L.getD 38 undef :: L.getD 39 undef :: L.getD 40 undef :: L.getD 41 undef :: L.getD 42 undef :: L.getD 43 undef :: L.getD 44 undef :: L.getD 45 undef :: L.getD 46 undef :: L.getD 47 undef :: L.getD 48 undef :: L.getD 49 undef :: L.getD 50 undef :: L.getD 51 undef :: L.getD 52 undef :: L.getD 53 undef :: L.getD 54 undef :: L.getD 55 undef :: L.getD 56 undef :: L.getD 57 undef :: L.getD 58 undef :: L.getD 59 undef :: L.getD 60 undef :: L.getD 61 undef :: L.getD 62 undef :: L.getD 63 undef :: L.getD 64 undef :: L.getD 65 undef :: L.getD 66 undef :: L.getD 67 undef :: L.getD 68 undef :: L.getD 69 undef :: L.getD 70 undef :: L.getD 71 undef :: L.getD 72 undef :: L.getD 73 undef :: L.getD 74 undef :: L.getD 75 undef :: L.getD 76 undef :: L.getD 77 undef :: L.getD 78 undef :: L.getD 79 undef :: L.getD 80 undef :: L.getD 81 undef :: L.getD 82 undef :: L.getD 83 undef :: L.getD 84 undef :: L.getD 85 undef :: L.getD 86 undef :: L.getD 87 undef :: L.getD 88 undef :: L.getD 89 undef :: L.getD 90 undef :: L.getD 91 undef :: L.getD 92 undef :: L.getD 93 undef :: L.getD 94 undef :: L.getD 95 undef :: L.getD 96 undef :: L.getD 97 undef :: L.getD 98 undef :: L.getD 99 undef :: L.getD 100 undef :: L.getD 101 undef :: L.getD 102 undef :: L.getD 103 undef :: L.getD 104 undef :: L.getD 105 undef :: L.getD 106 undef :: L.getD 107 undef :: L.getD 108 undef :: L.getD 109 undef :: L.getD 110 undef :: L.getD 111 undef :: L.getD 112 undef :: L.getD 113 undef :: L.getD 114 undef :: L.getD 115 undef :: L.getD 116 undef :: L.getD 117 undef :: L.getD 118 undef :: L.getD 119 undef :: L.getD 120 undef :: L.getD 121 undef :: L.getD 122 undef :: L.getD 123 undef :: L.getD 124 undef :: L.getD 125 undef :: L.getD 126 undef :: L.getD 127 undef :: L.getD 128 undef :: L.getD 129 undef :: L.getD 130 undef :: L.getD 131 undef :: L.getD 132 undef :: L.getD 133 undef :: L.getD 134 undef :: L.getD 135 undef :: L.getD 136 undef :: L.getD 137 undef :: L.getD 138 undef :: L.getD 139 undef :: L.getD 140 undef :: L.getD 141 undef :: []) = _; rw [slot_d hs0, slot_d hs1, slot_d hs4, slot_d hs5])⟩
 clear hL hs0 hs1 hs4 hs5
 replace G := Mod.trans' G gJ8 (fun _ h _ => h) (fun i h hl => by first | exact h | omega | (dsimp only at h ⊢; omega))
 replace OX := OX.md gJ8
 replace B1 := B1.md gJ8
 have zgJ8 := gJ8.size
 have lb4 := B4.lt
 refine th_n (hK3 _ _ ?_)
 clear hK3 K3
 refine wp_seq_k fun K5 hK5 => ?_
 refine wp_seq_k fun K6 hK6 => ?_
 refine Sb 142 rfl ?_
 refine Smv rfl ?_
 refine S_call rfl en50 (spec_l20Rd_pick_c _ _ _ _ RD (by omega) (by omega)) ?_
 rintro v11 w11 ⟨k11, rfl, hk11, RD11, m11⟩
 obtain ⟨k1, rfl⟩ : ∃ x, x = k11 := ⟨_, rfl⟩
 have hk1 := hk11 (by decide)
 replace RD := RD11
 clear RD11
 replace G := Mod.trans' G m11 (fun _ h _ => h) (fun i h hl => by first | exact h | omega | (dsimp only at h ⊢; omega))
 replace OQ := OQ.md m11
 replace B1 := B1.md m11
 replace B4 := B4.md m11
 have zm11 := m11.size
 refine Sas rfl ?_
 refine S_nl rfl rfl ?_
 refine th_n (hK6 _ _ ?_)
 clear hK6 K6
 refine D_cut (fun a' w' => ∃ (hL : LH) (AL BL : Option Addr) (cL dL : Nat) (rsL : List (Option Addr × Nat)) (pL : Nat) (L : List Value), a' = ⟨L.toArray, []⟩ ∧ L.length = 142 ∧ L[0]? = some (.pointer (some ⟨bR, 0, none⟩)) ∧ L[1]? = some (.int .i64 n) ∧ L[4]? = some (.pointer (some ⟨b1, 0, none⟩)) ∧ L[5]? = some (.pointer (some ⟨b4, 0, none⟩)) ∧ Mod (fun i => i = bR ∨ (w.heap.size ≤ i ∧ i ≠ b1)) w11 w' ∧ (Blk w' b4 26 [.slice AL hL.cells.length cL, .slice BL hL.roots.length dL].toArray) ∧ (XH (fun i => w.heap.size ≤ i ∧ i ≠ b1 ∧ i ≠ b4 ∧ i < w'.heap.size) w' 50 3 AL BL hL rsL cL dL) ∧ (Sm hL) ∧ (Rd w' bR pL) ∧ (pL ≤ pP + 40)) ?_ ?_
 ·
  have GC12 := Mod.refl (fun i => i = bR ∨ (w.heap.size ≤ i ∧ i ≠ b1)) w11
  refine wp_block ?_
  have OX := OQ.weak (Pr' := (fun i => w.heap.size ≤ i ∧ i ≠ b1 ∧ i ≠ b4)) (fun i hi => by first | omega | (dsimp only at hi ⊢; omega))
  go_loopw [6] (fun u6 wr => (∃ (k pp : Nat) (hK : LH) (AK BK : Option Addr) (cK dK : Nat) (rsK : List (Option Addr × Nat)), u6 = .int .i64 k ∧ k ≤ 5 ∧ pp + 3 * k ≤ pP + 20 ∧ Sm hK ∧ Blk wr b4 26 [.slice AK hK.cells.length cK, .slice BK hK.roots.length dK].toArray ∧ XH (fun i => w.heap.size ≤ i ∧ i ≠ b1 ∧ i ≠ b4) wr 50 3 AK BK hK rsK cK dK ∧ Rd wr bR pp) ∧ Mod (fun i => i = bR ∨ (w.heap.size ≤ i ∧ i ≠ b1)) w11 wr) (fun u6 wr => (intOf u6).toNat)
  case atStart =>
   refine ⟨?_, Mod.refl _ _⟩
   exact ⟨k1, _, hQ, _, _, _, _, _, rfl, by omega, by omega, sQ, B4, OX, RD⟩
  case round =>
   obtain ⟨w14, rfl⟩ : ∃ x : World, x = wr := ⟨_, rfl⟩
   obtain ⟨hrel, g14⟩ := hrel
   clear B4
   clear OX
   clear RD
   replace G := Mod.trans' G g14 (fun _ h _ => h) (fun i h hl => by first | exact h | omega | (dsimp only at h ⊢; omega))
   replace GC12 := GC12.trn g14
   replace B1 := B1.md g14
   have zg14 := g14.size
   obtain ⟨k, pp, hK, AK, BK, cK, dK, rsK, rfl, hk, hpp, sK, B4, OX, RD⟩ := hrel
   have GL14 := g14
   refine wp_seq_k fun K7 hK7 => ?_
   refine wp_seq_k fun K8 hK8 => ?_
   refine Sb 142 rfl ?_
   refine Smv rfl ?_
   refine S_val (Y_gtr rfl rfl) ?_
   refine Smv rfl ?_
   refine S_g 24 rfl (fun hb1 => ?_) (fun hb1 => ?_)
   ·
    replace hb1 := nb_tt hb1
    have hk0 : 0 < k := by omega
    refine S_on rfl rfl ?_
    refine S_val (Y_field U26 rfl fz26_0 (by decide) rfl) ?_
    refine S_on rfl rfl ?_
    refine S_val (Y_load U23 rfl rfl (B4.at (by rfl))) ?_
    refine S_on rfl rfl ?_
    refine S_val (Y_len U23 rfl) ?_
    refine S_on rfl rfl ?_
    refine S_val (Y_gtr rfl rfl) ?_
    refine S_val (Y_pickT rfl rfl) ?_
    refine S_nl rfl rfl ?_
    refine th_n (hK8 _ _ ?_)
    clear hK8 K8
    refine S_if rfl (fun hb2 => ?_) (fun hb2 => ?_)
    ·
     first | with_reducible (replace hb2 := nb_nt hb2) | with_reducible (replace hb2 := nb_tt hb2) | with_reducible (replace hb2 := nb_bt hb2) | skip
     have hlen : 0 < hK.cells.length := by omega
     have hl40 := sK.le
     refine wp_skip ?_
     refine th_n (hK7 _ _ ?_)
     clear hK7 K7
     refine wp_seq_k fun K9 hK9 => ?_
     refine wp_block ?_
     refine wp_seq_k fun K10 hK10 => ?_
     refine Sb 142 rfl ?_
     refine Smv rfl ?_
     refine S_val (Y_field U26 rfl fz26_0 (by decide) rfl) ?_
     refine S_val (Y_load U23 rfl rfl (B4.at (by rfl))) ?_
     refine S_val (Y_len U23 rfl) ?_
     refine S_call rfl en50 (spec_l20Rd_pick_c _ _ _ _ RD (by omega) (by omega)) ?_
     rintro v15 w15 ⟨k15, rfl, hk15, RD15, m15⟩
     obtain ⟨kA, rfl⟩ : ∃ x, x = k15 := ⟨_, rfl⟩
     have hkA := hk15 (by omega)
     replace RD := RD15
     clear RD15
     replace G := Mod.trans' G m15 (fun _ h _ => h) (fun i h hl => by first | exact h | omega | (dsimp only at h ⊢; omega))
     replace GC12 := GC12.trn m15
     replace GL14 := GL14.trn m15
     replace OX := OX.md m15
     replace B1 := B1.md m15
     replace B4 := B4.md m15
     have zm15 := m15.size
     refine Sas rfl ?_
     refine S_nl rfl rfl ?_
     refine th_n (hK10 _ _ ?_)
     clear hK10 K10
     refine wp_seq_k fun K11 hK11 => ?_
     refine Sb 142 rfl ?_
     refine Smv rfl ?_
     refine S_val (Y_field U26 rfl fz26_0 (by decide) rfl) ?_
     refine S_val (Y_load U23 rfl rfl (B4.at (by rfl))) ?_
     refine S_val (Y_len U23 rfl) ?_
     refine S_call rfl en50 (spec_l20Rd_pick_c _ _ _ _ RD (by omega) (by omega)) ?_
     rintro v16 w16 ⟨k16, rfl, hk16, RD16, m16⟩
     obtain ⟨kB, rfl⟩ : ∃ x, x = k16 := ⟨_, rfl⟩
     have hkB := hk16 (by omega)
     replace RD := RD16
     clear RD16
     replace G := Mod.trans' G m16 (fun _ h _ => h) (fun i h hl => by first | exact h | omega | (dsimp only at h ⊢; omega))
     replace GC12 := GC12.trn m16
     replace GL14 := GL14.trn m16
     replace OX := OX.md m16
     replace B1 := B1.md m16
     replace B4 := B4.md m16
     have zm16 := m16.size
     have hA1 : kA < hK.cells.length := by omega
     have hB1 : kB < hK.cells.length := by omega
     obtain ⟨gC, RX, capX, rfl, hpC, hrs, ccx, hRX, hRb⟩ := OX.cellAt hne (i := kA) hA1
     obtain ⟨gD, RY, capY, eD, _, _, ccy, _, _⟩ := OX.cellAt hne (i := kB) hB1
     cases eD
     try dsimp only at hpC
     refine Sas rfl ?_
     refine S_nl rfl rfl ?_
     refine th_n (hK11 _ _ ?_)
     clear hK11 K11
     refine wp_seq_k fun K12 hK12 => ?_
     refine Sb 142 rfl ?_
     refine S_val (Y_field U26 rfl fz26_0 (by decide) rfl) ?_
     refine S_val (Y_load U23 rfl rfl (B4.at (by rfl))) ?_
     refine Smv rfl ?_
     refine S_val (Y_index U23 sz50 rfl rfl (by first | assumption | omega)) ?_
     refine S_val (Y_field U50 rfl fz50_0 (by decide) rfl) ?_
     refine S_val (Y_load U4 rfl rfl (by first | assumption | exact ccx.at (by rfl) | exact ccy.at (by rfl) | exact B1.at (by rfl) | exact B4.at (by rfl))) ?_
     refine Smv rfl ?_
     refine S_g 48 rfl (fun hb3 => ?_) (fun hb3 => ?_)
     ·
      first | with_reducible (replace hb3 := nb_nt hb3) | with_reducible (replace hb3 := nb_tt hb3) | with_reducible (replace hb3 := nb_bt hb3) | skip
      refine S_on rfl rfl ?_
      refine S_val (Y_field U26 rfl fz26_0 (by decide) rfl) ?_
      refine S_on rfl rfl ?_
      refine S_val (Y_load U23 rfl rfl (B4.at (by rfl))) ?_
      refine S_on rfl rfl ?_
      refine Smv rfl ?_
      refine S_on rfl rfl ?_
      refine S_val (Y_index U23 sz50 rfl rfl (by first | assumption | omega)) ?_
      refine S_on rfl rfl ?_
      refine S_val (Y_field U50 rfl fz50_0 (by decide) rfl) ?_
      refine S_on rfl rfl ?_
      refine S_val (Y_load U4 rfl rfl (by first | assumption | exact ccx.at (by rfl) | exact ccy.at (by rfl) | exact B1.at (by rfl) | exact B4.at (by rfl))) ?_
      refine S_val (Y_pickT rfl rfl) ?_
      refine Smv rfl ?_
      refine S_g 56 rfl (fun hb4 => ?_) (fun hb4 => ?_)
      ·
       first | with_reducible (replace hb4 := nb_nt hb4) | with_reducible (replace hb4 := nb_tt hb4) | with_reducible (replace hb4 := nb_bt hb4) | skip
       refine S_on rfl rfl ?_
       refine S_val (Y_field U26 rfl fz26_0 (by decide) rfl) ?_
       refine S_on rfl rfl ?_
       refine S_val (Y_load U23 rfl rfl (B4.at (by rfl))) ?_
       refine S_on rfl rfl ?_
       refine Smv rfl ?_
       refine S_on rfl rfl ?_
       refine S_val (Y_index U23 sz50 rfl rfl (by first | assumption | omega)) ?_
       refine S_on rfl rfl ?_
       refine S_val (Y_field U50 rfl fz50_2 (by decide) rfl) ?_
       refine S_on rfl rfl ?_
       refine S_val (Y_load U24 rfl rfl (by first | assumption | exact ccx.at (by rfl) | exact ccy.at (by rfl) | exact B1.at (by rfl) | exact B4.at (by rfl))) ?_
       refine S_on rfl rfl ?_
       refine S_val (Y_len U24 rfl) ?_
       refine S_on rfl rfl ?_
       refine S_val (Y_gtr rfl rfl) ?_
       refine S_val (Y_pickT rfl rfl) ?_
       refine S_nl rfl rfl ?_
       refine th_n (hK12 _ _ ?_)
       clear hK12 K12
       refine S_if rfl (fun hb5 => ?_) (fun hb5 => ?_)
       ·
        first | with_reducible (replace hb5 := nb_nt hb5) | with_reducible (replace hb5 := nb_tt hb5) | with_reducible (replace hb5 := nb_bt hb5) | skip
        have hr0 : 0 < hK.cells[kA].refs.length := by omega
        have hr3 := sK.three _ (List.getElem_mem hA1)
        obtain ⟨bX, rfl, hpX, hXC⟩ := hRb hr0
        try dsimp only at hpX
        refine D_start 18 142 (fun w => Mod (fun i => i = bR ∨ i = bX) w) follows rfl rfl ?_
        intro w17 g17
        replace OX := OX.grow g17
        replace RD := RD.grow g17
        replace G := G.grow g17
        replace GC12 := GC12.grow g17
        replace GL14 := GL14.grow g17
        replace B1 := B1.grow g17
        replace B4 := B4.grow g17
        replace ccx := ccx.grow g17
        replace ccy := ccy.grow g17
        have zg17 := g17.size
        have GS17 := Mod.refl (fun i => i = bR ∨ i = bX) w17
        refine Dq (i := 0) rfl GS17 (fun _ _ => Y_field U26 rfl fz26_0 (by decide) rfl) ?_
        refine Dq (i := 1) rfl GS17 (fun _ hs => Y_load U23 rfl rfl (by first | exact hs.cel (B4.at (by rfl)))) ?_
        refine Dq (i := 2) rfl GS17 (fun _ _ => Y_move rfl) ?_
        refine Dq (i := 3) rfl GS17 (fun _ _ => Y_index U23 sz50 rfl rfl (by first | assumption | omega)) ?_
        refine Dq (i := 4) rfl GS17 (fun _ _ => Y_field U50 rfl fz50_2 (by decide) rfl) ?_
        refine Dq (i := 5) rfl GS17 (fun _ hs => Y_load U24 rfl rfl (by first | exact hs.cel (by assumption) | exact hs.cel (ccx.at (by rfl)) | exact hs.cel (ccy.at (by rfl)) | exact hs.cel (B1.at (by rfl)) | exact hs.cel (B4.at (by rfl)))) ?_
        refine Dq (i := 6) rfl GS17 (fun _ _ => Y_move rfl) ?_
        refine Dq (i := 7) rfl GS17 (fun _ _ => Y_field U26 rfl fz26_0 (by decide) rfl) ?_
        refine Dq (i := 8) rfl GS17 (fun _ hs => Y_load U23 rfl rfl (by first | exact hs.cel (B4.at (by rfl)))) ?_
        refine Dq (i := 9) rfl GS17 (fun _ _ => Y_move rfl) ?_
        refine Dq (i := 10) rfl GS17 (fun _ _ => Y_index U23 sz50 rfl rfl (by first | assumption | omega)) ?_
        refine Dq (i := 11) rfl GS17 (fun _ _ => Y_field U50 rfl fz50_2 (by decide) rfl) ?_
        refine Dq (i := 12) rfl GS17 (fun _ hs => Y_load U24 rfl rfl (by first | exact hs.cel (by assumption) | exact hs.cel (ccx.at (by rfl)) | exact hs.cel (ccy.at (by rfl)) | exact hs.cel (B1.at (by rfl)) | exact hs.cel (B4.at (by rfl)))) ?_
        refine Dq (i := 13) rfl GS17 (fun _ _ => Y_len U24 rfl) ?_
        refine Dq (i := 15) rfl GS17 (fun _ _ => Y_move rfl) ?_
        refine D_1 (i := 14) (by kernel_rfl) ?_
        refine E_call rfl rfl en50 (spec_l20Rd_pick_c _ _ _ _ RD (by omega) (by omega)) ?_
        rintro v18 w18 ⟨k18, rfl, hk18, RD18, m18⟩
        obtain ⟨kZ, rfl⟩ : ∃ x, x = k18 := ⟨_, rfl⟩
        have hkZ := hk18 (by omega)
        replace RD := RD18
        clear RD18
        replace G := Mod.trans' G m18 (fun _ h _ => h) (fun i h hl => by first | exact h | omega | (dsimp only at h ⊢; omega))
        replace GC12 := GC12.trn m18
        replace GL14 := GL14.trn m18
        replace GS17 := GS17.trn m18
        replace OX := OX.md m18
        replace B1 := B1.md m18
        replace B4 := B4.md m18
        clear ccx
        clear ccy
        have zm18 := m18.size
        refine ⟨GS17, ?_⟩
        refine Dq (i := 16) rfl GS17 (fun _ _ => Y_index U24 sz3 rfl rfl (by first | assumption | omega)) ?_
        refine D_1 (i := 17) (by kernel_rfl) ?_
        refine E_of (i := 17) rfl (Ys_ref sz3 OX hne hA1 hrs (j := kZ) (by omega) rfl rfl) ?_
        rintro w19 ⟨m19, hp19, OY⟩
        try dsimp only at hp19
        replace G := Mod.trans' G m19 (fun _ h _ => h) (fun i h hl => by first | exact h | omega | (dsimp only at h ⊢; omega))
        replace GC12 := GC12.trn m19
        replace GL14 := GL14.trn m19
        replace GS17 := GS17.trn m19
        replace RD := RD.md m19
        replace B1 := B1.md m19
        replace B4 := B4.md m19
        have zm19 := m19.size
        refine ⟨GS17, ?_⟩
        refine D_en (by kernel_rfl) rfl rfl ?_
        refine ib_n ?_
        refine th_n (hK9 _ _ ?_)
        clear hK9 K9
        refine Sb 142 rfl ?_
        refine Smv rfl ?_
        refine S_val (Y_sub (c := ((k - 1 : Nat) : Int)) rfl rfl (by omega) (by omega) (by omega)) ?_
        refine Sas rfl ?_
        refine S_nl rfl rfl ?_
        refine th_n ?_
        go_roundw
        case rel =>
         refine ⟨?_, GL14⟩
         first | exact ⟨k - 1, _, _, _, _, _, _, _, rfl, by omega, by omega, sK.ref hA1 kZ (kB : Int), Blk.eq B4 (by simp), OY, RD⟩ | exact ⟨k - 1, _, hK, _, _, _, _, _, rfl, by omega, by omega, sK, B4, OX, RD⟩
        case measure =>
         exact dec_nat (by omega)
       first | with_reducible (replace hb5 := nb_nf hb5) | with_reducible (replace hb5 := nb_tf hb5) | with_reducible (replace hb5 := nb_bf hb5) | skip
       refine wp_skip ?_
       refine ib_n ?_
       refine th_n (hK9 _ _ ?_)
       clear hK9 K9
       refine Sb 142 rfl ?_
       refine Smv rfl ?_
       refine S_val (Y_sub (c := ((k - 1 : Nat) : Int)) rfl rfl (by omega) (by omega) (by omega)) ?_
       refine Sas rfl ?_
       refine S_nl rfl rfl ?_
       refine th_n ?_
       go_roundw
       case rel =>
        refine ⟨?_, GL14⟩
        first | exact ⟨k - 1, _, _, _, _, _, _, _, rfl, by omega, by omega, sK.ref hA1 kZ (kB : Int), Blk.eq B4 (by simp), OY, RD⟩ | exact ⟨k - 1, _, hK, _, _, _, _, _, rfl, by omega, by omega, sK, B4, OX, RD⟩
       case measure =>
        exact dec_nat (by omega)
      first | with_reducible (replace hb4 := nb_nf hb4) | with_reducible (replace hb4 := nb_tf hb4) | with_reducible (replace hb4 := nb_bf hb4) | skip
      refine S_off rfl rfl ?_
      refine S_off rfl rfl ?_
      refine S_off rfl rfl ?_
      refine S_off rfl rfl ?_
      refine S_off rfl rfl ?_
      refine S_off rfl rfl ?_
      refine S_off rfl rfl ?_
      refine S_off rfl rfl ?_
      refine S_val (Y_pickF rfl rfl) ?_
      refine S_nl rfl rfl ?_
      refine th_n (hK12 _ _ ?_)
      clear hK12 K12
      refine S_ifF rfl ?_
      refine wp_skip ?_
      refine ib_n ?_
      refine th_n (hK9 _ _ ?_)
      clear hK9 K9
      refine Sb 142 rfl ?_
      refine Smv rfl ?_
      refine S_val (Y_sub (c := ((k - 1 : Nat) : Int)) rfl rfl (by omega) (by omega) (by omega)) ?_
      refine Sas rfl ?_
      refine S_nl rfl rfl ?_
      refine th_n ?_
      go_roundw
      case rel =>
       refine ⟨?_, GL14⟩
       first | exact ⟨k - 1, _, _, _, _, _, _, _, rfl, by omega, by omega, sK.ref hA1 kZ (kB : Int), Blk.eq B4 (by simp), OY, RD⟩ | exact ⟨k - 1, _, hK, _, _, _, _, _, rfl, by omega, by omega, sK, B4, OX, RD⟩
      case measure =>
       exact dec_nat (by omega)
     first | with_reducible (replace hb3 := nb_nf hb3) | with_reducible (replace hb3 := nb_tf hb3) | with_reducible (replace hb3 := nb_bf hb3) | skip
     refine S_off rfl rfl ?_
     refine S_off rfl rfl ?_
     refine S_off rfl rfl ?_
     refine S_off rfl rfl ?_
     refine S_off rfl rfl ?_
     refine S_off rfl rfl ?_
     refine S_val (Y_pickF rfl rfl) ?_
     refine Smv rfl ?_
     refine S_off rfl rfl ?_
     refine S_off rfl rfl ?_
     refine S_off rfl rfl ?_
     refine S_off rfl rfl ?_
     refine S_off rfl rfl ?_
     refine S_off rfl rfl ?_
     refine S_off rfl rfl ?_
     refine S_off rfl rfl ?_
     refine S_val (Y_pickF rfl rfl) ?_
     refine S_nl rfl rfl ?_
     refine th_n (hK12 _ _ ?_)
     clear hK12 K12
     refine S_ifF rfl ?_
     refine wp_skip ?_
     refine ib_n ?_
     refine th_n (hK9 _ _ ?_)
     clear hK9 K9
     refine Sb 142 rfl ?_
     refine Smv rfl ?_
     refine S_val (Y_sub (c := ((k - 1 : Nat) : Int)) rfl rfl (by omega) (by omega) (by omega)) ?_
     refine Sas rfl ?_
     refine S_nl rfl rfl ?_
     refine th_n ?_
     go_roundw
     case rel =>
      refine ⟨?_, GL14⟩
      first | exact ⟨k - 1, _, _, _, _, _, _, _, rfl, by omega, by omega, sK.ref hA1 kZ (kB : Int), Blk.eq B4 (by simp), OY, RD⟩ | exact ⟨k - 1, _, hK, _, _, _, _, _, rfl, by omega, by omega, sK, B4, OX, RD⟩
     case measure =>
      exact dec_nat (by omega)
    first | with_reducible (replace hb2 := nb_nf hb2) | with_reducible (replace hb2 := nb_tf hb2) | with_reducible (replace hb2 := nb_bf hb2) | skip
    refine wp_exit ?_
    refine th_x ?_
    try clear GL14
    refine th_x ?_
    refine ib_e ?_
    exact ⟨rfl, _, _, _, _, _, _, _, _, rfl, rfl, rfl, rfl, rfl, rfl, GC12, B4, OX.lt.weak (fun i hi => by first | omega | (dsimp only at hi ⊢; omega)), sK, RD, by omega⟩
   replace hb1 := nb_tf hb1
   refine S_off rfl rfl ?_
   refine S_off rfl rfl ?_
   refine S_off rfl rfl ?_
   refine S_off rfl rfl ?_
   refine S_val (Y_pickF rfl rfl) ?_
   refine S_nl rfl rfl ?_
   refine th_n (hK8 _ _ ?_)
   clear hK8 K8
   refine S_ifF rfl ?_
   refine wp_exit ?_
   refine th_x ?_
   try clear GL14
   refine th_x ?_
   refine ib_e ?_
   exact ⟨rfl, _, _, _, _, _, _, _, _, rfl, rfl, rfl, rfl, rfl, rfl, GC12, B4, OX.lt.weak (fun i hi => by first | omega | (dsimp only at hi ⊢; omega)), sK, RD, by omega⟩
 rintro a' w13 ⟨hL, AL, BL, cL, dL, rsL, pL, L, rfl, hL, hs0, hs1, hs4, hs5, gJ13, B4, OX, sL, RD, hpL⟩
 obtain ⟨x, rfl⟩ : ∃ x : Nat → Value, L = ((.pointer (some ⟨bR, 0, none⟩)) :: (.int .i64 n) :: x 2 :: x 3 :: (.pointer (some ⟨b1, 0, none⟩)) :: (.pointer (some ⟨b4, 0, none⟩)) :: x 6 :: x 7 :: x 8 :: x 9 :: x 10 :: x 11 :: x 12 :: x 13 :: x 14 :: x 15 :: x 16 :: x 17 :: x 18 :: x 19 :: x 20 :: x 21 :: x 22 :: x 23 :: x 24 :: x 25 :: x 26 :: x 27 :: x 28 :: x 29 :: x 30 :: x 31 :: x 32 :: x 33 :: x 34 :: x 35 :: x 36 :: x 37 :: x 38 :: x 39 :: x 40 :: x 41 :: x 42 :: x 43 :: x 44 :: x 45 :: x 46 :: x 47 :: x 48 :: x 49 :: x 50 :: x 51 :: x 52 :: x 53 :: x 54 :: x 55 :: x 56 :: x 57 :: x 58 :: x 59 :: x 60 :: x 61 :: x 62 :: x 63 :: x 64 :: x 65 :: x 66 :: x 67 :: x 68 :: x 69 :: x 70 :: x 71 :: x 72 :: x 73 :: x 74 :: x 75 :: x 76 :: x 77 :: x 78 :: x 79 :: x 80 :: x 81 :: x 82 :: x 83 :: x 84 :: x 85 :: x 86 :: x 87 :: x 88 :: x 89 :: x 90 :: x 91 :: x 92 :: x 93 :: x 94 :: x 95 :: x 96 :: x 97 :: x 98 :: x 99 :: x 100 :: x 101 :: x 102 :: x 103 :: x 104 :: x 105 :: x 106 :: x 107 :: x 108 :: x 109 :: x 110 :: x 111 :: x 112 :: x 113 :: x 114 :: x 115 :: x 116 :: x 117 :: x 118 :: x 119 :: x 120 :: x 121 :: x 122 :: x 123 :: x 124 :: x 125 :: x 126 :: x 127 :: x 128 :: x 129 :: x 130 :: x 131 :: x 132 :: x 133 :: x 134 :: x 135 :: x 136 :: x 137 :: x 138 :: x 139 :: x 140 :: x 141 :: []) := ⟨fun i => L.getD i undef, (slots_eta L 142 hL).trans (by show (L.getD 0 undef :: L.getD 1 undef :: L.getD 2 undef :: L.getD 3 undef :: L.getD 4 undef :: L.getD 5 undef :: L.getD 6 undef :: L.getD 7 undef :: L.getD 8 undef :: L.getD 9 undef :: L.getD 10 undef :: L.getD 11 undef :: L.getD 12 undef :: L.getD 13 undef :: L.getD 14 undef :: L.getD 15 undef :: L.getD 16 undef :: L.getD 17 undef :: L.getD 18 undef :: L.getD 19 undef :: L.getD 20 undef :: L.getD 21 undef :: L.getD 22 undef :: L.getD 23 undef :: L.getD 24 undef :: L.getD 25 undef :: L.getD 26 undef :: L.getD 27 undef :: L.getD 28 undef :: L.getD 29 undef :: L.getD 30 undef :: L.getD 31 undef :: L.getD 32 undef :: L.getD 33 undef :: L.getD 34 undef :: L.getD 35 undef :: L.getD 36 undef :: L.getD 37 undef :: L.getD 38 undef :: L.getD 39 undef :: L.getD 40 undef :: L.getD 41 undef :: L.getD 42 undef :: L.getD 43 undef :: L.getD 44 undef :: L.getD 45 undef :: L.getD 46 undef :: L.getD 47 undef :: L.getD 48 undef :: L.getD 49 undef :: L.getD 50 undef :: L.getD 51 undef :: L.getD 52 undef :: L.getD 53 undef :: L.getD 54 undef :: L.getD 55 undef :: L.getD 56 undef :: L.getD 57 undef :: L.getD 58 undef :: L.getD 59 undef :: L.getD 60 undef :: L.getD 61 undef :: L.getD 62 undef :: L.getD 63 undef :: L.getD 64 undef :: L.getD 65 undef :: L.getD 66 undef :: L.getD 67 undef :: L.getD 68 undef :: L.getD 69 undef :: L.getD 70 undef :: L.getD 71 undef :: L.getD 72 undef :: L.getD 73 undef :: L.getD 74 undef :: L.getD 75 undef :: L.getD 76 undef :: L.getD 77 undef :: L.getD 78 undef :: L.getD 79 undef :: L.getD 80 undef :: L.getD 81 undef :: L.getD 82 undef :: L.getD 83 undef :: L.getD 84 undef :: L.getD 85 undef :: L.getD 86 undef :: L.getD 87 undef :: L.getD 88 undef :: L.getD 89 undef :: L.getD 90 undef :: L.getD 91 undef :: L.getD 92 undef :: L.getD 93 undef :: L.getD 94 undef :: L.getD 95 undef :: L.getD 96 undef :: L.getD 97 undef :: L.getD 98 undef :: L.getD 99 undef :: L.getD 100 undef :: L.getD 101 undef :: L.getD 102 undef :: L.getD 103 undef :: L.getD 104 undef :: L.getD 105 undef :: L.getD 106 undef :: L.getD 107 undef :: L.getD 108 undef :: L.getD 109 undef :: L.getD 110 undef :: L.getD 111 undef :: L.getD 112 undef :: L.getD 113 undef :: L.getD 114 undef :: L.getD 115 undef :: L.getD 116 undef :: L.getD 117 undef :: L.getD 118 undef :: L.getD 119 undef :: L.getD 120 undef :: L.getD 121 undef :: L.getD 122 undef :: L.getD 123 undef :: L.getD 124 undef :: L.getD 125 undef :: L.getD 126 undef :: L.getD 127 undef :: L.getD 128 undef :: L.getD 129 undef :: L.getD 130 undef :: L.getD 131 undef :: L.getD 132 undef :: L.getD 133 undef :: L.getD 134 undef :: L.getD 135 undef :: L.getD 136 undef :: L.getD 137 undef :: L.getD 138 undef :: L.getD 139 undef :: L.getD 140 undef :: L.getD 141 undef :: []) = _; rw [slot_d hs0, slot_d hs1, slot_d hs4, slot_d hs5])⟩
 clear hL hs0 hs1 hs4 hs5
 replace G := Mod.trans' G gJ13 (fun _ h _ => h) (fun i h hl => by first | exact h | omega | (dsimp only at h ⊢; omega))
 replace B1 := B1.md gJ13
 have zgJ13 := gJ13.size
 have lb4 := B4.lt
 refine th_n (hK5 _ _ ?_)
 clear hK5 K5
 refine wp_seq_k fun K13 hK13 => ?_
 refine wp_seq_k fun K14 hK14 => ?_
 refine Sb 142 rfl ?_
 refine Smv rfl ?_
 refine Smv rfl ?_
 refine S_call rfl en53 (spec_l20Rd_odd_c _ _ _ _ RD (by omega) (by omega)) ?_
 rintro v20 w20 ⟨r20, p20, rfl, hr20, hp20, RD20, m20⟩
 obtain ⟨r9, rfl⟩ : ∃ x, x = r20 := ⟨_, rfl⟩
 have hr9 := hr20
 replace RD := RD20
 clear RD20
 replace G := Mod.trans' G m20 (fun _ h _ => h) (fun i h hl => by first | exact h | omega | (dsimp only at h ⊢; omega))
 replace OX := OX.md m20
 replace B1 := B1.md m20
 replace B4 := B4.md m20
 have zm20 := m20.size
 refine S_nl rfl rfl ?_
 refine th_n (hK14 _ _ ?_)
 clear hK14 K14
 refine S_if rfl (fun hb1 => ?_) (fun hb1 => ?_)
 ·
  first | with_reducible (replace hb1 := nb_nt hb1) | with_reducible (replace hb1 := nb_tt hb1) | with_reducible (replace hb1 := nb_bt hb1) | skip
  have h41 := sL.le
  have h4 := sL.four
  refine wp_seq_k fun K15 hK15 => ?_
  refine Sb 142 rfl ?_
  refine Smv rfl ?_
  refine S_call rfl en50 (spec_l20Rd_pick_c _ _ _ _ RD (by omega) (by omega)) ?_
  rintro v21 w21 ⟨k21, rfl, hk21, RD21, m21⟩
  obtain ⟨k5, rfl⟩ : ∃ x, x = k21 := ⟨_, rfl⟩
  have hk5 := hk21 (by decide)
  replace RD := RD21
  clear RD21
  replace G := Mod.trans' G m21 (fun _ h _ => h) (fun i h hl => by first | exact h | omega | (dsimp only at h ⊢; omega))
  replace OX := OX.md m21
  replace B1 := B1.md m21
  replace B4 := B4.md m21
  have zm21 := m21.size
  refine S_nl rfl rfl ?_
  refine th_n (hK15 _ _ ?_)
  clear hK15 K15
  refine wp_block ?_
  refine wp_seq_k fun K16 hK16 => ?_
  refine Sb 142 rfl ?_
  refine S_val (Y_eql rfl rfl) ?_
  refine Sas rfl ?_
  refine S_nl rfl rfl ?_
  refine th_n (hK16 _ _ ?_)
  clear hK16 K16
  refine S_if rfl (fun hb2 => ?_) (fun hb2 => ?_)
  ·
   replace hb2 := nb_tt hb2
   obtain ⟨A15, hs15, hR15⟩ := R1.rest (p := 0) (n := hL.roots.length) (j := 1) (cap := dL) (show R1 _ _ BL (ints (hL.roots.drop 0)) from OX.r1) (by omega) (by omega) OX.rd
   have hCF := OX.rc
   have hRF := hR15
   refine Sb 142 rfl ?_
   refine S_val (Y_field U26 rfl fz26_1 (by decide) rfl) ?_
   refine S_val (Y_load U24 rfl rfl (B4.at (by rfl))) ?_
   refine S_val (Yl.eq hs15 (Y_sliceL U24 sz3 rfl (j := 1) rfl (by omega))) ?_
   refine S_val (Y_field U26 rfl fz26_1 (by decide) rfl) ?_
   refine S_stM (pre := [_]) (old := [_]) (post := []) (vs := [_]) sz24 rfl rfl rfl (by first | rfl | assumption) B4 rfl rfl ?_
   intro w22 m22 X22
   replace B4 := Blk.eq (ys := [_, _]) X22 rfl
   clear X22
   replace G := Mod.trans' G m22 (fun _ h _ => h) (fun i h hl => by first | exact h | omega | (dsimp only at h ⊢; omega))
   replace OX := OX.md m22
   replace RD := RD.md m22
   replace hCF := hCF.md m22
   replace hRF := hRF.md m22
   replace B1 := B1.md m22
   have zm22 := m22.size
   refine S_nl rfl rfl ?_
   refine ib_n ?_
   refine th_n (hK13 _ _ ?_)
   clear hK13 K13
   refine wp_seq_k fun K17 hK17 => ?_
   refine Sb 142 rfl ?_
   refine S_val (Y_loadS U26 rfl sz26 rfl (B4.row (by rfl))) ?_
   refine S_stM (pre := []) (old := [_, _]) (post := []) (vs := [_, _]) sz26 rfl rfl rfl (by first | rfl | assumption) B1 rfl rfl ?_
   intro w23 m23 X23
   replace B1 := Blk.eq (ys := [_, _]) X23 rfl
   clear X23
   replace G := Mod.trans' G m23 (fun _ h _ => h) (fun i h hl => by first | exact h | omega | (dsimp only at h ⊢; omega))
   replace OX := OX.md m23
   replace RD := RD.md m23
   replace hCF := hCF.md m23
   replace hRF := hRF.md m23
   replace B4 := B4.md m23
   have zm23 := m23.size
   refine S_nl rfl rfl ?_
   refine th_n (hK17 _ _ ?_)
   clear hK17 K17
   refine wp_ret ?_
   refine ret_rc (cs := [_, _]) U26 rfl sz26 rfl rfl (B1.row (by rfl)) ?_
   first | exact ⟨_, _, _, _, _, _, _, _, rfl, by simp, by simp, sL.size, by omega, hCF.weak (fun i hi => by first | omega | (dsimp only at hi ⊢; omega)), hRF.weak (fun i hi => by first | omega | (dsimp only at hi ⊢; omega)), RD, G⟩ | exact ⟨_, _, _, _, _, _, _, _, rfl, by simp, by simp, sL.root _ _, by omega, hCF.weak (fun i hi => by first | omega | (dsimp only at hi ⊢; omega)), hRF.weak (fun i hi => by first | omega | (dsimp only at hi ⊢; omega)), RD, G⟩ | exact ⟨_, _, _, _, _, _, _, _, rfl, by simp, by simp, sL.more (by simp), by omega, hCF.weak (fun i hi => by first | omega | (dsimp only at hi ⊢; omega)), hRF.weak (fun i hi => by first | omega | (dsimp only at hi ⊢; omega)), RD, G⟩ | exact ⟨_, _, _, _, _, _, _, _, rfl, by simp, by simp, sL.rest, by omega, hCF.weak (fun i hi => by first | omega | (dsimp only at hi ⊢; omega)), hRF.weak (fun i hi => by first | omega | (dsimp only at hi ⊢; omega)), RD, G⟩
  replace hb2 := nb_tf hb2
  refine wp_seq_k fun K18 hK18 => ?_
  refine Sb 142 rfl ?_
  refine S_val (Y_eql rfl rfl) ?_
  refine Sas rfl ?_
  refine S_nl rfl rfl ?_
  refine th_n (hK18 _ _ ?_)
  clear hK18 K18
  refine S_if rfl (fun hb3 => ?_) (fun hb3 => ?_)
  ·
   replace hb3 := nb_tt hb3
   obtain ⟨bS, postS, rfl, hpS, _⟩ := OX.roots (ints_ne.2 (fun e => by rw [e] at h4; simp at h4))
   try dsimp only at hpS
   refine D_start 14 142 (fun w => Mod (fun i => i = bR ∨ i = bS) w) follows rfl rfl ?_
   intro w24 g24
   replace OX := OX.grow g24
   replace RD := RD.grow g24
   replace G := G.grow g24
   replace B1 := B1.grow g24
   replace B4 := B4.grow g24
   have zg24 := g24.size
   have GS24 := Mod.refl (fun i => i = bR ∨ i = bS) w24
   refine Dq (i := 0) rfl GS24 (fun _ _ => Y_field U26 rfl fz26_1 (by decide) rfl) ?_
   refine Dq (i := 1) rfl GS24 (fun _ hs => Y_load U24 rfl rfl (by first | exact hs.cel (B4.at (by rfl)))) ?_
   refine Dq (i := 2) rfl GS24 (fun _ _ => Y_move rfl) ?_
   refine Dq (i := 4) rfl GS24 (fun _ _ => Y_field U26 rfl fz26_0 (by decide) rfl) ?_
   refine Dq (i := 5) rfl GS24 (fun _ hs => Y_load U23 rfl rfl (by first | exact hs.cel (B4.at (by rfl)))) ?_
   refine Dq (i := 6) rfl GS24 (fun _ _ => Y_len U23 rfl) ?_
   refine Dq (i := 8) rfl GS24 (fun _ _ => Y_move rfl) ?_
   refine D_2 (i := 3) (j := 7) (by kernel_rfl) ?_ ?_
   ·
    refine E_call rfl rfl en50 (spec_l20Rd_pick_c _ _ _ _ RD (by omega) (by omega)) ?_
    rintro v25 w25 ⟨k25, rfl, hk25, RD25, m25⟩
    obtain ⟨kX, rfl⟩ : ∃ x, x = k25 := ⟨_, rfl⟩
    have hkX := hk25 (by decide)
    replace RD := RD25
    clear RD25
    replace G := Mod.trans' G m25 (fun _ h _ => h) (fun i h hl => by first | exact h | omega | (dsimp only at h ⊢; omega))
    replace GS24 := GS24.trn m25
    replace OX := OX.md m25
    replace B1 := B1.md m25
    replace B4 := B4.md m25
    have zm25 := m25.size
    refine ⟨GS24, ?_⟩
    refine D_2 (i := 7) (j := 9) (by kernel_rfl) ?_ ?_
    ·
     refine E_bsN (cs := [_, _]) (i := 7) rfl U24 zr3 sz3 rfl rfl ?_
     intro b26 w26 fb26 g26 B26
     refine ⟨GS24.grow g26, ?_⟩
     have lb26 := B26.lt
     replace OX := OX.grow g26
     replace RD := RD.grow g26
     replace G := G.grow g26
     replace GS24 := GS24.grow g26
     replace B1 := B1.grow g26
     replace B4 := B4.grow g26
     have zg26 := g26.size
     refine D_1 (i := 9) (by kernel_rfl) ?_
     refine E_call rfl rfl en50 (spec_l20Rd_pick_c _ _ _ _ RD (by omega) (by omega)) ?_
     rintro v27 w27 ⟨k27, rfl, hk27, RD27, m27⟩
     obtain ⟨kY, rfl⟩ : ∃ x, x = k27 := ⟨_, rfl⟩
     have hkY := hk27 (by decide)
     replace RD := RD27
     clear RD27
     replace G := Mod.trans' G m27 (fun _ h _ => h) (fun i h hl => by first | exact h | omega | (dsimp only at h ⊢; omega))
     replace GS24 := GS24.trn m27
     replace OX := OX.md m27
     replace B1 := B1.md m27
     replace B4 := B4.md m27
     replace B26 := B26.md m27
     have zm27 := m27.size
     refine ⟨GS24, ?_⟩
     refine Dq (i := 10) rfl GS24 (fun _ _ => Y_index U24 sz3 rfl rfl (by first | assumption | omega)) ?_
     refine D_1 (i := 11) (by kernel_rfl) ?_
     obtain ⟨xv, hxv⟩ := Blk.pickI (l := [-2, (hL.cells.length : Int)]) B26 (k := kY) (by show kY < 2; omega)
     refine E_val (i := 11) rfl (Y_load U3 rfl rfl hxv) GS24 ?_
     refine Dq (i := 12) rfl GS24 (fun _ _ => Y_index U24 sz3 rfl rfl (by first | assumption | omega)) ?_
     refine D_1 (i := 13) (by kernel_rfl) ?_
     refine E_of (i := 13) rfl (Ys_root sz3 OX hne (k := kX) (by omega) rfl rfl) ?_
     rintro w29 ⟨m29, hp29, OY⟩
     try dsimp only at hp29
     replace G := Mod.trans' G m29 (fun _ h _ => h) (fun i h hl => by first | exact h | omega | (dsimp only at h ⊢; omega))
     replace GS24 := GS24.trn m29
     replace RD := RD.md m29
     replace B1 := B1.md m29
     replace B4 := B4.md m29
     replace B26 := B26.md m29
     have zm29 := m29.size
     have hCF := OY.rc
     have hRF := OY.r1
     refine ⟨GS24, ?_⟩
     refine D_en (by kernel_rfl) rfl rfl ?_
     refine ib_n ?_
     refine th_n (hK13 _ _ ?_)
     clear hK13 K13
     refine wp_seq_k fun K19 hK19 => ?_
     refine Sb 142 rfl ?_
     refine S_val (Y_loadS U26 rfl sz26 rfl (B4.row (by rfl))) ?_
     refine S_stM (pre := []) (old := [_, _]) (post := []) (vs := [_, _]) sz26 rfl rfl rfl (by first | rfl | assumption) B1 rfl rfl ?_
     intro w30 m30 X30
     replace B1 := Blk.eq (ys := [_, _]) X30 rfl
     clear X30
     replace G := Mod.trans' G m30 (fun _ h _ => h) (fun i h hl => by first | exact h | omega | (dsimp only at h ⊢; omega))
     replace RD := RD.md m30
     replace OY := OY.md m30
     replace hCF := hCF.md m30
     replace hRF := hRF.md m30
     replace B4 := B4.md m30
     replace B26 := B26.md m30
     have zm30 := m30.size
     refine S_nl rfl rfl ?_
     refine th_n (hK19 _ _ ?_)
     clear hK19 K19
     refine wp_ret ?_
     refine ret_rc (cs := [_, _]) U26 rfl sz26 rfl rfl (B1.row (by rfl)) ?_
     first | exact ⟨_, _, _, _, _, _, _, _, rfl, by simp, by simp, sL.size, by omega, hCF.weak (fun i hi => by first | omega | (dsimp only at hi ⊢; omega)), hRF.weak (fun i hi => by first | omega | (dsimp only at hi ⊢; omega)), RD, G⟩ | exact ⟨_, _, _, _, _, _, _, _, rfl, by simp, by simp, sL.root _ _, by omega, hCF.weak (fun i hi => by first | omega | (dsimp only at hi ⊢; omega)), hRF.weak (fun i hi => by first | omega | (dsimp only at hi ⊢; omega)), RD, G⟩ | exact ⟨_, _, _, _, _, _, _, _, rfl, by simp, by simp, sL.more (by simp), by omega, hCF.weak (fun i hi => by first | omega | (dsimp only at hi ⊢; omega)), hRF.weak (fun i hi => by first | omega | (dsimp only at hi ⊢; omega)), RD, G⟩ | exact ⟨_, _, _, _, _, _, _, _, rfl, by simp, by simp, sL.rest, by omega, hCF.weak (fun i hi => by first | omega | (dsimp only at hi ⊢; omega)), hRF.weak (fun i hi => by first | omega | (dsimp only at hi ⊢; omega)), RD, G⟩
    refine E_call rfl rfl en50 (spec_l20Rd_pick_c _ _ _ _ RD (by omega) (by omega)) ?_
    rintro v31 w31 ⟨k31, rfl, hk31, RD31, m31⟩
    obtain ⟨kY, rfl⟩ : ∃ x, x = k31 := ⟨_, rfl⟩
    have hkY := hk31 (by decide)
    replace RD := RD31
    clear RD31
    replace G := Mod.trans' G m31 (fun _ h _ => h) (fun i h hl => by first | exact h | omega | (dsimp only at h ⊢; omega))
    replace GS24 := GS24.trn m31
    replace OX := OX.md m31
    replace B1 := B1.md m31
    replace B4 := B4.md m31
    have zm31 := m31.size
    refine ⟨GS24, ?_⟩
    refine D_1 (i := 7) (by kernel_rfl) ?_
    refine E_bsN (cs := [_, _]) (i := 7) rfl U24 zr3 sz3 rfl rfl ?_
    intro b32 w32 fb32 g32 B32
    refine ⟨GS24.grow g32, ?_⟩
    have lb32 := B32.lt
    replace OX := OX.grow g32
    replace RD := RD.grow g32
    replace G := G.grow g32
    replace GS24 := GS24.grow g32
    replace B1 := B1.grow g32
    replace B4 := B4.grow g32
    have zg32 := g32.size
    refine Dq (i := 10) rfl GS24 (fun _ _ => Y_index U24 sz3 rfl rfl (by first | assumption | omega)) ?_
    refine D_1 (i := 11) (by kernel_rfl) ?_
    obtain ⟨xv, hxv⟩ := Blk.pickI (l := [-2, (hL.cells.length : Int)]) B32 (k := kY) (by show kY < 2; omega)
    refine E_val (i := 11) rfl (Y_load U3 rfl rfl hxv) GS24 ?_
    refine Dq (i := 12) rfl GS24 (fun _ _ => Y_index U24 sz3 rfl rfl (by first | assumption | omega)) ?_
    refine D_1 (i := 13) (by kernel_rfl) ?_
    refine E_of (i := 13) rfl (Ys_root sz3 OX hne (k := kX) (by omega) rfl rfl) ?_
    rintro w34 ⟨m34, hp34, OY⟩
    try dsimp only at hp34
    replace G := Mod.trans' G m34 (fun _ h _ => h) (fun i h hl => by first | exact h | omega | (dsimp only at h ⊢; omega))
    replace GS24 := GS24.trn m34
    replace RD := RD.md m34
    replace B1 := B1.md m34
    replace B4 := B4.md m34
    replace B32 := B32.md m34
    have zm34 := m34.size
    have hCF := OY.rc
    have hRF := OY.r1
    refine ⟨GS24, ?_⟩
    refine D_en (by kernel_rfl) rfl rfl ?_
    refine ib_n ?_
    refine th_n (hK13 _ _ ?_)
    clear hK13 K13
    refine wp_seq_k fun K20 hK20 => ?_
    refine Sb 142 rfl ?_
    refine S_val (Y_loadS U26 rfl sz26 rfl (B4.row (by rfl))) ?_
    refine S_stM (pre := []) (old := [_, _]) (post := []) (vs := [_, _]) sz26 rfl rfl rfl (by first | rfl | assumption) B1 rfl rfl ?_
    intro w35 m35 X35
    replace B1 := Blk.eq (ys := [_, _]) X35 rfl
    clear X35
    replace G := Mod.trans' G m35 (fun _ h _ => h) (fun i h hl => by first | exact h | omega | (dsimp only at h ⊢; omega))
    replace RD := RD.md m35
    replace OY := OY.md m35
    replace hCF := hCF.md m35
    replace hRF := hRF.md m35
    replace B4 := B4.md m35
    replace B32 := B32.md m35
    have zm35 := m35.size
    refine S_nl rfl rfl ?_
    refine th_n (hK20 _ _ ?_)
    clear hK20 K20
    refine wp_ret ?_
    refine ret_rc (cs := [_, _]) U26 rfl sz26 rfl rfl (B1.row (by rfl)) ?_
    first | exact ⟨_, _, _, _, _, _, _, _, rfl, by simp, by simp, sL.size, by omega, hCF.weak (fun i hi => by first | omega | (dsimp only at hi ⊢; omega)), hRF.weak (fun i hi => by first | omega | (dsimp only at hi ⊢; omega)), RD, G⟩ | exact ⟨_, _, _, _, _, _, _, _, rfl, by simp, by simp, sL.root _ _, by omega, hCF.weak (fun i hi => by first | omega | (dsimp only at hi ⊢; omega)), hRF.weak (fun i hi => by first | omega | (dsimp only at hi ⊢; omega)), RD, G⟩ | exact ⟨_, _, _, _, _, _, _, _, rfl, by simp, by simp, sL.more (by simp), by omega, hCF.weak (fun i hi => by first | omega | (dsimp only at hi ⊢; omega)), hRF.weak (fun i hi => by first | omega | (dsimp only at hi ⊢; omega)), RD, G⟩ | exact ⟨_, _, _, _, _, _, _, _, rfl, by simp, by simp, sL.rest, by omega, hCF.weak (fun i hi => by first | omega | (dsimp only at hi ⊢; omega)), hRF.weak (fun i hi => by first | omega | (dsimp only at hi ⊢; omega)), RD, G⟩
   refine E_bsN (cs := [_, _]) (i := 7) rfl U24 zr3 sz3 rfl rfl ?_
   intro b36 w36 fb36 g36 B36
   refine ⟨GS24.grow g36, ?_⟩
   have lb36 := B36.lt
   replace OX := OX.grow g36
   replace RD := RD.grow g36
   replace G := G.grow g36
   replace GS24 := GS24.grow g36
   replace B1 := B1.grow g36
   replace B4 := B4.grow g36
   have zg36 := g36.size
   refine D_1 (i := 3) (by kernel_rfl) ?_
   refine E_call rfl rfl en50 (spec_l20Rd_pick_c _ _ _ _ RD (by omega) (by omega)) ?_
   rintro v37 w37 ⟨k37, rfl, hk37, RD37, m37⟩
   obtain ⟨kX, rfl⟩ : ∃ x, x = k37 := ⟨_, rfl⟩
   have hkX := hk37 (by decide)
   replace RD := RD37
   clear RD37
   replace G := Mod.trans' G m37 (fun _ h _ => h) (fun i h hl => by first | exact h | omega | (dsimp only at h ⊢; omega))
   replace GS24 := GS24.trn m37
   replace OX := OX.md m37
   replace B1 := B1.md m37
   replace B4 := B4.md m37
   replace B36 := B36.md m37
   have zm37 := m37.size
   refine ⟨GS24, ?_⟩
   refine D_1 (i := 9) (by kernel_rfl) ?_
   refine E_call rfl rfl en50 (spec_l20Rd_pick_c _ _ _ _ RD (by omega) (by omega)) ?_
   rintro v38 w38 ⟨k38, rfl, hk38, RD38, m38⟩
   obtain ⟨kY, rfl⟩ : ∃ x, x = k38 := ⟨_, rfl⟩
   have hkY := hk38 (by decide)
   replace RD := RD38
   clear RD38
   replace G := Mod.trans' G m38 (fun _ h _ => h) (fun i h hl => by first | exact h | omega | (dsimp only at h ⊢; omega))
   replace GS24 := GS24.trn m38
   replace OX := OX.md m38
   replace B1 := B1.md m38
   replace B4 := B4.md m38
   replace B36 := B36.md m38
   have zm38 := m38.size
   refine ⟨GS24, ?_⟩
   refine Dq (i := 10) rfl GS24 (fun _ _ => Y_index U24 sz3 rfl rfl (by first | assumption | omega)) ?_
   refine D_1 (i := 11) (by kernel_rfl) ?_
   obtain ⟨xv, hxv⟩ := Blk.pickI (l := [-2, (hL.cells.length : Int)]) B36 (k := kY) (by show kY < 2; omega)
   refine E_val (i := 11) rfl (Y_load U3 rfl rfl hxv) GS24 ?_
   refine Dq (i := 12) rfl GS24 (fun _ _ => Y_index U24 sz3 rfl rfl (by first | assumption | omega)) ?_
   refine D_1 (i := 13) (by kernel_rfl) ?_
   refine E_of (i := 13) rfl (Ys_root sz3 OX hne (k := kX) (by omega) rfl rfl) ?_
   rintro w40 ⟨m40, hp40, OY⟩
   try dsimp only at hp40
   replace G := Mod.trans' G m40 (fun _ h _ => h) (fun i h hl => by first | exact h | omega | (dsimp only at h ⊢; omega))
   replace GS24 := GS24.trn m40
   replace RD := RD.md m40
   replace B1 := B1.md m40
   replace B4 := B4.md m40
   replace B36 := B36.md m40
   have zm40 := m40.size
   have hCF := OY.rc
   have hRF := OY.r1
   refine ⟨GS24, ?_⟩
   refine D_en (by kernel_rfl) rfl rfl ?_
   refine ib_n ?_
   refine th_n (hK13 _ _ ?_)
   clear hK13 K13
   refine wp_seq_k fun K21 hK21 => ?_
   refine Sb 142 rfl ?_
   refine S_val (Y_loadS U26 rfl sz26 rfl (B4.row (by rfl))) ?_
   refine S_stM (pre := []) (old := [_, _]) (post := []) (vs := [_, _]) sz26 rfl rfl rfl (by first | rfl | assumption) B1 rfl rfl ?_
   intro w41 m41 X41
   replace B1 := Blk.eq (ys := [_, _]) X41 rfl
   clear X41
   replace G := Mod.trans' G m41 (fun _ h _ => h) (fun i h hl => by first | exact h | omega | (dsimp only at h ⊢; omega))
   replace RD := RD.md m41
   replace OY := OY.md m41
   replace hCF := hCF.md m41
   replace hRF := hRF.md m41
   replace B4 := B4.md m41
   replace B36 := B36.md m41
   have zm41 := m41.size
   refine S_nl rfl rfl ?_
   refine th_n (hK21 _ _ ?_)
   clear hK21 K21
   refine wp_ret ?_
   refine ret_rc (cs := [_, _]) U26 rfl sz26 rfl rfl (B1.row (by rfl)) ?_
   first | exact ⟨_, _, _, _, _, _, _, _, rfl, by simp, by simp, sL.size, by omega, hCF.weak (fun i hi => by first | omega | (dsimp only at hi ⊢; omega)), hRF.weak (fun i hi => by first | omega | (dsimp only at hi ⊢; omega)), RD, G⟩ | exact ⟨_, _, _, _, _, _, _, _, rfl, by simp, by simp, sL.root _ _, by omega, hCF.weak (fun i hi => by first | omega | (dsimp only at hi ⊢; omega)), hRF.weak (fun i hi => by first | omega | (dsimp only at hi ⊢; omega)), RD, G⟩ | exact ⟨_, _, _, _, _, _, _, _, rfl, by simp, by simp, sL.more (by simp), by omega, hCF.weak (fun i hi => by first | omega | (dsimp only at hi ⊢; omega)), hRF.weak (fun i hi => by first | omega | (dsimp only at hi ⊢; omega)), RD, G⟩ | exact ⟨_, _, _, _, _, _, _, _, rfl, by simp, by simp, sL.rest, by omega, hCF.weak (fun i hi => by first | omega | (dsimp only at hi ⊢; omega)), hRF.weak (fun i hi => by first | omega | (dsimp only at hi ⊢; omega)), RD, G⟩
  replace hb3 := nb_tf hb3
  refine wp_seq_k fun K22 hK22 => ?_
  refine Sb 142 rfl ?_
  refine S_val (Y_eql rfl rfl) ?_
  refine Sas rfl ?_
  refine S_nl rfl rfl ?_
  refine th_n (hK22 _ _ ?_)
  clear hK22 K22
  refine S_if rfl (fun hb4 => ?_) (fun hb4 => ?_)
  ·
   replace hb4 := nb_tt hb4
   refine Sb 142 rfl ?_
   refine S_val (Y_field U26 rfl fz26_0 (by decide) rfl) ?_
   refine S_val (Y_load U23 rfl rfl (B4.at (by rfl))) ?_
   refine S_val (Y_build (cs := [_, _, _]) zr50 pc50 rfl rfl) ?_
   refine S_bs1 (cs := [_, _, _]) U23 zr50 sz50 rfl rfl rfl ?_
   intro b42 w42 fb42 g42 B42
   have lb42 := B42.lt
   replace OX := OX.grow g42
   replace RD := RD.grow g42
   replace G := G.grow g42
   replace B1 := B1.grow g42
   replace B4 := B4.grow g42
   have zg42 := g42.size
   refine S_app2 U23 zr50 sz50 by50 rfl rfl OX.row rfl (Src.blk B42) (by simp [Value.oneCell']) (by omega) (Pr' := (fun i => w.heap.size ≤ i ∧ i ≠ b1 ∧ i ≠ b4)) (fun i hi => by first | omega | (dsimp only at hi ⊢; omega)) (by first | omega | (dsimp only; omega)) ?_
   intro A43 cap43 w43 X43 m43 n43
   have OY := OX.add hne (z := ⟨false, 5, []⟩) (OI.nil No _ _ none) (fun i hi => by first | exact hi.elim | omega | (dsimp only at hi ⊢; omega)) n43 X43 (fun i hi => by first | omega | (dsimp only at hi ⊢; omega)) (fun i hi => by first | exact hi.elim | omega | (dsimp only at hi ⊢; omega))
   replace G := Mod.trans' G m43 (fun _ h _ => h) (fun i h hl => by first | exact h | omega | (dsimp only at h ⊢; omega))
   replace RD := RD.md m43
   replace B1 := B1.md m43
   replace B4 := B4.md m43
   have zm43 := m43.size
   have hCF := OY.rc
   have hRF := OY.r1
   refine S_val (Y_field U26 rfl fz26_0 (by decide) rfl) ?_
   refine S_stM (pre := []) (old := [_]) (post := [_]) (vs := [_]) sz23 rfl rfl rfl (by first | rfl | assumption) B4 rfl rfl ?_
   intro w44 m44 X44
   replace B4 := Blk.eq (ys := [_, _]) X44 rfl
   clear X44
   replace G := Mod.trans' G m44 (fun _ h _ => h) (fun i h hl => by first | exact h | omega | (dsimp only at h ⊢; omega))
   replace RD := RD.md m44
   replace OY := OY.md m44
   replace hCF := hCF.md m44
   replace hRF := hRF.md m44
   replace B1 := B1.md m44
   have zm44 := m44.size
   refine S_nl rfl rfl ?_
   refine ib_n ?_
   refine th_n (hK13 _ _ ?_)
   clear hK13 K13
   refine wp_seq_k fun K23 hK23 => ?_
   refine Sb 142 rfl ?_
   refine S_val (Y_loadS U26 rfl sz26 rfl (B4.row (by rfl))) ?_
   refine S_stM (pre := []) (old := [_, _]) (post := []) (vs := [_, _]) sz26 rfl rfl rfl (by first | rfl | assumption) B1 rfl rfl ?_
   intro w45 m45 X45
   replace B1 := Blk.eq (ys := [_, _]) X45 rfl
   clear X45
   replace G := Mod.trans' G m45 (fun _ h _ => h) (fun i h hl => by first | exact h | omega | (dsimp only at h ⊢; omega))
   replace RD := RD.md m45
   replace OY := OY.md m45
   replace hCF := hCF.md m45
   replace hRF := hRF.md m45
   replace B4 := B4.md m45
   have zm45 := m45.size
   refine S_nl rfl rfl ?_
   refine th_n (hK23 _ _ ?_)
   clear hK23 K23
   refine wp_ret ?_
   refine ret_rc (cs := [_, _]) U26 rfl sz26 rfl rfl (B1.row (by rfl)) ?_
   first | exact ⟨_, _, _, _, _, _, _, _, rfl, by simp, by simp, sL.size, by omega, hCF.weak (fun i hi => by first | omega | (dsimp only at hi ⊢; omega)), hRF.weak (fun i hi => by first | omega | (dsimp only at hi ⊢; omega)), RD, G⟩ | exact ⟨_, _, _, _, _, _, _, _, rfl, by simp, by simp, sL.root _ _, by omega, hCF.weak (fun i hi => by first | omega | (dsimp only at hi ⊢; omega)), hRF.weak (fun i hi => by first | omega | (dsimp only at hi ⊢; omega)), RD, G⟩ | exact ⟨_, _, _, _, _, _, _, _, rfl, by simp, by simp, sL.more (by simp), by omega, hCF.weak (fun i hi => by first | omega | (dsimp only at hi ⊢; omega)), hRF.weak (fun i hi => by first | omega | (dsimp only at hi ⊢; omega)), RD, G⟩ | exact ⟨_, _, _, _, _, _, _, _, rfl, by simp, by simp, sL.rest, by omega, hCF.weak (fun i hi => by first | omega | (dsimp only at hi ⊢; omega)), hRF.weak (fun i hi => by first | omega | (dsimp only at hi ⊢; omega)), RD, G⟩
  replace hb4 := nb_tf hb4
  refine wp_seq_k fun K24 hK24 => ?_
  refine Sb 142 rfl ?_
  refine S_val (Y_eql rfl rfl) ?_
  refine Sas rfl ?_
  refine S_nl rfl rfl ?_
  refine th_n (hK24 _ _ ?_)
  clear hK24 K24
  refine S_if rfl (fun hb5 => ?_) (fun hb5 => ?_)
  ·
   replace hb5 := nb_tt hb5
   refine Sb 142 rfl ?_
   refine S_val (Y_field U26 rfl fz26_0 (by decide) rfl) ?_
   refine S_val (Y_load U23 rfl rfl (B4.at (by rfl))) ?_
   refine S_val (Y_field U26 rfl fz26_0 (by decide) rfl) ?_
   refine S_val (Y_load U23 rfl rfl (B4.at (by rfl))) ?_
   refine S_val (Y_len U23 rfl) ?_
   refine S_val (Y_inc rfl rfl (by omega)) ?_
   refine S_bs1 (cs := [_]) U24 zr3 sz3 rfl rfl rfl ?_
   intro b46 w46 fb46 g46 B46
   have lb46 := B46.lt
   replace OX := OX.grow g46
   replace RD := RD.grow g46
   replace G := G.grow g46
   replace B1 := B1.grow g46
   replace B4 := B4.grow g46
   have zg46 := g46.size
   refine S_val (Y_build (cs := [_, _, _]) zr50 pc50 rfl rfl) ?_
   refine S_bs1 (cs := [_, _, _]) U23 zr50 sz50 rfl rfl rfl ?_
   intro b47 w47 fb47 g47 B47
   have lb47 := B47.lt
   replace OX := OX.grow g47
   replace RD := RD.grow g47
   replace G := G.grow g47
   replace B1 := B1.grow g47
   replace B4 := B4.grow g47
   replace B46 := B46.grow g47
   have zg47 := g47.size
   refine S_app2 U23 zr50 sz50 by50 rfl rfl OX.row rfl (Src.blk B47) (by simp [Value.oneCell']) (by omega) (Pr' := (fun i => w.heap.size ≤ i ∧ i ≠ b1 ∧ i ≠ b4)) (fun i hi => by first | omega | (dsimp only at hi ⊢; omega)) (by first | omega | (dsimp only; omega)) ?_
   intro A48 cap48 w48 X48 m48 n48
   have OY := OX.add hne (z := ⟨true, 0, [((hL.cells.length + 1 : Nat) : Int)]⟩) (OI.of_blk' (Pr := fun i => i = b46) B46 rfl) (fun i hi => by first | exact hi.elim | omega | (dsimp only at hi ⊢; omega)) n48 X48 (fun i hi => by first | omega | (dsimp only at hi ⊢; omega)) (fun i hi => by first | exact hi.elim | omega | (dsimp only at hi ⊢; omega))
   replace G := Mod.trans' G m48 (fun _ h _ => h) (fun i h hl => by first | exact h | omega | (dsimp only at h ⊢; omega))
   replace RD := RD.md m48
   replace B1 := B1.md m48
   replace B4 := B4.md m48
   replace B46 := B46.md m48
   have zm48 := m48.size
   have hCF := OY.rc
   have hRF := OY.r1
   refine S_val (Y_field U26 rfl fz26_0 (by decide) rfl) ?_
   refine S_stM (pre := []) (old := [_]) (post := [_]) (vs := [_]) sz23 rfl rfl rfl (by first | rfl | assumption) B4 rfl rfl ?_
   intro w49 m49 X49
   replace B4 := Blk.eq (ys := [_, _]) X49 rfl
   clear X49
   replace G := Mod.trans' G m49 (fun _ h _ => h) (fun i h hl => by first | exact h | omega | (dsimp only at h ⊢; omega))
   replace RD := RD.md m49
   replace OY := OY.md m49
   replace hCF := hCF.md m49
   replace hRF := hRF.md m49
   replace B1 := B1.md m49
   replace B46 := B46.md m49
   have zm49 := m49.size
   refine S_nl rfl rfl ?_
   refine ib_n ?_
   refine th_n (hK13 _ _ ?_)
   clear hK13 K13
   refine wp_seq_k fun K25 hK25 => ?_
   refine Sb 142 rfl ?_
   refine S_val (Y_loadS U26 rfl sz26 rfl (B4.row (by rfl))) ?_
   refine S_stM (pre := []) (old := [_, _]) (post := []) (vs := [_, _]) sz26 rfl rfl rfl (by first | rfl | assumption) B1 rfl rfl ?_
   intro w50 m50 X50
   replace B1 := Blk.eq (ys := [_, _]) X50 rfl
   clear X50
   replace G := Mod.trans' G m50 (fun _ h _ => h) (fun i h hl => by first | exact h | omega | (dsimp only at h ⊢; omega))
   replace RD := RD.md m50
   replace OY := OY.md m50
   replace hCF := hCF.md m50
   replace hRF := hRF.md m50
   replace B4 := B4.md m50
   replace B46 := B46.md m50
   have zm50 := m50.size
   refine S_nl rfl rfl ?_
   refine th_n (hK25 _ _ ?_)
   clear hK25 K25
   refine wp_ret ?_
   refine ret_rc (cs := [_, _]) U26 rfl sz26 rfl rfl (B1.row (by rfl)) ?_
   first | exact ⟨_, _, _, _, _, _, _, _, rfl, by simp, by simp, sL.size, by omega, hCF.weak (fun i hi => by first | omega | (dsimp only at hi ⊢; omega)), hRF.weak (fun i hi => by first | omega | (dsimp only at hi ⊢; omega)), RD, G⟩ | exact ⟨_, _, _, _, _, _, _, _, rfl, by simp, by simp, sL.root _ _, by omega, hCF.weak (fun i hi => by first | omega | (dsimp only at hi ⊢; omega)), hRF.weak (fun i hi => by first | omega | (dsimp only at hi ⊢; omega)), RD, G⟩ | exact ⟨_, _, _, _, _, _, _, _, rfl, by simp, by simp, sL.more (by simp), by omega, hCF.weak (fun i hi => by first | omega | (dsimp only at hi ⊢; omega)), hRF.weak (fun i hi => by first | omega | (dsimp only at hi ⊢; omega)), RD, G⟩ | exact ⟨_, _, _, _, _, _, _, _, rfl, by simp, by simp, sL.rest, by omega, hCF.weak (fun i hi => by first | omega | (dsimp only at hi ⊢; omega)), hRF.weak (fun i hi => by first | omega | (dsimp only at hi ⊢; omega)), RD, G⟩
  replace hb5 := nb_tf hb5
  refine D_start 12 142 (fun w => Mod (fun i => i = bR ∨ (z0 ≤ i ∧ i ≠ b1)) w) follows rfl rfl ?_
  intro w51 g51
  replace OX := OX.grow g51
  replace RD := RD.grow g51
  replace G := G.grow g51
  replace B1 := B1.grow g51
  replace B4 := B4.grow g51
  have zg51 := g51.size
  have GS51 := Mod.refl (fun i => i = bR ∨ (z0 ≤ i ∧ i ≠ b1)) w51
  refine Dq (i := 0) rfl GS51 (fun _ _ => Y_field U26 rfl fz26_0 (by decide) rfl) ?_
  refine Dq (i := 3) rfl GS51 (fun _ _ => Y_move rfl) ?_
  refine D_3 (i := 1) (j := 2) (k := 4) (by kernel_rfl) ?_ ?_ ?_
  ·
   refine E_val (i := 1) rfl (Y_load U23 rfl rfl (B4.at (by rfl))) GS51 ?_
   refine D_2 (i := 2) (j := 4) (by kernel_rfl) ?_ ?_
   ·
    refine E_bsN (cs := [_, _]) (i := 2) rfl U24 zr3 sz3 rfl rfl ?_
    intro b53 w53 fb53 g53 B53
    refine ⟨GS51.grow g53, ?_⟩
    have lb53 := B53.lt
    replace OX := OX.grow g53
    replace RD := RD.grow g53
    replace G := G.grow g53
    replace GS51 := GS51.grow g53
    replace B1 := B1.grow g53
    replace B4 := B4.grow g53
    have zg53 := g53.size
    refine D_1 (i := 4) (by kernel_rfl) ?_
    refine E_call rfl rfl en50 (spec_l20Rd_pick_c _ _ _ _ RD (by omega) (by omega)) ?_
    rintro v54 w54 ⟨k54, rfl, hk54, RD54, m54⟩
    obtain ⟨kY, rfl⟩ : ∃ x, x = k54 := ⟨_, rfl⟩
    have hkY := hk54 (by decide)
    replace RD := RD54
    clear RD54
    replace G := Mod.trans' G m54 (fun _ h _ => h) (fun i h hl => by first | exact h | omega | (dsimp only at h ⊢; omega))
    replace GS51 := GS51.trn m54
    replace OX := OX.md m54
    replace B1 := B1.md m54
    replace B4 := B4.md m54
    replace B53 := B53.md m54
    have zm54 := m54.size
    refine ⟨GS51, ?_⟩
    refine Dq (i := 5) rfl GS51 (fun _ _ => Y_index U24 sz3 rfl rfl (by first | assumption | omega)) ?_
    refine D_1 (i := 6) (by kernel_rfl) ?_
    obtain ⟨xv, hxv⟩ := Blk.pickI (l := [-1, 100]) B53 (k := kY) (by show kY < 2; omega)
    refine E_val (i := 6) rfl (Y_load U3 rfl rfl hxv) GS51 ?_
    refine Dq (i := 7) rfl GS51 (fun _ _ => Y_build (cs := [_, _, _]) zr50 pc50 rfl rfl) ?_
    refine D_1 (i := 8) (by kernel_rfl) ?_
    refine E_bs1 (cs := [_, _, _]) (i := 8) rfl U23 zr50 sz50 rfl rfl rfl ?_
    intro b56 w56 fb56 g56 B56
    refine ⟨GS51.grow g56, ?_⟩
    have lb56 := B56.lt
    replace OX := OX.grow g56
    replace RD := RD.grow g56
    replace G := G.grow g56
    replace GS51 := GS51.grow g56
    replace B1 := B1.grow g56
    replace B4 := B4.grow g56
    replace B53 := B53.grow g56
    have zg56 := g56.size
    refine D_1 (i := 9) (by kernel_rfl) ?_
    refine E_app2 (i := 9) rfl U23 zr50 sz50 by50 rfl rfl OX.row rfl (Src.blk B56) (by simp [Value.oneCell']) (by omega) (Pr' := (fun i => w.heap.size ≤ i ∧ i ≠ b1 ∧ i ≠ b4)) (fun i hi => by first | omega | (dsimp only at hi ⊢; omega)) (by first | omega | (dsimp only; omega)) ?_
    intro A57 cap57 w57 X57 m57 n57
    have OY := OX.add hne (z := ⟨true, xv, []⟩) (OI.nil No _ _ none) (fun i hi => by first | exact hi.elim | omega | (dsimp only at hi ⊢; omega)) n57 X57 (fun i hi => by first | omega | (dsimp only at hi ⊢; omega)) (fun i hi => by first | exact hi.elim | omega | (dsimp only at hi ⊢; omega))
    replace G := Mod.trans' G m57 (fun _ h _ => h) (fun i h hl => by first | exact h | omega | (dsimp only at h ⊢; omega))
    replace GS51 := GS51.trn m57
    replace RD := RD.md m57
    replace B1 := B1.md m57
    replace B4 := B4.md m57
    replace B53 := B53.md m57
    have zm57 := m57.size
    have hCF := OY.rc
    have hRF := OY.r1
    refine ⟨GS51, ?_⟩
    refine Dq (i := 10) rfl GS51 (fun _ _ => Y_field U26 rfl fz26_0 (by decide) rfl) ?_
    refine D_1 (i := 11) (by kernel_rfl) ?_
    refine E_stM (pre := []) (old := [_]) (post := [_]) (vs := [_]) (i := 11) rfl sz23 rfl rfl rfl (by first | rfl | assumption) B4 rfl rfl ?_
    intro w58 m58 X58
    replace B4 := Blk.eq (ys := [_, _]) X58 rfl
    clear X58
    replace G := Mod.trans' G m58 (fun _ h _ => h) (fun i h hl => by first | exact h | omega | (dsimp only at h ⊢; omega))
    replace GS51 := GS51.trn m58
    replace RD := RD.md m58
    replace OY := OY.md m58
    replace hCF := hCF.md m58
    replace hRF := hRF.md m58
    replace B1 := B1.md m58
    replace B53 := B53.md m58
    have zm58 := m58.size
    refine ⟨GS51, ?_⟩
    refine D_en (by kernel_rfl) rfl rfl ?_
    refine ib_n ?_
    refine th_n (hK13 _ _ ?_)
    clear hK13 K13
    refine wp_seq_k fun K26 hK26 => ?_
    refine Sb 142 rfl ?_
    refine S_val (Y_loadS U26 rfl sz26 rfl (B4.row (by rfl))) ?_
    refine S_stM (pre := []) (old := [_, _]) (post := []) (vs := [_, _]) sz26 rfl rfl rfl (by first | rfl | assumption) B1 rfl rfl ?_
    intro w59 m59 X59
    replace B1 := Blk.eq (ys := [_, _]) X59 rfl
    clear X59
    replace G := Mod.trans' G m59 (fun _ h _ => h) (fun i h hl => by first | exact h | omega | (dsimp only at h ⊢; omega))
    replace RD := RD.md m59
    replace OY := OY.md m59
    replace hCF := hCF.md m59
    replace hRF := hRF.md m59
    replace B4 := B4.md m59
    replace B53 := B53.md m59
    have zm59 := m59.size
    refine S_nl rfl rfl ?_
    refine th_n (hK26 _ _ ?_)
    clear hK26 K26
    refine wp_ret ?_
    refine ret_rc (cs := [_, _]) U26 rfl sz26 rfl rfl (B1.row (by rfl)) ?_
    first | exact ⟨_, _, _, _, _, _, _, _, rfl, by simp, by simp, sL.size, by omega, hCF.weak (fun i hi => by first | omega | (dsimp only at hi ⊢; omega)), hRF.weak (fun i hi => by first | omega | (dsimp only at hi ⊢; omega)), RD, G⟩ | exact ⟨_, _, _, _, _, _, _, _, rfl, by simp, by simp, sL.root _ _, by omega, hCF.weak (fun i hi => by first | omega | (dsimp only at hi ⊢; omega)), hRF.weak (fun i hi => by first | omega | (dsimp only at hi ⊢; omega)), RD, G⟩ | exact ⟨_, _, _, _, _, _, _, _, rfl, by simp, by simp, sL.more (by simp), by omega, hCF.weak (fun i hi => by first | omega | (dsimp only at hi ⊢; omega)), hRF.weak (fun i hi => by first | omega | (dsimp only at hi ⊢; omega)), RD, G⟩ | exact ⟨_, _, _, _, _, _, _, _, rfl, by simp, by simp, sL.rest, by omega, hCF.weak (fun i hi => by first | omega | (dsimp only at hi ⊢; omega)), hRF.weak (fun i hi => by first | omega | (dsimp only at hi ⊢; omega)), RD, G⟩
   refine E_call rfl rfl en50 (spec_l20Rd_pick_c _ _ _ _ RD (by omega) (by omega)) ?_
   rintro v60 w60 ⟨k60, rfl, hk60, RD60, m60⟩
   obtain ⟨kY, rfl⟩ : ∃ x, x = k60 := ⟨_, rfl⟩
   have hkY := hk60 (by decide)
   replace RD := RD60
   clear RD60
   replace G := Mod.trans' G m60 (fun _ h _ => h) (fun i h hl => by first | exact h | omega | (dsimp only at h ⊢; omega))
   replace GS51 := GS51.trn m60
   replace OX := OX.md m60
   replace B1 := B1.md m60
   replace B4 := B4.md m60
   have zm60 := m60.size
   refine ⟨GS51, ?_⟩
   refine D_1 (i := 2) (by kernel_rfl) ?_
   refine E_bsN (cs := [_, _]) (i := 2) rfl U24 zr3 sz3 rfl rfl ?_
   intro b61 w61 fb61 g61 B61
   refine ⟨GS51.grow g61, ?_⟩
   have lb61 := B61.lt
   replace OX := OX.grow g61
   replace RD := RD.grow g61
   replace G := G.grow g61
   replace GS51 := GS51.grow g61
   replace B1 := B1.grow g61
   replace B4 := B4.grow g61
   have zg61 := g61.size
   refine Dq (i := 5) rfl GS51 (fun _ _ => Y_index U24 sz3 rfl rfl (by first | assumption | omega)) ?_
   refine D_1 (i := 6) (by kernel_rfl) ?_
   obtain ⟨xv, hxv⟩ := Blk.pickI (l := [-1, 100]) B61 (k := kY) (by show kY < 2; omega)
   refine E_val (i := 6) rfl (Y_load U3 rfl rfl hxv) GS51 ?_
   refine Dq (i := 7) rfl GS51 (fun _ _ => Y_build (cs := [_, _, _]) zr50 pc50 rfl rfl) ?_
   refine D_1 (i := 8) (by kernel_rfl) ?_
   refine E_bs1 (cs := [_, _, _]) (i := 8) rfl U23 zr50 sz50 rfl rfl rfl ?_
   intro b63 w63 fb63 g63 B63
   refine ⟨GS51.grow g63, ?_⟩
   have lb63 := B63.lt
   replace OX := OX.grow g63
   replace RD := RD.grow g63
   replace G := G.grow g63
   replace GS51 := GS51.grow g63
   replace B1 := B1.grow g63
   replace B4 := B4.grow g63
   replace B61 := B61.grow g63
   have zg63 := g63.size
   refine D_1 (i := 9) (by kernel_rfl) ?_
   refine E_app2 (i := 9) rfl U23 zr50 sz50 by50 rfl rfl OX.row rfl (Src.blk B63) (by simp [Value.oneCell']) (by omega) (Pr' := (fun i => w.heap.size ≤ i ∧ i ≠ b1 ∧ i ≠ b4)) (fun i hi => by first | omega | (dsimp only at hi ⊢; omega)) (by first | omega | (dsimp only; omega)) ?_
   intro A64 cap64 w64 X64 m64 n64
   have OY := OX.add hne (z := ⟨true, xv, []⟩) (OI.nil No _ _ none) (fun i hi => by first | exact hi.elim | omega | (dsimp only at hi ⊢; omega)) n64 X64 (fun i hi => by first | omega | (dsimp only at hi ⊢; omega)) (fun i hi => by first | exact hi.elim | omega | (dsimp only at hi ⊢; omega))
   replace G := Mod.trans' G m64 (fun _ h _ => h) (fun i h hl => by first | exact h | omega | (dsimp only at h ⊢; omega))
   replace GS51 := GS51.trn m64
   replace RD := RD.md m64
   replace B1 := B1.md m64
   replace B4 := B4.md m64
   replace B61 := B61.md m64
   have zm64 := m64.size
   have hCF := OY.rc
   have hRF := OY.r1
   refine ⟨GS51, ?_⟩
   refine Dq (i := 10) rfl GS51 (fun _ _ => Y_field U26 rfl fz26_0 (by decide) rfl) ?_
   refine D_1 (i := 11) (by kernel_rfl) ?_
   refine E_stM (pre := []) (old := [_]) (post := [_]) (vs := [_]) (i := 11) rfl sz23 rfl rfl rfl (by first | rfl | assumption) B4 rfl rfl ?_
   intro w65 m65 X65
   replace B4 := Blk.eq (ys := [_, _]) X65 rfl
   clear X65
   replace G := Mod.trans' G m65 (fun _ h _ => h) (fun i h hl => by first | exact h | omega | (dsimp only at h ⊢; omega))
   replace GS51 := GS51.trn m65
   replace RD := RD.md m65
   replace OY := OY.md m65
   replace hCF := hCF.md m65
   replace hRF := hRF.md m65
   replace B1 := B1.md m65
   replace B61 := B61.md m65
   have zm65 := m65.size
   refine ⟨GS51, ?_⟩
   refine D_en (by kernel_rfl) rfl rfl ?_
   refine ib_n ?_
   refine th_n (hK13 _ _ ?_)
   clear hK13 K13
   refine wp_seq_k fun K27 hK27 => ?_
   refine Sb 142 rfl ?_
   refine S_val (Y_loadS U26 rfl sz26 rfl (B4.row (by rfl))) ?_
   refine S_stM (pre := []) (old := [_, _]) (post := []) (vs := [_, _]) sz26 rfl rfl rfl (by first | rfl | assumption) B1 rfl rfl ?_
   intro w66 m66 X66
   replace B1 := Blk.eq (ys := [_, _]) X66 rfl
   clear X66
   replace G := Mod.trans' G m66 (fun _ h _ => h) (fun i h hl => by first | exact h | omega | (dsimp only at h ⊢; omega))
   replace RD := RD.md m66
   replace OY := OY.md m66
   replace hCF := hCF.md m66
   replace hRF := hRF.md m66
   replace B4 := B4.md m66
   replace B61 := B61.md m66
   have zm66 := m66.size
   refine S_nl rfl rfl ?_
   refine th_n (hK27 _ _ ?_)
   clear hK27 K27
   refine wp_ret ?_
   refine ret_rc (cs := [_, _]) U26 rfl sz26 rfl rfl (B1.row (by rfl)) ?_
   first | exact ⟨_, _, _, _, _, _, _, _, rfl, by simp, by simp, sL.size, by omega, hCF.weak (fun i hi => by first | omega | (dsimp only at hi ⊢; omega)), hRF.weak (fun i hi => by first | omega | (dsimp only at hi ⊢; omega)), RD, G⟩ | exact ⟨_, _, _, _, _, _, _, _, rfl, by simp, by simp, sL.root _ _, by omega, hCF.weak (fun i hi => by first | omega | (dsimp only at hi ⊢; omega)), hRF.weak (fun i hi => by first | omega | (dsimp only at hi ⊢; omega)), RD, G⟩ | exact ⟨_, _, _, _, _, _, _, _, rfl, by simp, by simp, sL.more (by simp), by omega, hCF.weak (fun i hi => by first | omega | (dsimp only at hi ⊢; omega)), hRF.weak (fun i hi => by first | omega | (dsimp only at hi ⊢; omega)), RD, G⟩ | exact ⟨_, _, _, _, _, _, _, _, rfl, by simp, by simp, sL.rest, by omega, hCF.weak (fun i hi => by first | omega | (dsimp only at hi ⊢; omega)), hRF.weak (fun i hi => by first | omega | (dsimp only at hi ⊢; omega)), RD, G⟩
  ·
   refine E_bsN (cs := [_, _]) (i := 2) rfl U24 zr3 sz3 rfl rfl ?_
   intro b67 w67 fb67 g67 B67
   refine ⟨GS51.grow g67, ?_⟩
   have lb67 := B67.lt
   replace OX := OX.grow g67
   replace RD := RD.grow g67
   replace G := G.grow g67
   replace GS51 := GS51.grow g67
   replace B1 := B1.grow g67
   replace B4 := B4.grow g67
   have zg67 := g67.size
   refine D_2 (i := 1) (j := 4) (by kernel_rfl) ?_ ?_
   ·
    refine E_val (i := 1) rfl (Y_load U23 rfl rfl (B4.at (by rfl))) GS51 ?_
    refine D_1 (i := 4) (by kernel_rfl) ?_
    refine E_call rfl rfl en50 (spec_l20Rd_pick_c _ _ _ _ RD (by omega) (by omega)) ?_
    rintro v69 w69 ⟨k69, rfl, hk69, RD69, m69⟩
    obtain ⟨kY, rfl⟩ : ∃ x, x = k69 := ⟨_, rfl⟩
    have hkY := hk69 (by decide)
    replace RD := RD69
    clear RD69
    replace G := Mod.trans' G m69 (fun _ h _ => h) (fun i h hl => by first | exact h | omega | (dsimp only at h ⊢; omega))
    replace GS51 := GS51.trn m69
    replace OX := OX.md m69
    replace B1 := B1.md m69
    replace B4 := B4.md m69
    replace B67 := B67.md m69
    have zm69 := m69.size
    refine ⟨GS51, ?_⟩
    refine Dq (i := 5) rfl GS51 (fun _ _ => Y_index U24 sz3 rfl rfl (by first | assumption | omega)) ?_
    refine D_1 (i := 6) (by kernel_rfl) ?_
    obtain ⟨xv, hxv⟩ := Blk.pickI (l := [-1, 100]) B67 (k := kY) (by show kY < 2; omega)
    refine E_val (i := 6) rfl (Y_load U3 rfl rfl hxv) GS51 ?_
    refine Dq (i := 7) rfl GS51 (fun _ _ => Y_build (cs := [_, _, _]) zr50 pc50 rfl rfl) ?_
    refine D_1 (i := 8) (by kernel_rfl) ?_
    refine E_bs1 (cs := [_, _, _]) (i := 8) rfl U23 zr50 sz50 rfl rfl rfl ?_
    intro b71 w71 fb71 g71 B71
    refine ⟨GS51.grow g71, ?_⟩
    have lb71 := B71.lt
    replace OX := OX.grow g71
    replace RD := RD.grow g71
    replace G := G.grow g71
    replace GS51 := GS51.grow g71
    replace B1 := B1.grow g71
    replace B4 := B4.grow g71
    replace B67 := B67.grow g71
    have zg71 := g71.size
    refine D_1 (i := 9) (by kernel_rfl) ?_
    refine E_app2 (i := 9) rfl U23 zr50 sz50 by50 rfl rfl OX.row rfl (Src.blk B71) (by simp [Value.oneCell']) (by omega) (Pr' := (fun i => w.heap.size ≤ i ∧ i ≠ b1 ∧ i ≠ b4)) (fun i hi => by first | omega | (dsimp only at hi ⊢; omega)) (by first | omega | (dsimp only; omega)) ?_
    intro A72 cap72 w72 X72 m72 n72
    have OY := OX.add hne (z := ⟨true, xv, []⟩) (OI.nil No _ _ none) (fun i hi => by first | exact hi.elim | omega | (dsimp only at hi ⊢; omega)) n72 X72 (fun i hi => by first | omega | (dsimp only at hi ⊢; omega)) (fun i hi => by first | exact hi.elim | omega | (dsimp only at hi ⊢; omega))
    replace G := Mod.trans' G m72 (fun _ h _ => h) (fun i h hl => by first | exact h | omega | (dsimp only at h ⊢; omega))
    replace GS51 := GS51.trn m72
    replace RD := RD.md m72
    replace B1 := B1.md m72
    replace B4 := B4.md m72
    replace B67 := B67.md m72
    have zm72 := m72.size
    have hCF := OY.rc
    have hRF := OY.r1
    refine ⟨GS51, ?_⟩
    refine Dq (i := 10) rfl GS51 (fun _ _ => Y_field U26 rfl fz26_0 (by decide) rfl) ?_
    refine D_1 (i := 11) (by kernel_rfl) ?_
    refine E_stM (pre := []) (old := [_]) (post := [_]) (vs := [_]) (i := 11) rfl sz23 rfl rfl rfl (by first | rfl | assumption) B4 rfl rfl ?_
    intro w73 m73 X73
    replace B4 := Blk.eq (ys := [_, _]) X73 rfl
    clear X73
    replace G := Mod.trans' G m73 (fun _ h _ => h) (fun i h hl => by first | exact h | omega | (dsimp only at h ⊢; omega))
    replace GS51 := GS51.trn m73
    replace RD := RD.md m73
    replace OY := OY.md m73
    replace hCF := hCF.md m73
    replace hRF := hRF.md m73
    replace B1 := B1.md m73
    replace B67 := B67.md m73
    have zm73 := m73.size
    refine ⟨GS51, ?_⟩
    refine D_en (by kernel_rfl) rfl rfl ?_
    refine ib_n ?_
    refine th_n (hK13 _ _ ?_)
    clear hK13 K13
    refine wp_seq_k fun K28 hK28 => ?_
    refine Sb 142 rfl ?_
    refine S_val (Y_loadS U26 rfl sz26 rfl (B4.row (by rfl))) ?_
    refine S_stM (pre := []) (old := [_, _]) (post := []) (vs := [_, _]) sz26 rfl rfl rfl (by first | rfl | assumption) B1 rfl rfl ?_
    intro w74 m74 X74
    replace B1 := Blk.eq (ys := [_, _]) X74 rfl
    clear X74
    replace G := Mod.trans' G m74 (fun _ h _ => h) (fun i h hl => by first | exact h | omega | (dsimp only at h ⊢; omega))
    replace RD := RD.md m74
    replace OY := OY.md m74
    replace hCF := hCF.md m74
    replace hRF := hRF.md m74
    replace B4 := B4.md m74
    replace B67 := B67.md m74
    have zm74 := m74.size
    refine S_nl rfl rfl ?_
    refine th_n (hK28 _ _ ?_)
    clear hK28 K28
    refine wp_ret ?_
    refine ret_rc (cs := [_, _]) U26 rfl sz26 rfl rfl (B1.row (by rfl)) ?_
    first | exact ⟨_, _, _, _, _, _, _, _, rfl, by simp, by simp, sL.size, by omega, hCF.weak (fun i hi => by first | omega | (dsimp only at hi ⊢; omega)), hRF.weak (fun i hi => by first | omega | (dsimp only at hi ⊢; omega)), RD, G⟩ | exact ⟨_, _, _, _, _, _, _, _, rfl, by simp, by simp, sL.root _ _, by omega, hCF.weak (fun i hi => by first | omega | (dsimp only at hi ⊢; omega)), hRF.weak (fun i hi => by first | omega | (dsimp only at hi ⊢; omega)), RD, G⟩ | exact ⟨_, _, _, _, _, _, _, _, rfl, by simp, by simp, sL.more (by simp), by omega, hCF.weak (fun i hi => by first | omega | (dsimp only at hi ⊢; omega)), hRF.weak (fun i hi => by first | omega | (dsimp only at hi ⊢; omega)), RD, G⟩ | exact ⟨_, _, _, _, _, _, _, _, rfl, by simp, by simp, sL.rest, by omega, hCF.weak (fun i hi => by first | omega | (dsimp only at hi ⊢; omega)), hRF.weak (fun i hi => by first | omega | (dsimp only at hi ⊢; omega)), RD, G⟩
   refine E_call rfl rfl en50 (spec_l20Rd_pick_c _ _ _ _ RD (by omega) (by omega)) ?_
   rintro v75 w75 ⟨k75, rfl, hk75, RD75, m75⟩
   obtain ⟨kY, rfl⟩ : ∃ x, x = k75 := ⟨_, rfl⟩
   have hkY := hk75 (by decide)
   replace RD := RD75
   clear RD75
   replace G := Mod.trans' G m75 (fun _ h _ => h) (fun i h hl => by first | exact h | omega | (dsimp only at h ⊢; omega))
   replace GS51 := GS51.trn m75
   replace OX := OX.md m75
   replace B1 := B1.md m75
   replace B4 := B4.md m75
   replace B67 := B67.md m75
   have zm75 := m75.size
   refine ⟨GS51, ?_⟩
   refine Dq (i := 5) rfl GS51 (fun _ _ => Y_index U24 sz3 rfl rfl (by first | assumption | omega)) ?_
   refine D_2 (i := 1) (j := 6) (by kernel_rfl) ?_ ?_
   ·
    refine E_val (i := 1) rfl (Y_load U23 rfl rfl (B4.at (by rfl))) GS51 ?_
    refine D_1 (i := 6) (by kernel_rfl) ?_
    obtain ⟨xv, hxv⟩ := Blk.pickI (l := [-1, 100]) B67 (k := kY) (by show kY < 2; omega)
    refine E_val (i := 6) rfl (Y_load U3 rfl rfl hxv) GS51 ?_
    refine Dq (i := 7) rfl GS51 (fun _ _ => Y_build (cs := [_, _, _]) zr50 pc50 rfl rfl) ?_
    refine D_1 (i := 8) (by kernel_rfl) ?_
    refine E_bs1 (cs := [_, _, _]) (i := 8) rfl U23 zr50 sz50 rfl rfl rfl ?_
    intro b78 w78 fb78 g78 B78
    refine ⟨GS51.grow g78, ?_⟩
    have lb78 := B78.lt
    replace OX := OX.grow g78
    replace RD := RD.grow g78
    replace G := G.grow g78
    replace GS51 := GS51.grow g78
    replace B1 := B1.grow g78
    replace B4 := B4.grow g78
    replace B67 := B67.grow g78
    have zg78 := g78.size
    refine D_1 (i := 9) (by kernel_rfl) ?_
    refine E_app2 (i := 9) rfl U23 zr50 sz50 by50 rfl rfl OX.row rfl (Src.blk B78) (by simp [Value.oneCell']) (by omega) (Pr' := (fun i => w.heap.size ≤ i ∧ i ≠ b1 ∧ i ≠ b4)) (fun i hi => by first | omega | (dsimp only at hi ⊢; omega)) (by first | omega | (dsimp only; omega)) ?_
    intro A79 cap79 w79 X79 m79 n79
    have OY := OX.add hne (z := ⟨true, xv, []⟩) (OI.nil No _ _ none) (fun i hi => by first | exact hi.elim | omega | (dsimp only at hi ⊢; omega)) n79 X79 (fun i hi => by first | omega | (dsimp only at hi ⊢; omega)) (fun i hi => by first | exact hi.elim | omega | (dsimp only at hi ⊢; omega))
    replace G := Mod.trans' G m79 (fun _ h _ => h) (fun i h hl => by first | exact h | omega | (dsimp only at h ⊢; omega))
    replace GS51 := GS51.trn m79
    replace RD := RD.md m79
    replace B1 := B1.md m79
    replace B4 := B4.md m79
    replace B67 := B67.md m79
    have zm79 := m79.size
    have hCF := OY.rc
    have hRF := OY.r1
    refine ⟨GS51, ?_⟩
    refine Dq (i := 10) rfl GS51 (fun _ _ => Y_field U26 rfl fz26_0 (by decide) rfl) ?_
    refine D_1 (i := 11) (by kernel_rfl) ?_
    refine E_stM (pre := []) (old := [_]) (post := [_]) (vs := [_]) (i := 11) rfl sz23 rfl rfl rfl (by first | rfl | assumption) B4 rfl rfl ?_
    intro w80 m80 X80
    replace B4 := Blk.eq (ys := [_, _]) X80 rfl
    clear X80
    replace G := Mod.trans' G m80 (fun _ h _ => h) (fun i h hl => by first | exact h | omega | (dsimp only at h ⊢; omega))
    replace GS51 := GS51.trn m80
    replace RD := RD.md m80
    replace OY := OY.md m80
    replace hCF := hCF.md m80
    replace hRF := hRF.md m80
    replace B1 := B1.md m80
    replace B67 := B67.md m80
    have zm80 := m80.size
    refine ⟨GS51, ?_⟩
    refine D_en (by kernel_rfl) rfl rfl ?_
    refine ib_n ?_
    refine th_n (hK13 _ _ ?_)
    clear hK13 K13
    refine wp_seq_k fun K29 hK29 => ?_
    refine Sb 142 rfl ?_
    refine S_val (Y_loadS U26 rfl sz26 rfl (B4.row (by rfl))) ?_
    refine S_stM (pre := []) (old := [_, _]) (post := []) (vs := [_, _]) sz26 rfl rfl rfl (by first | rfl | assumption) B1 rfl rfl ?_
    intro w81 m81 X81
    replace B1 := Blk.eq (ys := [_, _]) X81 rfl
    clear X81
    replace G := Mod.trans' G m81 (fun _ h _ => h) (fun i h hl => by first | exact h | omega | (dsimp only at h ⊢; omega))
    replace RD := RD.md m81
    replace OY := OY.md m81
    replace hCF := hCF.md m81
    replace hRF := hRF.md m81
    replace B4 := B4.md m81
    replace B67 := B67.md m81
    have zm81 := m81.size
    refine S_nl rfl rfl ?_
    refine th_n (hK29 _ _ ?_)
    clear hK29 K29
    refine wp_ret ?_
    refine ret_rc (cs := [_, _]) U26 rfl sz26 rfl rfl (B1.row (by rfl)) ?_
    first | exact ⟨_, _, _, _, _, _, _, _, rfl, by simp, by simp, sL.size, by omega, hCF.weak (fun i hi => by first | omega | (dsimp only at hi ⊢; omega)), hRF.weak (fun i hi => by first | omega | (dsimp only at hi ⊢; omega)), RD, G⟩ | exact ⟨_, _, _, _, _, _, _, _, rfl, by simp, by simp, sL.root _ _, by omega, hCF.weak (fun i hi => by first | omega | (dsimp only at hi ⊢; omega)), hRF.weak (fun i hi => by first | omega | (dsimp only at hi ⊢; omega)), RD, G⟩ | exact ⟨_, _, _, _, _, _, _, _, rfl, by simp, by simp, sL.more (by simp), by omega, hCF.weak (fun i hi => by first | omega | (dsimp only at hi ⊢; omega)), hRF.weak (fun i hi => by first | omega | (dsimp only at hi ⊢; omega)), RD, G⟩ | exact ⟨_, _, _, _, _, _, _, _, rfl, by simp, by simp, sL.rest, by omega, hCF.weak (fun i hi => by first | omega | (dsimp only at hi ⊢; omega)), hRF.weak (fun i hi => by first | omega | (dsimp only at hi ⊢; omega)), RD, G⟩
   obtain ⟨xv, hxv⟩ := Blk.pickI (l := [-1, 100]) B67 (k := kY) (by show kY < 2; omega)
   refine E_val (i := 6) rfl (Y_load U3 rfl rfl hxv) GS51 ?_
   refine Dq (i := 7) rfl GS51 (fun _ _ => Y_build (cs := [_, _, _]) zr50 pc50 rfl rfl) ?_
   refine D_2 (i := 1) (j := 8) (by kernel_rfl) ?_ ?_
   ·
    refine E_val (i := 1) rfl (Y_load U23 rfl rfl (B4.at (by rfl))) GS51 ?_
    refine D_1 (i := 8) (by kernel_rfl) ?_
    refine E_bs1 (cs := [_, _, _]) (i := 8) rfl U23 zr50 sz50 rfl rfl rfl ?_
    intro b84 w84 fb84 g84 B84
    refine ⟨GS51.grow g84, ?_⟩
    have lb84 := B84.lt
    replace OX := OX.grow g84
    replace RD := RD.grow g84
    replace G := G.grow g84
    replace GS51 := GS51.grow g84
    replace B1 := B1.grow g84
    replace B4 := B4.grow g84
    replace B67 := B67.grow g84
    have zg84 := g84.size
    refine D_1 (i := 9) (by kernel_rfl) ?_
    refine E_app2 (i := 9) rfl U23 zr50 sz50 by50 rfl rfl OX.row rfl (Src.blk B84) (by simp [Value.oneCell']) (by omega) (Pr' := (fun i => w.heap.size ≤ i ∧ i ≠ b1 ∧ i ≠ b4)) (fun i hi => by first | omega | (dsimp only at hi ⊢; omega)) (by first | omega | (dsimp only; omega)) ?_
    intro A85 cap85 w85 X85 m85 n85
    have OY := OX.add hne (z := ⟨true, xv, []⟩) (OI.nil No _ _ none) (fun i hi => by first | exact hi.elim | omega | (dsimp only at hi ⊢; omega)) n85 X85 (fun i hi => by first | omega | (dsimp only at hi ⊢; omega)) (fun i hi => by first | exact hi.elim | omega | (dsimp only at hi ⊢; omega))
    replace G := Mod.trans' G m85 (fun _ h _ => h) (fun i h hl => by first | exact h | omega | (dsimp only at h ⊢; omega))
    replace GS51 := GS51.trn m85
    replace RD := RD.md m85
    replace B1 := B1.md m85
    replace B4 := B4.md m85
    replace B67 := B67.md m85
    have zm85 := m85.size
    have hCF := OY.rc
    have hRF := OY.r1
    refine ⟨GS51, ?_⟩
    refine Dq (i := 10) rfl GS51 (fun _ _ => Y_field U26 rfl fz26_0 (by decide) rfl) ?_
    refine D_1 (i := 11) (by kernel_rfl) ?_
    refine E_stM (pre := []) (old := [_]) (post := [_]) (vs := [_]) (i := 11) rfl sz23 rfl rfl rfl (by first | rfl | assumption) B4 rfl rfl ?_
    intro w86 m86 X86
    replace B4 := Blk.eq (ys := [_, _]) X86 rfl
    clear X86
    replace G := Mod.trans' G m86 (fun _ h _ => h) (fun i h hl => by first | exact h | omega | (dsimp only at h ⊢; omega))
    replace GS51 := GS51.trn m86
    replace RD := RD.md m86
    replace OY := OY.md m86
    replace hCF := hCF.md m86
    replace hRF := hRF.md m86
    replace B1 := B1.md m86
    replace B67 := B67.md m86
    have zm86 := m86.size
    refine ⟨GS51, ?_⟩
    refine D_en (by kernel_rfl) rfl rfl ?_
    refine ib_n ?_
    refine th_n (hK13 _ _ ?_)
    clear hK13 K13
    refine wp_seq_k fun K30 hK30 => ?_
    refine Sb 142 rfl ?_
    refine S_val (Y_loadS U26 rfl sz26 rfl (B4.row (by rfl))) ?_
    refine S_stM (pre := []) (old := [_, _]) (post := []) (vs := [_, _]) sz26 rfl rfl rfl (by first | rfl | assumption) B1 rfl rfl ?_
    intro w87 m87 X87
    replace B1 := Blk.eq (ys := [_, _]) X87 rfl
    clear X87
    replace G := Mod.trans' G m87 (fun _ h _ => h) (fun i h hl => by first | exact h | omega | (dsimp only at h ⊢; omega))
    replace RD := RD.md m87
    replace OY := OY.md m87
    replace hCF := hCF.md m87
    replace hRF := hRF.md m87
    replace B4 := B4.md m87
    replace B67 := B67.md m87
    have zm87 := m87.size
    refine S_nl rfl rfl ?_
    refine th_n (hK30 _ _ ?_)
    clear hK30 K30
    refine wp_ret ?_
    refine ret_rc (cs := [_, _]) U26 rfl sz26 rfl rfl (B1.row (by rfl)) ?_
    first | exact ⟨_, _, _, _, _, _, _, _, rfl, by simp, by simp, sL.size, by omega, hCF.weak (fun i hi => by first | omega | (dsimp only at hi ⊢; omega)), hRF.weak (fun i hi => by first | omega | (dsimp only at hi ⊢; omega)), RD, G⟩ | exact ⟨_, _, _, _, _, _, _, _, rfl, by simp, by simp, sL.root _ _, by omega, hCF.weak (fun i hi => by first | omega | (dsimp only at hi ⊢; omega)), hRF.weak (fun i hi => by first | omega | (dsimp only at hi ⊢; omega)), RD, G⟩ | exact ⟨_, _, _, _, _, _, _, _, rfl, by simp, by simp, sL.more (by simp), by omega, hCF.weak (fun i hi => by first | omega | (dsimp only at hi ⊢; omega)), hRF.weak (fun i hi => by first | omega | (dsimp only at hi ⊢; omega)), RD, G⟩ | exact ⟨_, _, _, _, _, _, _, _, rfl, by simp, by simp, sL.rest, by omega, hCF.weak (fun i hi => by first | omega | (dsimp only at hi ⊢; omega)), hRF.weak (fun i hi => by first | omega | (dsimp only at hi ⊢; omega)), RD, G⟩
   refine E_bs1 (cs := [_, _, _]) (i := 8) rfl U23 zr50 sz50 rfl rfl rfl ?_
   intro b88 w88 fb88 g88 B88
   refine ⟨GS51.grow g88, ?_⟩
   have lb88 := B88.lt
   replace OX := OX.grow g88
   replace RD := RD.grow g88
   replace G := G.grow g88
   replace GS51 := GS51.grow g88
   replace B1 := B1.grow g88
   replace B4 := B4.grow g88
   replace B67 := B67.grow g88
   have zg88 := g88.size
   refine D_1 (i := 1) (by kernel_rfl) ?_
   refine E_val (i := 1) rfl (Y_load U23 rfl rfl (B4.at (by rfl))) GS51 ?_
   refine D_1 (i := 9) (by kernel_rfl) ?_
   refine E_app2 (i := 9) rfl U23 zr50 sz50 by50 rfl rfl OX.row rfl (Src.blk B88) (by simp [Value.oneCell']) (by omega) (Pr' := (fun i => w.heap.size ≤ i ∧ i ≠ b1 ∧ i ≠ b4)) (fun i hi => by first | omega | (dsimp only at hi ⊢; omega)) (by first | omega | (dsimp only; omega)) ?_
   intro A90 cap90 w90 X90 m90 n90
   have OY := OX.add hne (z := ⟨true, xv, []⟩) (OI.nil No _ _ none) (fun i hi => by first | exact hi.elim | omega | (dsimp only at hi ⊢; omega)) n90 X90 (fun i hi => by first | omega | (dsimp only at hi ⊢; omega)) (fun i hi => by first | exact hi.elim | omega | (dsimp only at hi ⊢; omega))
   replace G := Mod.trans' G m90 (fun _ h _ => h) (fun i h hl => by first | exact h | omega | (dsimp only at h ⊢; omega))
   replace GS51 := GS51.trn m90
   replace RD := RD.md m90
   replace B1 := B1.md m90
   replace B4 := B4.md m90
   replace B67 := B67.md m90
   have zm90 := m90.size
   have hCF := OY.rc
   have hRF := OY.r1
   refine ⟨GS51, ?_⟩
   refine Dq (i := 10) rfl GS51 (fun _ _ => Y_field U26 rfl fz26_0 (by decide) rfl) ?_
   refine D_1 (i := 11) (by kernel_rfl) ?_
   refine E_stM (pre := []) (old := [_]) (post := [_]) (vs := [_]) (i := 11) rfl sz23 rfl rfl rfl (by first | rfl | assumption) B4 rfl rfl ?_
   intro w91 m91 X91
   replace B4 := Blk.eq (ys := [_, _]) X91 rfl
   clear X91
   replace G := Mod.trans' G m91 (fun _ h _ => h) (fun i h hl => by first | exact h | omega | (dsimp only at h ⊢; omega))
   replace GS51 := GS51.trn m91
   replace RD := RD.md m91
   replace OY := OY.md m91
   replace hCF := hCF.md m91
   replace hRF := hRF.md m91
   replace B1 := B1.md m91
   replace B67 := B67.md m91
   have zm91 := m91.size
   refine ⟨GS51, ?_⟩
   refine D_en (by kernel_rfl) rfl rfl ?_
   refine ib_n ?_
   refine th_n (hK13 _ _ ?_)
   clear hK13 K13
   refine wp_seq_k fun K31 hK31 => ?_
   refine Sb 142 rfl ?_
   refine S_val (Y_loadS U26 rfl sz26 rfl (B4.row (by rfl))) ?_
   refine S_stM (pre := []) (old := [_, _]) (post := []) (vs := [_, _]) sz26 rfl rfl rfl (by first | rfl | assumption) B1 rfl rfl ?_
   intro w92 m92 X92
   replace B1 := Blk.eq (ys := [_, _]) X92 rfl
   clear X92
   replace G := Mod.trans' G m92 (fun _ h _ => h) (fun i h hl => by first | exact h | omega | (dsimp only at h ⊢; omega))
   replace RD := RD.md m92
   replace OY := OY.md m92
   replace hCF := hCF.md m92
   replace hRF := hRF.md m92
   replace B4 := B4.md m92
   replace B67 := B67.md m92
   have zm92 := m92.size
   refine S_nl rfl rfl ?_
   refine th_n (hK31 _ _ ?_)
   clear hK31 K31
   refine wp_ret ?_
   refine ret_rc (cs := [_, _]) U26 rfl sz26 rfl rfl (B1.row (by rfl)) ?_
   first | exact ⟨_, _, _, _, _, _, _, _, rfl, by simp, by simp, sL.size, by omega, hCF.weak (fun i hi => by first | omega | (dsimp only at hi ⊢; omega)), hRF.weak (fun i hi => by first | omega | (dsimp only at hi ⊢; omega)), RD, G⟩ | exact ⟨_, _, _, _, _, _, _, _, rfl, by simp, by simp, sL.root _ _, by omega, hCF.weak (fun i hi => by first | omega | (dsimp only at hi ⊢; omega)), hRF.weak (fun i hi => by first | omega | (dsimp only at hi ⊢; omega)), RD, G⟩ | exact ⟨_, _, _, _, _, _, _, _, rfl, by simp, by simp, sL.more (by simp), by omega, hCF.weak (fun i hi => by first | omega | (dsimp only at hi ⊢; omega)), hRF.weak (fun i hi => by first | omega | (dsimp only at hi ⊢; omega)), RD, G⟩ | exact ⟨_, _, _, _, _, _, _, _, rfl, by simp, by simp, sL.rest, by omega, hCF.weak (fun i hi => by first | omega | (dsimp only at hi ⊢; omega)), hRF.weak (fun i hi => by first | omega | (dsimp only at hi ⊢; omega)), RD, G⟩
  refine E_call rfl rfl en50 (spec_l20Rd_pick_c _ _ _ _ RD (by omega) (by omega)) ?_
  rintro v93 w93 ⟨k93, rfl, hk93, RD93, m93⟩
  obtain ⟨kY, rfl⟩ : ∃ x, x = k93 := ⟨_, rfl⟩
  have hkY := hk93 (by decide)
  replace RD := RD93
  clear RD93
  replace G := Mod.trans' G m93 (fun _ h _ => h) (fun i h hl => by first | exact h | omega | (dsimp only at h ⊢; omega))
  replace GS51 := GS51.trn m93
  replace OX := OX.md m93
  replace B1 := B1.md m93
  replace B4 := B4.md m93
  have zm93 := m93.size
  refine ⟨GS51, ?_⟩
  refine D_2 (i := 1) (j := 2) (by kernel_rfl) ?_ ?_
  ·
   refine E_val (i := 1) rfl (Y_load U23 rfl rfl (B4.at (by rfl))) GS51 ?_
   refine D_1 (i := 2) (by kernel_rfl) ?_
   refine E_bsN (cs := [_, _]) (i := 2) rfl U24 zr3 sz3 rfl rfl ?_
   intro b95 w95 fb95 g95 B95
   refine ⟨GS51.grow g95, ?_⟩
   have lb95 := B95.lt
   replace OX := OX.grow g95
   replace RD := RD.grow g95
   replace G := G.grow g95
   replace GS51 := GS51.grow g95
   replace B1 := B1.grow g95
   replace B4 := B4.grow g95
   have zg95 := g95.size
   refine Dq (i := 5) rfl GS51 (fun _ _ => Y_index U24 sz3 rfl rfl (by first | assumption | omega)) ?_
   refine D_1 (i := 6) (by kernel_rfl) ?_
   obtain ⟨xv, hxv⟩ := Blk.pickI (l := [-1, 100]) B95 (k := kY) (by show kY < 2; omega)
   refine E_val (i := 6) rfl (Y_load U3 rfl rfl hxv) GS51 ?_
   refine Dq (i := 7) rfl GS51 (fun _ _ => Y_build (cs := [_, _, _]) zr50 pc50 rfl rfl) ?_
   refine D_1 (i := 8) (by kernel_rfl) ?_
   refine E_bs1 (cs := [_, _, _]) (i := 8) rfl U23 zr50 sz50 rfl rfl rfl ?_
   intro b97 w97 fb97 g97 B97
   refine ⟨GS51.grow g97, ?_⟩
   have lb97 := B97.lt
   replace OX := OX.grow g97
   replace RD := RD.grow g97
   replace G := G.grow g97
   replace GS51 := GS51.grow g97
   replace B1 := B1.grow g97
   replace B4 := B4.grow g97
   replace B95 := B95.grow g97
   have zg97 := g97.size
   refine D_1 (i := 9) (by kernel_rfl) ?_
   refine E_app2 (i := 9) rfl U23 zr50 sz50 by50 rfl rfl OX.row rfl (Src.blk B97) (by simp [Value.oneCell']) (by omega) (Pr' := (fun i => w.heap.size ≤ i ∧ i ≠ b1 ∧ i ≠ b4)) (fun i hi => by first | omega | (dsimp only at hi ⊢; omega)) (by first | omega | (dsimp only; omega)) ?_
   intro A98 cap98 w98 X98 m98 n98
   have OY := OX.add hne (z := ⟨true, xv, []⟩) (OI.nil No _ _ none) (fun i hi => by first | exact hi.elim | omega | (dsimp only at hi ⊢; omega)) n98 X98 (fun i hi => by first | omega | (dsimp only at hi ⊢; omega)) (fun i hi => by first | exact hi.elim | omega | (dsimp only at hi ⊢; omega))
   replace G := Mod.trans' G m98 (fun _ h _ => h) (fun i h hl => by first | exact h | omega | (dsimp only at h ⊢; omega))
   replace GS51 := GS51.trn m98
   replace RD := RD.md m98
   replace B1 := B1.md m98
   replace B4 := B4.md m98
   replace B95 := B95.md m98
   have zm98 := m98.size
   have hCF := OY.rc
   have hRF := OY.r1
   refine ⟨GS51, ?_⟩
   refine Dq (i := 10) rfl GS51 (fun _ _ => Y_field U26 rfl fz26_0 (by decide) rfl) ?_
   refine D_1 (i := 11) (by kernel_rfl) ?_
   refine E_stM (pre := []) (old := [_]) (post := [_]) (vs := [_]) (i := 11) rfl sz23 rfl rfl rfl (by first | rfl | assumption) B4 rfl rfl ?_
   intro w99 m99 X99
   replace B4 := Blk.eq (ys := [_, _]) X99 rfl
   clear X99
   replace G := Mod.trans' G m99 (fun _ h _ => h) (fun i h hl => by first | exact h | omega | (dsimp only at h ⊢; omega))
   replace GS51 := GS51.trn m99
   replace RD := RD.md m99
   replace OY := OY.md m99
   replace hCF := hCF.md m99
   replace hRF := hRF.md m99
   replace B1 := B1.md m99
   replace B95 := B95.md m99
   have zm99 := m99.size
   refine ⟨GS51, ?_⟩
   refine D_en (by kernel_rfl) rfl rfl ?_
   refine ib_n ?_
   refine th_n (hK13 _ _ ?_)
   clear hK13 K13
   refine wp_seq_k fun K32 hK32 => ?_
   refine Sb 142 rfl ?_
   refine S_val (Y_loadS U26 rfl sz26 rfl (B4.row (by rfl))) ?_
   refine S_stM (pre := []) (old := [_, _]) (post := []) (vs := [_, _]) sz26 rfl rfl rfl (by first | rfl | assumption) B1 rfl rfl ?_
   intro w100 m100 X100
   replace B1 := Blk.eq (ys := [_, _]) X100 rfl
   clear X100
   replace G := Mod.trans' G m100 (fun _ h _ => h) (fun i h hl => by first | exact h | omega | (dsimp only at h ⊢; omega))
   replace RD := RD.md m100
   replace OY := OY.md m100
   replace hCF := hCF.md m100
   replace hRF := hRF.md m100
   replace B4 := B4.md m100
   replace B95 := B95.md m100
   have zm100 := m100.size
   refine S_nl rfl rfl ?_
   refine th_n (hK32 _ _ ?_)
   clear hK32 K32
   refine wp_ret ?_
   refine ret_rc (cs := [_, _]) U26 rfl sz26 rfl rfl (B1.row (by rfl)) ?_
   first | exact ⟨_, _, _, _, _, _, _, _, rfl, by simp, by simp, sL.size, by omega, hCF.weak (fun i hi => by first | omega | (dsimp only at hi ⊢; omega)), hRF.weak (fun i hi => by first | omega | (dsimp only at hi ⊢; omega)), RD, G⟩ | exact ⟨_, _, _, _, _, _, _, _, rfl, by simp, by simp, sL.root _ _, by omega, hCF.weak (fun i hi => by first | omega | (dsimp only at hi ⊢; omega)), hRF.weak (fun i hi => by first | omega | (dsimp only at hi ⊢; omega)), RD, G⟩ | exact ⟨_, _, _, _, _, _, _, _, rfl, by simp, by simp, sL.more (by simp), by omega, hCF.weak (fun i hi => by first | omega | (dsimp only at hi ⊢; omega)), hRF.weak (fun i hi => by first | omega | (dsimp only at hi ⊢; omega)), RD, G⟩ | exact ⟨_, _, _, _, _, _, _, _, rfl, by simp, by simp, sL.rest, by omega, hCF.weak (fun i hi => by first | omega | (dsimp only at hi ⊢; omega)), hRF.weak (fun i hi => by first | omega | (dsimp only at hi ⊢; omega)), RD, G⟩
  refine E_bsN (cs := [_, _]) (i := 2) rfl U24 zr3 sz3 rfl rfl ?_
  intro b101 w101 fb101 g101 B101
  refine ⟨GS51.grow g101, ?_⟩
  have lb101 := B101.lt
  replace OX := OX.grow g101
  replace RD := RD.grow g101
  replace G := G.grow g101
  replace GS51 := GS51.grow g101
  replace B1 := B1.grow g101
  replace B4 := B4.grow g101
  have zg101 := g101.size
  refine Dq (i := 5) rfl GS51 (fun _ _ => Y_index U24 sz3 rfl rfl (by first | assumption | omega)) ?_
  refine D_2 (i := 1) (j := 6) (by kernel_rfl) ?_ ?_
  ·
   refine E_val (i := 1) rfl (Y_load U23 rfl rfl (B4.at (by rfl))) GS51 ?_
   refine D_1 (i := 6) (by kernel_rfl) ?_
   obtain ⟨xv, hxv⟩ := Blk.pickI (l := [-1, 100]) B101 (k := kY) (by show kY < 2; omega)
   refine E_val (i := 6) rfl (Y_load U3 rfl rfl hxv) GS51 ?_
   refine Dq (i := 7) rfl GS51 (fun _ _ => Y_build (cs := [_, _, _]) zr50 pc50 rfl rfl) ?_
   refine D_1 (i := 8) (by kernel_rfl) ?_
   refine E_bs1 (cs := [_, _, _]) (i := 8) rfl U23 zr50 sz50 rfl rfl rfl ?_
   intro b104 w104 fb104 g104 B104
   refine ⟨GS51.grow g104, ?_⟩
   have lb104 := B104.lt
   replace OX := OX.grow g104
   replace RD := RD.grow g104
   replace G := G.grow g104
   replace GS51 := GS51.grow g104
   replace B1 := B1.grow g104
   replace B4 := B4.grow g104
   replace B101 := B101.grow g104
   have zg104 := g104.size
   refine D_1 (i := 9) (by kernel_rfl) ?_
   refine E_app2 (i := 9) rfl U23 zr50 sz50 by50 rfl rfl OX.row rfl (Src.blk B104) (by simp [Value.oneCell']) (by omega) (Pr' := (fun i => w.heap.size ≤ i ∧ i ≠ b1 ∧ i ≠ b4)) (fun i hi => by first | omega | (dsimp only at hi ⊢; omega)) (by first | omega | (dsimp only; omega)) ?_
   intro A105 cap105 w105 X105 m105 n105
   have OY := OX.add hne (z := ⟨true, xv, []⟩) (OI.nil No _ _ none) (fun i hi => by first | exact hi.elim | omega | (dsimp only at hi ⊢; omega)) n105 X105 (fun i hi => by first | omega | (dsimp only at hi ⊢; omega)) (fun i hi => by first | exact hi.elim | omega | (dsimp only at hi ⊢; omega))
   replace G := Mod.trans' G m105 (fun _ h _ => h) (fun i h hl => by first | exact h | omega | (dsimp only at h ⊢; omega))
   replace GS51 := GS51.trn m105
   replace RD := RD.md m105
   replace B1 := B1.md m105
   replace B4 := B4.md m105
   replace B101 := B101.md m105
   have zm105 := m105.size
   have hCF := OY.rc
   have hRF := OY.r1
   refine ⟨GS51, ?_⟩
   refine Dq (i := 10) rfl GS51 (fun _ _ => Y_field U26 rfl fz26_0 (by decide) rfl) ?_
   refine D_1 (i := 11) (by kernel_rfl) ?_
   refine E_stM (pre := []) (old := [_]) (post := [_]) (vs := [_]) (i := 11) rfl sz23 rfl rfl rfl (by first | rfl | assumption) B4 rfl rfl ?_
   intro w106 m106 X106
   replace B4 := Blk.eq (ys := [_, _]) X106 rfl
   clear X106
   replace G := Mod.trans' G m106 (fun _ h _ => h) (fun i h hl => by first | exact h | omega | (dsimp only at h ⊢; omega))
   replace GS51 := GS51.trn m106
   replace RD := RD.md m106
   replace OY := OY.md m106
   replace hCF := hCF.md m106
   replace hRF := hRF.md m106
   replace B1 := B1.md m106
   replace B101 := B101.md m106
   have zm106 := m106.size
   refine ⟨GS51, ?_⟩
   refine D_en (by kernel_rfl) rfl rfl ?_
   refine ib_n ?_
   refine th_n (hK13 _ _ ?_)
   clear hK13 K13
   refine wp_seq_k fun K33 hK33 => ?_
   refine Sb 142 rfl ?_
   refine S_val (Y_loadS U26 rfl sz26 rfl (B4.row (by rfl))) ?_
   refine S_stM (pre := []) (old := [_, _]) (post := []) (vs := [_, _]) sz26 rfl rfl rfl (by first | rfl | assumption) B1 rfl rfl ?_
   intro w107 m107 X107
   replace B1 := Blk.eq (ys := [_, _]) X107 rfl
   clear X107
   replace G := Mod.trans' G m107 (fun _ h _ => h) (fun i h hl => by first | exact h | omega | (dsimp only at h ⊢; omega))
   replace RD := RD.md m107
   replace OY := OY.md m107
   replace hCF := hCF.md m107
   replace hRF := hRF.md m107
   replace B4 := B4.md m107
   replace B101 := B101.md m107
   have zm107 := m107.size
   refine S_nl rfl rfl ?_
   refine th_n (hK33 _ _ ?_)
   clear hK33 K33
   refine wp_ret ?_
   refine ret_rc (cs := [_, _]) U26 rfl sz26 rfl rfl (B1.row (by rfl)) ?_
   first | exact ⟨_, _, _, _, _, _, _, _, rfl, by simp, by simp, sL.size, by omega, hCF.weak (fun i hi => by first | omega | (dsimp only at hi ⊢; omega)), hRF.weak (fun i hi => by first | omega | (dsimp only at hi ⊢; omega)), RD, G⟩ | exact ⟨_, _, _, _, _, _, _, _, rfl, by simp, by simp, sL.root _ _, by omega, hCF.weak (fun i hi => by first | omega | (dsimp only at hi ⊢; omega)), hRF.weak (fun i hi => by first | omega | (dsimp only at hi ⊢; omega)), RD, G⟩ | exact ⟨_, _, _, _, _, _, _, _, rfl, by simp, by simp, sL.more (by simp), by omega, hCF.weak (fun i hi => by first | omega | (dsimp only at hi ⊢; omega)), hRF.weak (fun i hi => by first | omega | (dsimp only at hi ⊢; omega)), RD, G⟩ | exact ⟨_, _, _, _, _, _, _, _, rfl, by simp, by simp, sL.rest, by omega, hCF.weak (fun i hi => by first | omega | (dsimp only at hi ⊢; omega)), hRF.weak (fun i hi => by first | omega | (dsimp only at hi ⊢; omega)), RD, G⟩
  obtain ⟨xv, hxv⟩ := Blk.pickI (l := [-1, 100]) B101 (k := kY) (by show kY < 2; omega)
  refine E_val (i := 6) rfl (Y_load U3 rfl rfl hxv) GS51 ?_
  refine Dq (i := 7) rfl GS51 (fun _ _ => Y_build (cs := [_, _, _]) zr50 pc50 rfl rfl) ?_
  refine D_2 (i := 1) (j := 8) (by kernel_rfl) ?_ ?_
  ·
   refine E_val (i := 1) rfl (Y_load U23 rfl rfl (B4.at (by rfl))) GS51 ?_
   refine D_1 (i := 8) (by kernel_rfl) ?_
   refine E_bs1 (cs := [_, _, _]) (i := 8) rfl U23 zr50 sz50 rfl rfl rfl ?_
   intro b110 w110 fb110 g110 B110
   refine ⟨GS51.grow g110, ?_⟩
   have lb110 := B110.lt
   replace OX := OX.grow g110
   replace RD := RD.grow g110
   replace G := G.grow g110
   replace GS51 := GS51.grow g110
   replace B1 := B1.grow g110
   replace B4 := B4.grow g110
   replace B101 := B101.grow g110
   have zg110 := g110.size
   refine D_1 (i := 9) (by kernel_rfl) ?_
   refine E_app2 (i := 9) rfl U23 zr50 sz50 by50 rfl rfl OX.row rfl (Src.blk B110) (by simp [Value.oneCell']) (by omega) (Pr' := (fun i => w.heap.size ≤ i ∧ i ≠ b1 ∧ i ≠ b4)) (fun i hi => by first | omega | (dsimp only at hi ⊢; omega)) (by first | omega | (dsimp only; omega)) ?_
   intro A111 cap111 w111 X111 m111 n111
   have OY := OX.add hne (z := ⟨true, xv, []⟩) (OI.nil No _ _ none) (fun i hi => by first | exact hi.elim | omega | (dsimp only at hi ⊢; omega)) n111 X111 (fun i hi => by first | omega | (dsimp only at hi ⊢; omega)) (fun i hi => by first | exact hi.elim | omega | (dsimp only at hi ⊢; omega))
   replace G := Mod.trans' G m111 (fun _ h _ => h) (fun i h hl => by first | exact h | omega | (dsimp only at h ⊢; omega))
   replace GS51 := GS51.trn m111
   replace RD := RD.md m111
   replace B1 := B1.md m111
   replace B4 := B4.md m111
   replace B101 := B101.md m111
   have zm111 := m111.size
   have hCF := OY.rc
   have hRF := OY.r1
   refine ⟨GS51, ?_⟩
   refine Dq (i := 10) rfl GS51 (fun _ _ => Y_field U26 rfl fz26_0 (by decide) rfl) ?_
   refine D_1 (i := 11) (by kernel_rfl) ?_
   refine E_stM (pre := []) (old := [_]) (post := [_]) (vs := [_]) (i := 11) rfl sz23 rfl rfl rfl (by first | rfl | assumption) B4 rfl rfl ?_
   intro w112 m112 X112
   replace B4 := Blk.eq (ys := [_, _]) X112 rfl
   clear X112
   replace G := Mod.trans' G m112 (fun _ h _ => h) (fun i h hl => by first | exact h | omega | (dsimp only at h ⊢; omega))
   replace GS51 := GS51.trn m112
   replace RD := RD.md m112
   replace OY := OY.md m112
   replace hCF := hCF.md m112
   replace hRF := hRF.md m112
   replace B1 := B1.md m112
   replace B101 := B101.md m112
   have zm112 := m112.size
   refine ⟨GS51, ?_⟩
   refine D_en (by kernel_rfl) rfl rfl ?_
   refine ib_n ?_
   refine th_n (hK13 _ _ ?_)
   clear hK13 K13
   refine wp_seq_k fun K34 hK34 => ?_
   refine Sb 142 rfl ?_
   refine S_val (Y_loadS U26 rfl sz26 rfl (B4.row (by rfl))) ?_
   refine S_stM (pre := []) (old := [_, _]) (post := []) (vs := [_, _]) sz26 rfl rfl rfl (by first | rfl | assumption) B1 rfl rfl ?_
   intro w113 m113 X113
   replace B1 := Blk.eq (ys := [_, _]) X113 rfl
   clear X113
   replace G := Mod.trans' G m113 (fun _ h _ => h) (fun i h hl => by first | exact h | omega | (dsimp only at h ⊢; omega))
   replace RD := RD.md m113
   replace OY := OY.md m113
   replace hCF := hCF.md m113
   replace hRF := hRF.md m113
   replace B4 := B4.md m113
   replace B101 := B101.md m113
   have zm113 := m113.size
   refine S_nl rfl rfl ?_
   refine th_n (hK34 _ _ ?_)
   clear hK34 K34
   refine wp_ret ?_
   refine ret_rc (cs := [_, _]) U26 rfl sz26 rfl rfl (B1.row (by rfl)) ?_
   first | exact ⟨_, _, _, _, _, _, _, _, rfl, by simp, by simp, sL.size, by omega, hCF.weak (fun i hi => by first | omega | (dsimp only at hi ⊢; omega)), hRF.weak (fun i hi => by first | omega | (dsimp only at hi ⊢; omega)), RD, G⟩ | exact ⟨_, _, _, _, _, _, _, _, rfl, by simp, by simp, sL.root _ _, by omega, hCF.weak (fun i hi => by first | omega | (dsimp only at hi ⊢; omega)), hRF.weak (fun i hi => by first | omega | (dsimp only at hi ⊢; omega)), RD, G⟩ | exact ⟨_, _, _, _, _, _, _, _, rfl, by simp, by simp, sL.more (by simp), by omega, hCF.weak (fun i hi => by first | omega | (dsimp only at hi ⊢; omega)), hRF.weak (fun i hi => by first | omega | (dsimp only at hi ⊢; omega)), RD, G⟩ | exact ⟨_, _, _, _, _, _, _, _, rfl, by simp, by simp, sL.rest, by omega, hCF.weak (fun i hi => by first | omega | (dsimp only at hi ⊢; omega)), hRF.weak (fun i hi => by first | omega | (dsimp only at hi ⊢; omega)), RD, G⟩
  refine E_bs1 (cs := [_, _, _]) (i := 8) rfl U23 zr50 sz50 rfl rfl rfl ?_
  intro b114 w114 fb114 g114 B114
  refine ⟨GS51.grow g114, ?_⟩
  have lb114 := B114.lt
  replace OX := OX.grow g114
  replace RD := RD.grow g114
  replace G := G.grow g114
  replace GS51 := GS51.grow g114
  replace B1 := B1.grow g114
  replace B4 := B4.grow g114
  replace B101 := B101.grow g114
  have zg114 := g114.size
  refine D_1 (i := 1) (by kernel_rfl) ?_
  refine E_val (i := 1) rfl (Y_load U23 rfl rfl (B4.at (by rfl))) GS51 ?_
  refine D_1 (i := 9) (by kernel_rfl) ?_
  refine E_app2 (i := 9) rfl U23 zr50 sz50 by50 rfl rfl OX.row rfl (Src.blk B114) (by simp [Value.oneCell']) (by omega) (Pr' := (fun i => w.heap.size ≤ i ∧ i ≠ b1 ∧ i ≠ b4)) (fun i hi => by first | omega | (dsimp only at hi ⊢; omega)) (by first | omega | (dsimp only; omega)) ?_
  intro A116 cap116 w116 X116 m116 n116
  have OY := OX.add hne (z := ⟨true, xv, []⟩) (OI.nil No _ _ none) (fun i hi => by first | exact hi.elim | omega | (dsimp only at hi ⊢; omega)) n116 X116 (fun i hi => by first | omega | (dsimp only at hi ⊢; omega)) (fun i hi => by first | exact hi.elim | omega | (dsimp only at hi ⊢; omega))
  replace G := Mod.trans' G m116 (fun _ h _ => h) (fun i h hl => by first | exact h | omega | (dsimp only at h ⊢; omega))
  replace GS51 := GS51.trn m116
  replace RD := RD.md m116
  replace B1 := B1.md m116
  replace B4 := B4.md m116
  replace B101 := B101.md m116
  have zm116 := m116.size
  have hCF := OY.rc
  have hRF := OY.r1
  refine ⟨GS51, ?_⟩
  refine Dq (i := 10) rfl GS51 (fun _ _ => Y_field U26 rfl fz26_0 (by decide) rfl) ?_
  refine D_1 (i := 11) (by kernel_rfl) ?_
  refine E_stM (pre := []) (old := [_]) (post := [_]) (vs := [_]) (i := 11) rfl sz23 rfl rfl rfl (by first | rfl | assumption) B4 rfl rfl ?_
  intro w117 m117 X117
  replace B4 := Blk.eq (ys := [_, _]) X117 rfl
  clear X117
  replace G := Mod.trans' G m117 (fun _ h _ => h) (fun i h hl => by first | exact h | omega | (dsimp only at h ⊢; omega))
  replace GS51 := GS51.trn m117
  replace RD := RD.md m117
  replace OY := OY.md m117
  replace hCF := hCF.md m117
  replace hRF := hRF.md m117
  replace B1 := B1.md m117
  replace B101 := B101.md m117
  have zm117 := m117.size
  refine ⟨GS51, ?_⟩
  refine D_en (by kernel_rfl) rfl rfl ?_
  refine ib_n ?_
  refine th_n (hK13 _ _ ?_)
  clear hK13 K13
  refine wp_seq_k fun K35 hK35 => ?_
  refine Sb 142 rfl ?_
  refine S_val (Y_loadS U26 rfl sz26 rfl (B4.row (by rfl))) ?_
  refine S_stM (pre := []) (old := [_, _]) (post := []) (vs := [_, _]) sz26 rfl rfl rfl (by first | rfl | assumption) B1 rfl rfl ?_
  intro w118 m118 X118
  replace B1 := Blk.eq (ys := [_, _]) X118 rfl
  clear X118
  replace G := Mod.trans' G m118 (fun _ h _ => h) (fun i h hl => by first | exact h | omega | (dsimp only at h ⊢; omega))
  replace RD := RD.md m118
  replace OY := OY.md m118
  replace hCF := hCF.md m118
  replace hRF := hRF.md m118
  replace B4 := B4.md m118
  replace B101 := B101.md m118
  have zm118 := m118.size
  refine S_nl rfl rfl ?_
  refine th_n (hK35 _ _ ?_)
  clear hK35 K35
  refine wp_ret ?_
  refine ret_rc (cs := [_, _]) U26 rfl sz26 rfl rfl (B1.row (by rfl)) ?_
  first | exact ⟨_, _, _, _, _, _, _, _, rfl, by simp, by simp, sL.size, by omega, hCF.weak (fun i hi => by first | omega | (dsimp only at hi ⊢; omega)), hRF.weak (fun i hi => by first | omega | (dsimp only at hi ⊢; omega)), RD, G⟩ | exact ⟨_, _, _, _, _, _, _, _, rfl, by simp, by simp, sL.root _ _, by omega, hCF.weak (fun i hi => by first | omega | (dsimp only at hi ⊢; omega)), hRF.weak (fun i hi => by first | omega | (dsimp only at hi ⊢; omega)), RD, G⟩ | exact ⟨_, _, _, _, _, _, _, _, rfl, by simp, by simp, sL.more (by simp), by omega, hCF.weak (fun i hi => by first | omega | (dsimp only at hi ⊢; omega)), hRF.weak (fun i hi => by first | omega | (dsimp only at hi ⊢; omega)), RD, G⟩ | exact ⟨_, _, _, _, _, _, _, _, rfl, by simp, by simp, sL.rest, by omega, hCF.weak (fun i hi => by first | omega | (dsimp only at hi ⊢; omega)), hRF.weak (fun i hi => by first | omega | (dsimp only at hi ⊢; omega)), RD, G⟩
 first | with_reducible (replace hb1 := nb_nf hb1) | with_reducible (replace hb1 := nb_tf hb1) | with_reducible (replace hb1 := nb_bf hb1) | skip
 have h41 := sL.le
 have hCF := OX.rc
 have hRF := OX.r1
 refine wp_skip ?_
 refine th_n (hK13 _ _ ?_)
 clear hK13 K13
 refine wp_seq_k fun K36 hK36 => ?_
 refine Sb 142 rfl ?_
 refine S_val (Y_loadS U26 rfl sz26 rfl (B4.row (by rfl))) ?_
 refine S_stM (pre := []) (old := [_, _]) (post := []) (vs := [_, _]) sz26 rfl rfl rfl (by first | rfl | assumption) B1 rfl rfl ?_
 intro w119 m119 X119
 replace B1 := Blk.eq (ys := [_, _]) X119 rfl
 clear X119
 replace G := Mod.trans' G m119 (fun _ h _ => h) (fun i h hl => by first | exact h | omega | (dsimp only at h ⊢; omega))
 replace OX := OX.md m119
 replace RD := RD.md m119
 replace hCF := hCF.md m119
 replace hRF := hRF.md m119
 replace B4 := B4.md m119
 have zm119 := m119.size
 refine S_nl rfl rfl ?_
 refine th_n (hK36 _ _ ?_)
 clear hK36 K36
 refine wp_ret ?_
 refine ret_rc (cs := [_, _]) U26 rfl sz26 rfl rfl (B1.row (by rfl)) ?_
 first | exact ⟨_, _, _, _, _, _, _, _, rfl, by simp, by simp, sL.size, by omega, hCF.weak (fun i hi => by first | omega | (dsimp only at hi ⊢; omega)), hRF.weak (fun i hi => by first | omega | (dsimp only at hi ⊢; omega)), RD, G⟩ | exact ⟨_, _, _, _, _, _, _, _, rfl, by simp, by simp, sL.root _ _, by omega, hCF.weak (fun i hi => by first | omega | (dsimp only at hi ⊢; omega)), hRF.weak (fun i hi => by first | omega | (dsimp only at hi ⊢; omega)), RD, G⟩ | exact ⟨_, _, _, _, _, _, _, _, rfl, by simp, by simp, sL.more (by simp), by omega, hCF.weak (fun i hi => by first | omega | (dsimp only at hi ⊢; omega)), hRF.weak (fun i hi => by first | omega | (dsimp only at hi ⊢; omega)), RD, G⟩ | exact ⟨_, _, _, _, _, _, _, _, rfl, by simp, by simp, sL.rest, by omega, hCF.weak (fun i hi => by first | omega | (dsimp only at hi ⊢; omega)), hRF.weak (fun i hi => by first | omega | (dsimp only at hi ⊢; omega)), RD, G⟩
end
/-! WalkX -/
section
open Go Go.RowKit
attribute [local irreducible] wpList wpAnyH Code.wp dOp
set_option maxHeartbeats 400000 in
set_option maxRecDepth 20000 in
theorem impl_isTotal_c (n : Int) (w : World) :
    Calls Try.prog 77 #[.int .i64 n] w (Ret fun v w' => v = .bool (decide (1 ≤ n ∧ n ≤ 256)) ∧ Grow w w') := by
 refine enter Try.func77 rfl Try.ntmps77 (L := [_,_,_,_,_,_,_,_,_]) rfl ?_
 have G := Mod.refl No w
 refine wp_seq_k fun K1 hK1 => ?_
 refine Sb 9 rfl ?_
 refine Sas rfl ?_
 refine S_nl rfl rfl ?_
 refine th_n (hK1 _ _ ?_)
 clear hK1 K1
 refine wp_seq_k fun K2 hK2 => ?_
 refine Sb 9 rfl ?_
 refine Smv rfl ?_
 refine S_val (Y_geq rfl rfl) ?_
 refine Smv rfl ?_
 refine S_g 5 rfl (fun hb1 => ?_) (fun hb1 => ?_)
 ·
  replace hb1 := nb_tt hb1
  refine S_on rfl rfl ?_
  refine Smv rfl ?_
  refine S_on rfl rfl ?_
  refine S_val (Y_leq rfl rfl) ?_
  refine S_val (Y_pickT rfl rfl) ?_
  refine Sas rfl ?_
  refine S_nl rfl rfl ?_
  refine th_n (hK2 _ _ ?_)
  clear hK2 K2
  refine wp_ret ?_
  refine ret_r1 rfl rfl ?_
  exact ⟨by first | exact bF (by omega) | exact bI (by omega), G⟩
 replace hb1 := nb_tf hb1
 refine S_off rfl rfl ?_
 refine S_off rfl rfl ?_
 refine S_val (Y_pickF rfl rfl) ?_
 refine Sas rfl ?_
 refine S_nl rfl rfl ?_
 refine th_n (hK2 _ _ ?_)
 clear hK2 K2
 refine wp_ret ?_
 refine ret_r1 rfl rfl ?_
 exact ⟨by first | exact bF (by omega) | exact bI (by omega), G⟩
set_option maxHeartbeats 400000 in
set_option maxRecDepth 20000 in
theorem impl_BlocksValid_c (b : Nat) (w : World) (B : Blk w b 62 [.int .i64 0, .int .i64 3, .bool false].toArray) :
    Calls Try.prog 59 #[.slice (some ⟨b, 0, none⟩) 1 1, .int .i64 3] w (Ret fun v w' => v = .bool true ∧ Grow w w') := by
 refine enter Try.func59 rfl Try.ntmps59 (L := [_,_,_,_,_,_,_,_,_,_,_,_,_,_,_,_,_,_,_,_,_,_,_,_,_,_,_,_,_,_,_,_,_,_,_,_,_,_,_,_,_,_,_,_,_,_,_,_,_,_,_,_,_,_,_,_,_,_,_,_,_]) rfl ?_
 have G := Mod.refl No w
 have B0 := B
 refine wp_seq_k fun K1 hK1 => ?_
 refine Sb 61 rfl ?_
 refine Sas rfl ?_
 refine S_nl rfl rfl ?_
 refine th_n (hK1 _ _ ?_)
 clear hK1 K1
 refine wp_seq_k fun K2 hK2 => ?_
 refine wp_seq_k fun K3 hK3 => ?_
 refine Sb 61 rfl ?_
 refine Smv rfl ?_
 refine S_call rfl en77 (impl_isTotal_c _ _) ?_
 rintro v1 w1 ⟨rfl, g1⟩
 replace B := B.grow g1
 replace G := G.grow g1
 have zg1 := g1.size
 refine S_val (Y_not rfl) ?_
 refine S_nl rfl rfl ?_
 refine th_n (hK3 _ _ ?_)
 clear hK3 K3
 refine S_if rfl (fun hb1 => ?_) (fun hb1 => ?_)
 ·
  first | with_reducible (replace hb1 := nb_nt hb1) | with_reducible (replace hb1 := nb_tt hb1) | with_reducible (replace hb1 := nb_bt hb1) | skip
  exact absurd hb1 (by decide)
 first | with_reducible (replace hb1 := nb_nf hb1) | with_reducible (replace hb1 := nb_tf hb1) | with_reducible (replace hb1 := nb_bf hb1) | skip
 refine wp_skip ?_
 refine th_n (hK2 _ _ ?_)
 clear hK2 K2
 refine wp_seq_k fun K4 hK4 => ?_
 refine Sb 61 rfl ?_
 refine Sas rfl ?_
 refine S_nl rfl rfl ?_
 refine th_n (hK4 _ _ ?_)
 clear hK4 K4
 refine wp_seq_k fun K5 hK5 => ?_
 refine wp_seq_k fun K6 hK6 => ?_
 refine Sb 61 rfl ?_
 refine Smv rfl ?_
 refine S_val (Y_len U63 rfl) ?_
 refine Smv rfl ?_
 refine S_nl rfl rfl ?_
 refine th_n (hK6 _ _ ?_)
 clear hK6 K6
 refine wp_block ?_
 go_loopw [5, 13] (fun u5 u13 wr => (∃ k e : Nat, u13 = .int .i64 k ∧ u5 = .int .i64 e ∧ ((k = 0 ∧ e = 0) ∨ (k = 1 ∧ e = 3))) ∧ Mod No w1 wr) (fun u5 u13 wr => 1 - (intOf u13).toNat)
 case atStart =>
  refine ⟨?_, Mod.refl _ _⟩
  exact ⟨0, 0, rfl, rfl, by omega⟩
 case round =>
  obtain ⟨w2, rfl⟩ : ∃ x : World, x = wr := ⟨_, rfl⟩
  obtain ⟨hrel, g2⟩ := hrel
  replace B := B.grow g2
  replace G := G.grow g2
  have zg2 := g2.size
  obtain ⟨k, e, rfl, rfl, hke0⟩ := hrel
  have GL2 := g2
  refine wp_seq_k fun K7 hK7 => ?_
  refine Sb 61 rfl ?_
  refine S_val (Y_lss rfl rfl) ?_
  refine S_nl rfl rfl ?_
  refine th_n (hK7 _ _ ?_)
  clear hK7 K7
  refine wp_seq_k fun K8 hK8 => ?_
  refine S_if rfl (fun hb2 => ?_) (fun hb2 => ?_)
  ·
   replace hb2 := nb_tt hb2
   have hke : k = 0 ∧ e = 0 := by omega
   obtain ⟨rfl, rfl⟩ := hke
   have cc9 : CellsAt w2 b (0 + 0 * 3) [.int .i64 0, .int .i64 3, .bool false] := B.row rfl
   refine wp_skip ?_
   refine th_n (hK8 _ _ ?_)
   clear hK8 K8
   refine wp_seq_k fun K9 hK9 => ?_
   refine wp_block ?_
   refine wp_seq_k fun K10 hK10 => ?_
   refine Sb 61 rfl ?_
   refine Smv rfl ?_
   refine S_val (Y_index U63 sz62 rfl rfl (by first | assumption | omega)) ?_
   refine S_val (Y_loadS U62 rfl sz62 rfl (by first | assumption | skip)) ?_
   refine S_alloc (cs := [_, _, _]) zr62 rfl ?_
   intro b3 w3 fb3 g3 B3
   have lb3 := B3.lt
   replace B := B.grow g3
   replace G := G.grow g3
   replace GL2 := GL2.grow g3
   replace cc9 := cc9.grow g3
   have zg3 := g3.size
   refine Sas rfl ?_
   refine S_stM (pre := []) (old := [_, _, _]) (post := []) (vs := [_, _, _]) sz62 rfl rfl rfl (by first | rfl | assumption) B3 rfl rfl ?_
   intro w4 m4 X4
   replace B3 := Blk.eq (ys := [_, _, _]) X4 rfl
   clear X4
   replace G := G.abv m4
   first | replace GL2 := GL2.abv m4 | try clear GL2
   replace B := B0.grow G
   clear cc9
   have zm4 := m4.size
   refine S_nl rfl rfl ?_
   refine th_n (hK10 _ _ ?_)
   clear hK10 K10
   refine wp_seq_k fun K11 hK11 => ?_
   refine wp_seq_k fun K12 hK12 => ?_
   refine Sb 61 rfl ?_
   refine S_val (Y_field U62 rfl fz62_0 (by decide) rfl) ?_
   refine S_val (Y_load U3 rfl rfl (B3.at (by rfl))) ?_
   refine Smv rfl ?_
   refine S_val (Y_neq rfl rfl) ?_
   refine Smv rfl ?_
   refine S_g 22 rfl (fun hb3 => ?_) (fun hb3 => ?_)
   ·
    replace hb3 := nb_nt hb3
    exact absurd rfl hb3
   replace hb3 := nb_nf hb3
   refine S_on rfl rfl ?_
   refine S_val (Y_field U62 rfl fz62_1 (by decide) rfl) ?_
   refine S_on rfl rfl ?_
   refine S_val (Y_load U3 rfl rfl (B3.at (by rfl))) ?_
   refine S_on rfl rfl ?_
   refine S_val (Y_lss rfl rfl) ?_
   refine S_val (Y_pickF rfl rfl) ?_
   refine Smv rfl ?_
   refine S_g 27 rfl (fun hb4 => ?_) (fun hb4 => ?_)
   ·
    first | with_reducible (replace hb4 := nb_nt hb4) | with_reducible (replace hb4 := nb_tt hb4) | with_reducible (replace hb4 := nb_bt hb4) | skip
    exact absurd hb4 (by decide)
   first | with_reducible (replace hb4 := nb_nf hb4) | with_reducible (replace hb4 := nb_tf hb4) | with_reducible (replace hb4 := nb_bf hb4) | skip
   refine S_on rfl rfl ?_
   refine S_val (Y_field U62 rfl fz62_1 (by decide) rfl) ?_
   refine S_on rfl rfl ?_
   refine S_val (Y_load U3 rfl rfl (B3.at (by rfl))) ?_
   refine S_on rfl rfl ?_
   refine Smv rfl ?_
   refine S_on rfl rfl ?_
   refine Smv rfl ?_
   refine S_on rfl rfl ?_
   refine S_val (Y_sub rfl rfl rfl (by omega) (by omega)) ?_
   refine S_on rfl rfl ?_
   refine S_val (Y_gtr rfl rfl) ?_
   refine S_val (Y_pickF rfl rfl) ?_
   refine Smv rfl ?_
   refine S_g 35 rfl (fun hb5 => ?_) (fun hb5 => ?_)
   ·
    first | with_reducible (replace hb5 := nb_nt hb5) | with_reducible (replace hb5 := nb_tt hb5) | with_reducible (replace hb5 := nb_bt hb5) | skip
    exact absurd hb5 (by decide)
   first | with_reducible (replace hb5 := nb_nf hb5) | with_reducible (replace hb5 := nb_tf hb5) | with_reducible (replace hb5 := nb_bf hb5) | skip
   refine S_on rfl rfl ?_
   refine Smv rfl ?_
   refine S_on rfl rfl ?_
   refine S_val (Y_gtr rfl rfl) ?_
   refine S_on rfl rfl ?_
   refine Smv rfl ?_
   refine S_g 38 rfl (fun hb6 => ?_) (fun hb6 => ?_)
   ·
    replace hb6 := nb_tt hb6
    exact absurd hb6 (by decide)
   replace hb6 := nb_tf hb6
   refine S_off rfl rfl ?_
   refine S_off rfl rfl ?_
   refine S_off rfl rfl ?_
   refine S_on rfl rfl ?_
   refine S_val (Y_pickF rfl rfl) ?_
   refine S_on rfl rfl ?_
   refine Smv rfl ?_
   refine S_off rfl rfl ?_
   refine S_off rfl rfl ?_
   refine S_off rfl rfl ?_
   refine S_off rfl rfl ?_
   refine S_off rfl rfl ?_
   refine S_off rfl rfl ?_
   refine S_off rfl rfl ?_
   refine S_on rfl rfl ?_
   refine S_val (Y_pickF rfl rfl) ?_
   refine S_val (Y_pickF rfl rfl) ?_
   refine S_nl rfl rfl ?_
   refine th_n (hK12 _ _ ?_)
   clear hK12 K12
   refine S_ifF rfl ?_
   refine wp_skip ?_
   refine th_n (hK11 _ _ ?_)
   clear hK11 K11
   refine Sb 61 rfl ?_
   refine Smv rfl ?_
   refine S_val (Y_field U62 rfl fz62_1 (by decide) rfl) ?_
   refine S_val (Y_load U3 rfl rfl (B3.at (by rfl))) ?_
   refine S_val (Y_add rfl rfl rfl (by omega) (by omega)) ?_
   refine Sas rfl ?_
   refine S_nl rfl rfl ?_
   refine ib_n ?_
   refine th_n (hK9 _ _ ?_)
   clear hK9 K9
   refine Sb 61 rfl ?_
   refine S_val (Y_inc rfl rfl (by omega)) ?_
   refine Smv rfl ?_
   refine S_nl rfl rfl ?_
   refine th_n ?_
   go_roundw
   case rel =>
    refine ⟨?_, GL2⟩
    exact ⟨1, 3, rfl, rfl, by omega⟩
   case measure =>
    exact dec_nat (by omega)
  replace hb2 := nb_tf hb2
  refine wp_exit ?_
  refine th_x ?_
  try clear GL2
  refine th_x ?_
  refine ib_e ?_
  refine th_n (hK5 _ _ ?_)
  clear hK8 K8 hK5 K5
  refine wp_seq_k fun K13 hK13 => ?_
  refine Sb 61 rfl ?_
  refine Smv rfl ?_
  refine Smv rfl ?_
  refine S_val (Y_eql rfl rfl) ?_
  refine Sas rfl ?_
  refine S_nl rfl rfl ?_
  refine th_n (hK13 _ _ ?_)
  clear hK13 K13
  refine wp_ret ?_
  refine ret_r1 rfl rfl ?_
  have hke : k = 1 ∧ e = 3 := by omega
  obtain ⟨rfl, rfl⟩ := hke
  exact ⟨rfl, G⟩
set_option maxHeartbeats 400000 in
set_option maxRecDepth 20000 in
theorem impl_FreeWords_c (b : Nat) (w : World) (B : Blk w b 62 [.int .i64 0, .int .i64 3, .bool false].toArray) :
    Calls Try.prog 31 #[.slice (some ⟨b, 0, none⟩) 1 1, .int .i64 3] w (Ret fun v w' => v = .int .i64 3 ∧ Grow w w') := by
 refine enter Try.func31 rfl Try.ntmps31 (L := [_,_,_,_,_,_,_,_,_,_,_,_,_,_,_,_,_,_,_,_,_,_,_,_,_,_,_]) rfl ?_
 have G := Mod.refl No w
 have B0 := B
 refine wp_seq_k fun K1 hK1 => ?_
 refine Sb 27 rfl ?_
 refine Sas rfl ?_
 refine S_nl rfl rfl ?_
 refine th_n (hK1 _ _ ?_)
 clear hK1 K1
 refine wp_seq_k fun K2 hK2 => ?_
 refine wp_seq_k fun K3 hK3 => ?_
 refine Sb 27 rfl ?_
 refine Smv rfl ?_
 refine Smv rfl ?_
 refine S_call rfl en59 (impl_BlocksValid_c _ _ (by assumption)) ?_
 rintro v1 w1 ⟨rfl, g1⟩
 replace B := B.grow g1
 replace G := G.grow g1
 have zg1 := g1.size
 refine S_val (Y_not rfl) ?_
 refine S_nl rfl rfl ?_
 refine th_n (hK3 _ _ ?_)
 clear hK3 K3
 refine S_if rfl (fun hb1 => ?_) (fun hb1 => ?_)
 ·
  first | with_reducible (replace hb1 := nb_nt hb1) | with_reducible (replace hb1 := nb_tt hb1) | with_reducible (replace hb1 := nb_bt hb1) | skip
  exact absurd hb1 (by decide)
 first | with_reducible (replace hb1 := nb_nf hb1) | with_reducible (replace hb1 := nb_tf hb1) | with_reducible (replace hb1 := nb_bf hb1) | skip
 refine wp_skip ?_
 refine th_n (hK2 _ _ ?_)
 clear hK2 K2
 refine wp_seq_k fun K4 hK4 => ?_
 refine Sb 27 rfl ?_
 refine Sas rfl ?_
 refine S_nl rfl rfl ?_
 refine th_n (hK4 _ _ ?_)
 clear hK4 K4
 refine wp_seq_k fun K5 hK5 => ?_
 refine wp_seq_k fun K6 hK6 => ?_
 refine Sb 27 rfl ?_
 refine Smv rfl ?_
 refine S_val (Y_len U63 rfl) ?_
 refine Smv rfl ?_
 refine S_nl rfl rfl ?_
 refine th_n (hK6 _ _ ?_)
 clear hK6 K6
 refine wp_block ?_
 go_loopw [5, 14] (fun u5 u14 wr => (∃ k e : Nat, u14 = .int .i64 k ∧ u5 = .int .i64 e ∧ ((k = 0 ∧ e = 0) ∨ (k = 1 ∧ e = 3))) ∧ Mod No w1 wr) (fun u5 u14 wr => 1 - (intOf u14).toNat)
 case atStart =>
  refine ⟨?_, Mod.refl _ _⟩
  exact ⟨0, 0, rfl, rfl, by omega⟩
 case round =>
  obtain ⟨w2, rfl⟩ : ∃ x : World, x = wr := ⟨_, rfl⟩
  obtain ⟨hrel, g2⟩ := hrel
  replace B := B.grow g2
  replace G := G.grow g2
  have zg2 := g2.size
  obtain ⟨k, e, rfl, rfl, hke0⟩ := hrel
  have GL2 := g2
  refine wp_seq_k fun K7 hK7 => ?_
  refine Sb 27 rfl ?_
  refine S_val (Y_lss rfl rfl) ?_
  refine S_nl rfl rfl ?_
  refine th_n (hK7 _ _ ?_)
  clear hK7 K7
  refine wp_seq_k fun K8 hK8 => ?_
  refine S_if rfl (fun hb2 => ?_) (fun hb2 => ?_)
  ·
   replace hb2 := nb_tt hb2
   have hke : k = 0 ∧ e = 0 := by omega
   obtain ⟨rfl, rfl⟩ := hke
   have cc9 : CellsAt w2 b (0 + 0 * 3) [.int .i64 0, .int .i64 3, .bool false] := B.row rfl
   refine wp_skip ?_
   refine th_n (hK8 _ _ ?_)
   clear hK8 K8
   refine wp_seq_k fun K9 hK9 => ?_
   refine wp_block ?_
   refine wp_seq_k fun K10 hK10 => ?_
   refine Sb 27 rfl ?_
   refine S_val (Y_index U63 sz62 rfl rfl (by first | assumption | omega)) ?_
   refine S_val (Y_loadS U62 rfl sz62 rfl (by first | assumption | skip)) ?_
   refine S_alloc (cs := [_, _, _]) zr62 rfl ?_
   intro b3 w3 fb3 g3 B3
   have lb3 := B3.lt
   replace B := B.grow g3
   replace G := G.grow g3
   replace GL2 := GL2.grow g3
   replace cc9 := cc9.grow g3
   have zg3 := g3.size
   refine S_stM (pre := []) (old := [_, _, _]) (post := []) (vs := [_, _, _]) sz62 rfl rfl rfl (by first | rfl | assumption) B3 rfl rfl ?_
   intro w4 m4 X4
   replace B3 := Blk.eq (ys := [_, _, _]) X4 rfl
   clear X4
   replace G := G.abv m4
   first | replace GL2 := GL2.abv m4 | try clear GL2
   replace B := B0.grow G
   clear cc9
   have zm4 := m4.size
   refine S_nl rfl rfl ?_
   refine th_n (hK10 _ _ ?_)
   clear hK10 K10
   refine wp_seq_k fun K11 hK11 => ?_
   refine Sb 27 rfl ?_
   refine S_val (Y_field U62 rfl fz62_2 (by decide) rfl) ?_
   refine S_val (Y_load U4 rfl rfl (B3.at (by rfl))) ?_
   refine S_val (Y_not rfl) ?_
   refine S_nl rfl rfl ?_
   refine th_n (hK11 _ _ ?_)
   clear hK11 K11
   refine S_if rfl (fun hb3 => ?_) (fun hb3 => ?_)
   ·
    first | with_reducible (replace hb3 := nb_nt hb3) | with_reducible (replace hb3 := nb_tt hb3) | with_reducible (replace hb3 := nb_bt hb3) | skip
    refine Sb 27 rfl ?_
    refine Smv rfl ?_
    refine S_val (Y_field U62 rfl fz62_1 (by decide) rfl) ?_
    refine S_val (Y_load U3 rfl rfl (B3.at (by rfl))) ?_
    refine S_val (Y_add rfl rfl rfl (by omega) (by omega)) ?_
    refine Sas rfl ?_
    refine S_nl rfl rfl ?_
    refine ib_n ?_
    refine th_n (hK9 _ _ ?_)
    clear hK9 K9
    refine Sb 27 rfl ?_
    refine S_val (Y_inc rfl rfl (by omega)) ?_
    refine Smv rfl ?_
    refine S_nl rfl rfl ?_
    refine th_n ?_
    go_roundw
    case rel =>
     refine ⟨?_, GL2⟩
     exact ⟨1, 3, rfl, rfl, by omega⟩
    case measure =>
     exact dec_nat (by omega)
   first | with_reducible (replace hb3 := nb_nf hb3) | with_reducible (replace hb3 := nb_tf hb3) | with_reducible (replace hb3 := nb_bf hb3) | skip
   exact absurd hb3 (by decide)
  replace hb2 := nb_tf hb2
  refine wp_exit ?_
  refine th_x ?_
  try clear GL2
  refine th_x ?_
  refine ib_e ?_
  refine th_n (hK5 _ _ ?_)
  clear hK8 K8 hK5 K5
  refine wp_seq_k fun K12 hK12 => ?_
  refine Sb 27 rfl ?_
  refine Smv rfl ?_
  refine Sas rfl ?_
  refine S_nl rfl rfl ?_
  refine th_n (hK12 _ _ ?_)
  clear hK12 K12
  refine wp_ret ?_
  refine ret_r1 rfl rfl ?_
  have hke : k = 1 ∧ e = 3 := by omega
  obtain ⟨rfl, rfl⟩ := hke
  exact ⟨rfl, G⟩
set_option maxHeartbeats 400000 in
set_option maxRecDepth 20000 in
theorem laws_alive_c (w : World) :
    Calls Try.prog 9 #[] w (Ret fun v w' => v = .bool true ∧ Grow w w') := by
 refine enter Try.func9 rfl Try.ntmps9 (L := [_,_,_,_,_]) rfl ?_
 have G := Mod.refl No w
 refine wp_seq_k fun K1 hK1 => ?_
 refine Sb 5 rfl ?_
 refine Sas rfl ?_
 refine S_nl rfl rfl ?_
 refine th_n (hK1 _ _ ?_)
 clear hK1 K1
 refine wp_seq_k fun K2 hK2 => ?_
 refine Sb 5 rfl ?_
 refine S_val (Y_build (cs := [_, _, _]) zr62 pc62 rfl rfl) ?_
 refine S_bs1 (cs := [_, _, _]) U63 zr62 sz62 rfl rfl rfl ?_
 intro b1 w1 fb1 g1 B1
 have lb1 := B1.lt
 replace G := G.grow g1
 have zg1 := g1.size
 refine S_call rfl en31 (impl_FreeWords_c _ _ (by assumption)) ?_
 rintro v2 w2 ⟨rfl, g2⟩
 replace G := G.grow g2
 replace B1 := B1.grow g2
 have zg2 := g2.size
 refine S_val (Y_eql rfl rfl) ?_
 refine Sas rfl ?_
 refine S_nl rfl rfl ?_
 refine th_n (hK2 _ _ ?_)
 clear hK2 K2
 refine wp_ret ?_
 refine ret_r1 rfl rfl ?_
 exact ⟨rfl, G⟩
set_option maxHeartbeats 400000 in
set_option maxRecDepth 20000 in
theorem laws_sameInts_c (P1 P2 : Nat → Prop) (A B : Option Addr) (xs ys : List Int) (c d : Nat) (w : World) (hA : R1 P1 w A (ints xs)) (hB : R1 P2 w B (ints ys)) (hx : xs.length ≤ 9223372036854775807) :
    Calls Try.prog 30 #[.slice A xs.length c, .slice B ys.length d] w (Ret fun v w' => v = .bool (decide (xs = ys)) ∧ Grow w w') := by
 refine enter Try.func30 rfl Try.ntmps30 (L := [_,_,_,_,_,_,_,_,_,_,_,_,_,_,_,_,_,_,_,_,_,_,_,_,_,_]) rfl ?_
 have G := Mod.refl No w
 have hA0 := hA
 have hB0 := hB
 refine wp_seq_k fun K1 hK1 => ?_
 refine Sb 26 rfl ?_
 refine Sas rfl ?_
 refine S_nl rfl rfl ?_
 refine th_n (hK1 _ _ ?_)
 clear hK1 K1
 refine wp_seq_k fun K2 hK2 => ?_
 refine wp_seq_k fun K3 hK3 => ?_
 refine Sb 26 rfl ?_
 refine Smv rfl ?_
 refine S_val (Y_len U24 rfl) ?_
 refine Smv rfl ?_
 refine S_val (Y_len U24 rfl) ?_
 refine S_val (Y_neq rfl rfl) ?_
 refine S_nl rfl rfl ?_
 refine th_n (hK3 _ _ ?_)
 clear hK3 K3
 refine S_if rfl (fun hb1 => ?_) (fun hb1 => ?_)
 ·
  replace hb1 := nb_nt hb1
  refine wp_seq_k fun K4 hK4 => ?_
  refine Sb 26 rfl ?_
  refine Sas rfl ?_
  refine S_nl rfl rfl ?_
  refine th_n (hK4 _ _ ?_)
  clear hK4 K4
  refine wp_ret ?_
  refine th_r ?_
  clear hK2 K2
  refine ret_r1 rfl rfl ?_
  exact ⟨bF (fun e => hb1 (by rw [e])), G⟩
 replace hb1 := nb_nf hb1
 refine wp_skip ?_
 refine th_n (hK2 _ _ ?_)
 clear hK2 K2
 refine wp_seq_k fun K5 hK5 => ?_
 refine wp_seq_k fun K6 hK6 => ?_
 refine Sb 26 rfl ?_
 refine Sas rfl ?_
 refine S_nl rfl rfl ?_
 refine th_n (hK6 _ _ ?_)
 clear hK6 K6
 refine wp_block ?_
 go_loopw [5] (fun u5 wr => (∃ k : Nat, u5 = .int .i64 k ∧ k ≤ xs.length ∧ xs.take k = ys.take k) ∧ Mod No w wr) (fun u5 wr => xs.length - (intOf u5).toNat)
 case atStart =>
  refine ⟨?_, Mod.refl _ _⟩
  exact ⟨0, rfl, by omega, by simp⟩
 case round =>
  obtain ⟨w1, rfl⟩ : ∃ x : World, x = wr := ⟨_, rfl⟩
  obtain ⟨hrel, g1⟩ := hrel
  replace hA := hA.grow g1
  replace hB := hB.grow g1
  replace G := G.grow g1
  have zg1 := g1.size
  obtain ⟨k, rfl, hk, hs⟩ := hrel
  have GL1 := g1
  refine wp_seq_k fun K7 hK7 => ?_
  refine wp_seq_k fun K8 hK8 => ?_
  refine Sb 26 rfl ?_
  refine Smv rfl ?_
  refine Smv rfl ?_
  refine S_val (Y_len U24 rfl) ?_
  refine S_val (Y_lss rfl rfl) ?_
  refine S_nl rfl rfl ?_
  refine th_n (hK8 _ _ ?_)
  clear hK8 K8
  refine S_if rfl (fun hb2 => ?_) (fun hb2 => ?_)
  ·
   replace hb2 := nb_tt hb2
   refine wp_skip ?_
   refine th_n (hK7 _ _ ?_)
   clear hK7 K7
   refine wp_seq_k fun K9 hK9 => ?_
   refine wp_block ?_
   refine wp_seq_k fun K10 hK10 => ?_
   refine D_start 9 26 (fun w => Mod (No) w) follows rfl rfl ?_
   intro w2 g2
   replace hA := hA.grow g2
   replace hB := hB.grow g2
   replace G := G.grow g2
   replace GL1 := GL1.grow g2
   have zg2 := g2.size
   have GS2 := Mod.refl (No) w2
   obtain ⟨g1, o1, rfl, hp1, hc1⟩ := hA.int (k := k) (by omega)
   obtain ⟨g2, o2, rfl, hp2, hc2⟩ := hB.int (k := k) (by omega)
   refine Dq (i := 0) rfl GS2 (fun _ _ => Y_move rfl) ?_
   refine Dq (i := 1) rfl GS2 (fun _ _ => Y_move rfl) ?_
   refine Dq (i := 2) rfl GS2 (fun _ _ => Y_index U24 sz3 rfl rfl (by first | assumption | omega)) ?_
   refine Dq (i := 3) rfl GS2 (fun _ hs => Y_load U3 rfl rfl (by first | exact hs.cell0 (by assumption))) ?_
   refine Dq (i := 4) rfl GS2 (fun _ _ => Y_move rfl) ?_
   refine Dq (i := 5) rfl GS2 (fun _ _ => Y_move rfl) ?_
   refine Dq (i := 6) rfl GS2 (fun _ _ => Y_index U24 sz3 rfl rfl (by first | assumption | omega)) ?_
   refine Dq (i := 7) rfl GS2 (fun _ hs => Y_load U3 rfl rfl (by first | exact hs.cell0 (by assumption))) ?_
   refine Dq (i := 8) rfl GS2 (fun _ _ => Y_neq rfl rfl) ?_
   refine D_en (by kernel_rfl) rfl rfl ?_
   refine th_n (hK10 _ _ ?_)
   clear hK10 K10
   refine S_if rfl (fun hb3 => ?_) (fun hb3 => ?_)
   ·
    replace hb3 := nb_nt hb3
    refine wp_seq_k fun K11 hK11 => ?_
    refine Sb 26 rfl ?_
    refine Sas rfl ?_
    refine S_nl rfl rfl ?_
    refine th_n (hK11 _ _ ?_)
    clear hK11 K11
    refine wp_ret ?_
    refine ib_r ?_
    refine th_r ?_
    try clear GL1
    refine th_r ?_
    refine ib_r ?_
    refine th_r ?_
    clear hK9 K9 hK5 K5
    refine ret_r1 rfl rfl ?_
    exact ⟨bF (fun e => hb3 (by subst e; rfl)), G⟩
   replace hb3 := nb_nf hb3
   refine wp_skip ?_
   refine ib_n ?_
   refine th_n (hK9 _ _ ?_)
   clear hK9 K9
   refine Sb 26 rfl ?_
   refine Smv rfl ?_
   refine S_val (Y_inc rfl rfl (by omega)) ?_
   refine Sas rfl ?_
   refine S_nl rfl rfl ?_
   refine th_n ?_
   go_roundw
   case rel =>
    refine ⟨?_, GL1⟩
    exact ⟨k + 1, rfl, by omega, take_eq hs (by omega) (by omega) hb3⟩
   case measure =>
    exact dec_nat (by omega)
  replace hb2 := nb_tf hb2
  refine wp_exit ?_
  refine th_x ?_
  try clear GL1
  refine th_x ?_
  refine ib_e ?_
  refine th_n (hK5 _ _ ?_)
  clear hK7 K7 hK5 K5
  refine wp_seq_k fun K12 hK12 => ?_
  refine Sb 26 rfl ?_
  refine Sas rfl ?_
  refine S_nl rfl rfl ?_
  refine th_n (hK12 _ _ ?_)
  clear hK12 K12
  refine wp_ret ?_
  refine ret_r1 rfl rfl ?_
  exact ⟨bT (take_all hs (by omega) (by omega)), G⟩
set_option maxHeartbeats 400000 in
set_option maxRecDepth 20000 in
theorem laws_sameHeap_c (P1 P2 : Nat → Prop) (A B Aq Bq : Option Addr) (x y : LH) (c d c2 d2 : Nat) (w : World) (hA : RC P1 w A x.cells) (hB : R1 P1 w B (ints x.roots)) (hA2 : RC P2 w Aq y.cells) (hB2 : R1 P2 w Bq (ints y.roots)) (hz : hsize x ≤ 9223372036854775807) :
    Calls Try.prog 29 #[.agg #[.slice A x.cells.length c, .slice B x.roots.length d], .agg #[.slice Aq y.cells.length c2, .slice Bq y.roots.length d2]] w (Ret fun v w' => v = .bool (decide (x = y)) ∧ Grow w w') := by
 have hz1 := hsize_cells x
 have hz2 := hsize_roots x
 have hz3 : ∀ k (hk : k < x.cells.length), x.cells[k].refs.length ≤ 9223372036854775807 := fun k hk => Nat.le_trans (hsize_refs x hk) hz
 refine enter Try.func29 rfl Try.ntmps29 (L := [_,_,_,_,_,_,_,_,_,_,_,_,_,_,_,_,_,_,_,_,_,_,_,_,_,_,_,_,_,_,_,_,_,_,_,_,_,_,_,_,_,_,_,_,_,_,_,_,_,_,_,_,_,_,_,_,_,_,_,_,_,_,_,_,_,_,_,_,_]) rfl ?_
 have G := Mod.refl No w
 have hA0 := hA
 have hB0 := hB
 have hA20 := hA2
 have hB20 := hB2
 refine wp_seq_k fun K1 hK1 => ?_
 refine Sb 69 rfl ?_
 refine S_box (cs := [_, _]) rfl rfl ?_
 intro b1 w1 fb1 g1 B1
 have lb1 := B1.lt
 replace hA := hA.grow g1
 replace hB := hB.grow g1
 replace hA2 := hA2.grow g1
 replace hB2 := hB2.grow g1
 replace G := G.grow g1
 have zg1 := g1.size
 refine S_box (cs := [_, _]) rfl rfl ?_
 intro b2 w2 fb2 g2 B2
 have lb2 := B2.lt
 replace hA := hA.grow g2
 replace hB := hB.grow g2
 replace hA2 := hA2.grow g2
 replace hB2 := hB2.grow g2
 replace G := G.grow g2
 replace B1 := B1.grow g2
 have zg2 := g2.size
 refine Sas rfl ?_
 refine S_nl rfl rfl ?_
 refine th_n (hK1 _ _ ?_)
 clear hK1 K1
 refine wp_seq_k fun K2 hK2 => ?_
 refine wp_seq_k fun K3 hK3 => ?_
 refine Sb 69 rfl ?_
 refine S_val (Y_field U26 rfl fz26_0 (by decide) rfl) ?_
 refine S_val (Y_load U23 rfl rfl (B1.at (by rfl))) ?_
 refine S_val (Y_len U23 rfl) ?_
 refine S_val (Y_field U26 rfl fz26_0 (by decide) rfl) ?_
 refine S_val (Y_load U23 rfl rfl (B2.at (by rfl))) ?_
 refine S_val (Y_len U23 rfl) ?_
 refine S_val (Y_neq rfl rfl) ?_
 refine S_nl rfl rfl ?_
 refine th_n (hK3 _ _ ?_)
 clear hK3 K3
 refine S_if rfl (fun hb1 => ?_) (fun hb1 => ?_)
 ·
  replace hb1 := nb_nt hb1
  refine wp_seq_k fun K4 hK4 => ?_
  refine Sb 69 rfl ?_
  refine Sas rfl ?_
  refine S_nl rfl rfl ?_
  refine th_n (hK4 _ _ ?_)
  clear hK4 K4
  refine wp_ret ?_
  refine th_r ?_
  clear hK2 K2
  refine ret_r1 rfl rfl ?_
  exact ⟨bF (fun e => hb1 (by rw [e])), G⟩
 replace hb1 := nb_nf hb1
 refine wp_skip ?_
 refine th_n (hK2 _ _ ?_)
 clear hK2 K2
 refine wp_seq_k fun K5 hK5 => ?_
 refine wp_seq_k fun K6 hK6 => ?_
 refine Sb 69 rfl ?_
 refine Sas rfl ?_
 refine S_nl rfl rfl ?_
 refine th_n (hK6 _ _ ?_)
 clear hK6 K6
 refine wp_block ?_
 go_loopw [5] (fun u5 wr => (∃ k : Nat, u5 = .int .i64 k ∧ k ≤ x.cells.length ∧ x.cells.take k = y.cells.take k) ∧ Mod No w2 wr) (fun u5 wr => x.cells.length - (intOf u5).toNat)
 case atStart =>
  refine ⟨?_, Mod.refl _ _⟩
  exact ⟨0, rfl, by omega, by simp⟩
 case round =>
  obtain ⟨w3, rfl⟩ : ∃ x : World, x = wr := ⟨_, rfl⟩
  obtain ⟨hrel, g3⟩ := hrel
  replace hA := hA.grow g3
  replace hB := hB.grow g3
  replace hA2 := hA2.grow g3
  replace hB2 := hB2.grow g3
  replace G := G.grow g3
  replace B1 := B1.grow g3
  replace B2 := B2.grow g3
  have zg3 := g3.size
  obtain ⟨k, rfl, hk, hs⟩ := hrel
  have GL3 := g3
  refine wp_seq_k fun K7 hK7 => ?_
  refine wp_seq_k fun K8 hK8 => ?_
  refine Sb 69 rfl ?_
  refine Smv rfl ?_
  refine S_val (Y_field U26 rfl fz26_0 (by decide) rfl) ?_
  refine S_val (Y_load U23 rfl rfl (B1.at (by rfl))) ?_
  refine S_val (Y_len U23 rfl) ?_
  refine S_val (Y_lss rfl rfl) ?_
  refine S_nl rfl rfl ?_
  refine th_n (hK8 _ _ ?_)
  clear hK8 K8
  refine S_if rfl (fun hb2 => ?_) (fun hb2 => ?_)
  ·
   replace hb2 := nb_tt hb2
   refine wp_skip ?_
   refine th_n (hK7 _ _ ?_)
   clear hK7 K7
   refine wp_seq_k fun K9 hK9 => ?_
   refine wp_block ?_
   refine wp_seq_k fun K10 hK10 => ?_
   refine D_start 44 69 (fun w => Mod (No) w) follows rfl rfl ?_
   intro w4 g4
   replace hA := hA.grow g4
   replace hB := hB.grow g4
   replace hA2 := hA2.grow g4
   replace hB2 := hB2.grow g4
   replace G := G.grow g4
   replace GL3 := GL3.grow g4
   replace B1 := B1.grow g4
   replace B2 := B2.grow g4
   have zg4 := g4.size
   have GS4 := Mod.refl (No) w4
   have hk1 : k < x.cells.length := by omega
   have hk2 : k < y.cells.length := by omega
   obtain ⟨g1, o1, E1, e1, rfl, hp1, cc1, hE1⟩ := hA.cell hk1
   obtain ⟨g2, o2, E2, e2, rfl, hp2, cc2, hE2⟩ := hA2.cell hk2
   have hr1 := hz3 k hk1
   have B1d4 := B1
   have B2d4 := B2
   refine Dq (i := 0) rfl GS4 (fun _ _ => Y_field U26 rfl fz26_0 (by decide) rfl) ?_
   refine Dq (i := 1) rfl GS4 (fun _ hs => Y_load U23 rfl rfl (hs.cell0 (B1.at (by rfl)))) ?_
   refine Dq (i := 2) rfl GS4 (fun _ _ => Y_move rfl) ?_
   refine Dq (i := 3) rfl GS4 (fun _ _ => Y_index U23 sz50 rfl rfl (by first | assumption | omega)) ?_
   refine Dq (i := 4) rfl GS4 (fun _ _ => Y_field U50 rfl fz50_0 (by decide) rfl) ?_
   refine Dq (i := 5) rfl GS4 (fun _ hs => Y_load U4 rfl rfl (by first | exact hs.cell0 (by assumption) | exact hs.cell0 (cc1.at (by rfl)) | exact hs.cell0 (cc2.at (by rfl)) | exact hs.cell0 (B1.at (by rfl)) | exact hs.cell0 (B2.at (by rfl)))) ?_
   refine Dq (i := 6) rfl GS4 (fun _ _ => Y_field U26 rfl fz26_0 (by decide) rfl) ?_
   refine Dq (i := 7) rfl GS4 (fun _ hs => Y_load U23 rfl rfl (hs.cell0 (B2.at (by rfl)))) ?_
   refine Dq (i := 8) rfl GS4 (fun _ _ => Y_move rfl) ?_
   refine Dq (i := 9) rfl GS4 (fun _ _ => Y_index U23 sz50 rfl rfl (by first | assumption | omega)) ?_
   refine Dq (i := 10) rfl GS4 (fun _ _ => Y_field U50 rfl fz50_0 (by decide) rfl) ?_
   refine Dq (i := 11) rfl GS4 (fun _ hs => Y_load U4 rfl rfl (by first | exact hs.cell0 (by assumption) | exact hs.cell0 (cc1.at (by rfl)) | exact hs.cell0 (cc2.at (by rfl)) | exact hs.cell0 (B1.at (by rfl)) | exact hs.cell0 (B2.at (by rfl)))) ?_
   refine Dq (i := 12) rfl GS4 (fun _ _ => Y_neb U4 rfl rfl) ?_
   refine Dq (i := 13) rfl GS4 (fun _ _ => Y_move rfl) ?_
   refine D_g 33 rfl (fun hb3 => ?_) (fun hb3 => ?_)
   ·
    replace hb3 := nb_nt hb3
    refine Dqoff (i := 14) rfl rfl rfl GS4 ?_
    refine Dqoff (i := 15) rfl rfl rfl GS4 ?_
    refine Dqoff (i := 16) rfl rfl rfl GS4 ?_
    refine Dqoff (i := 17) rfl rfl rfl GS4 ?_
    refine Dqoff (i := 18) rfl rfl rfl GS4 ?_
    refine Dqoff (i := 19) rfl rfl rfl GS4 ?_
    refine Dqoff (i := 20) rfl rfl rfl GS4 ?_
    refine Dqoff (i := 21) rfl rfl rfl GS4 ?_
    refine Dqoff (i := 22) rfl rfl rfl GS4 ?_
    refine Dqoff (i := 23) rfl rfl rfl GS4 ?_
    refine Dqoff (i := 24) rfl rfl rfl GS4 ?_
    refine Dqoff (i := 25) rfl rfl rfl GS4 ?_
    refine Dqoff (i := 26) rfl rfl rfl GS4 ?_
    refine Dq (i := 27) rfl GS4 (fun _ _ => Y_pickT rfl rfl) ?_
    refine Dq (i := 28) rfl GS4 (fun _ _ => Y_move rfl) ?_
    refine Dqoff (i := 29) rfl rfl rfl GS4 ?_
    refine Dqoff (i := 30) rfl rfl rfl GS4 ?_
    refine Dqoff (i := 31) rfl rfl rfl GS4 ?_
    refine Dqoff (i := 32) rfl rfl rfl GS4 ?_
    refine Dqoff (i := 33) rfl rfl rfl GS4 ?_
    refine Dqoff (i := 34) rfl rfl rfl GS4 ?_
    refine Dqoff (i := 35) rfl rfl rfl GS4 ?_
    refine Dqoff (i := 36) rfl rfl rfl GS4 ?_
    refine Dqoff (i := 37) rfl rfl rfl GS4 ?_
    refine Dqoff (i := 38) rfl rfl rfl GS4 ?_
    refine Dqoff (i := 39) rfl rfl rfl GS4 ?_
    refine Dqoff (i := 40) rfl rfl rfl GS4 ?_
    refine Dqoff (i := 41) rfl rfl rfl GS4 ?_
    refine Dqoff (i := 42) rfl rfl rfl GS4 ?_
    refine Dq (i := 43) rfl GS4 (fun _ _ => Y_pickT rfl rfl) ?_
    refine D_en (by kernel_rfl) rfl rfl ?_
    refine th_n (hK10 _ _ ?_)
    clear hK10 K10
    refine S_ifT rfl ?_
    refine wp_seq_k fun K11 hK11 => ?_
    refine Sb 69 rfl ?_
    refine Sas rfl ?_
    refine S_nl rfl rfl ?_
    refine th_n (hK11 _ _ ?_)
    clear hK11 K11
    refine wp_ret ?_
    refine ib_r ?_
    refine th_r ?_
    try clear GL3
    refine th_r ?_
    refine ib_r ?_
    refine th_r ?_
    clear hK9 K9 hK5 K5
    refine ret_r1 rfl rfl ?_
    exact ⟨bF (fun e => hb3 (by subst e; rfl)), G⟩
   replace hb3 := nb_nf hb3
   refine Dqon (i := 14) rfl rfl rfl GS4 (fun _ _ => Y_field U26 rfl fz26_0 (by decide) rfl) ?_
   refine Dqon (i := 15) rfl rfl rfl GS4 (fun _ hs => Y_load U23 rfl rfl (hs.cell0 (B1.at (by rfl)))) ?_
   refine Dqon (i := 16) rfl rfl rfl GS4 (fun _ _ => Y_move rfl) ?_
   refine Dqon (i := 17) rfl rfl rfl GS4 (fun _ _ => Y_index U23 sz50 rfl rfl (by first | assumption | omega)) ?_
   refine Dqon (i := 18) rfl rfl rfl GS4 (fun _ _ => Y_field U50 rfl fz50_1 (by decide) rfl) ?_
   refine Dqon (i := 19) rfl rfl rfl GS4 (fun _ hs => Y_load U3 rfl rfl (by first | exact hs.cell0 (by assumption) | exact hs.cell0 (cc1.at (by rfl)) | exact hs.cell0 (cc2.at (by rfl)) | exact hs.cell0 (B1.at (by rfl)) | exact hs.cell0 (B2.at (by rfl)))) ?_
   refine Dqon (i := 20) rfl rfl rfl GS4 (fun _ _ => Y_field U26 rfl fz26_0 (by decide) rfl) ?_
   refine Dqon (i := 21) rfl rfl rfl GS4 (fun _ hs => Y_load U23 rfl rfl (hs.cell0 (B2.at (by rfl)))) ?_
   refine Dqon (i := 22) rfl rfl rfl GS4 (fun _ _ => Y_move rfl) ?_
   refine Dqon (i := 23) rfl rfl rfl GS4 (fun _ _ => Y_index U23 sz50 rfl rfl (by first | assumption | omega)) ?_
   refine Dqon (i := 24) rfl rfl rfl GS4 (fun _ _ => Y_field U50 rfl fz50_1 (by decide) rfl) ?_
   refine Dqon (i := 25) rfl rfl rfl GS4 (fun _ hs => Y_load U3 rfl rfl (by first | exact hs.cell0 (by assumption) | exact hs.cell0 (cc1.at (by rfl)) | exact hs.cell0 (cc2.at (by rfl)) | exact hs.cell0 (B1.at (by rfl)) | exact hs.cell0 (B2.at (by rfl)))) ?_
   refine Dqon (i := 26) rfl rfl rfl GS4 (fun _ _ => Y_neq rfl rfl) ?_
   refine Dq (i := 27) rfl GS4 (fun _ _ => Y_pickF rfl rfl) ?_
   refine Dq (i := 28) rfl GS4 (fun _ _ => Y_move rfl) ?_
   refine D_g 48 rfl (fun hb4 => ?_) (fun hb4 => ?_)
   ·
    first | with_reducible (replace hb4 := nb_nt hb4) | with_reducible (replace hb4 := nb_tt hb4) | with_reducible (replace hb4 := nb_bt hb4) | skip
    refine Dqoff (i := 29) rfl rfl rfl GS4 ?_
    refine Dqoff (i := 30) rfl rfl rfl GS4 ?_
    refine Dqoff (i := 31) rfl rfl rfl GS4 ?_
    refine Dqoff (i := 32) rfl rfl rfl GS4 ?_
    refine Dqoff (i := 33) rfl rfl rfl GS4 ?_
    refine Dqoff (i := 34) rfl rfl rfl GS4 ?_
    refine Dqoff (i := 35) rfl rfl rfl GS4 ?_
    refine Dqoff (i := 36) rfl rfl rfl GS4 ?_
    refine Dqoff (i := 37) rfl rfl rfl GS4 ?_
    refine Dqoff (i := 38) rfl rfl rfl GS4 ?_
    refine Dqoff (i := 39) rfl rfl rfl GS4 ?_
    refine Dqoff (i := 40) rfl rfl rfl GS4 ?_
    refine Dqoff (i := 41) rfl rfl rfl GS4 ?_
    refine Dqoff (i := 42) rfl rfl rfl GS4 ?_
    refine Dq (i := 43) rfl GS4 (fun _ _ => Y_pickT rfl rfl) ?_
    refine D_en (by kernel_rfl) rfl rfl ?_
    refine th_n (hK10 _ _ ?_)
    clear hK10 K10
    refine S_ifT rfl ?_
    refine wp_seq_k fun K12 hK12 => ?_
    refine Sb 69 rfl ?_
    refine Sas rfl ?_
    refine S_nl rfl rfl ?_
    refine th_n (hK12 _ _ ?_)
    clear hK12 K12
    refine wp_ret ?_
    refine ib_r ?_
    refine th_r ?_
    try clear GL3
    refine th_r ?_
    refine ib_r ?_
    refine th_r ?_
    clear hK9 K9 hK5 K5
    refine ret_r1 rfl rfl ?_
    exact ⟨bF (fun e => hb4 (by subst e; rfl)), G⟩
   first | with_reducible (replace hb4 := nb_nf hb4) | with_reducible (replace hb4 := nb_tf hb4) | with_reducible (replace hb4 := nb_bf hb4) | skip
   refine Dqon (i := 29) rfl rfl rfl GS4 (fun _ _ => Y_field U26 rfl fz26_0 (by decide) rfl) ?_
   refine Dqon (i := 30) rfl rfl rfl GS4 (fun _ hs => Y_load U23 rfl rfl (hs.cell0 (B1.at (by rfl)))) ?_
   refine Dqon (i := 31) rfl rfl rfl GS4 (fun _ _ => Y_move rfl) ?_
   refine Dqon (i := 32) rfl rfl rfl GS4 (fun _ _ => Y_index U23 sz50 rfl rfl (by first | assumption | omega)) ?_
   refine Dqon (i := 33) rfl rfl rfl GS4 (fun _ _ => Y_field U50 rfl fz50_2 (by decide) rfl) ?_
   refine Dqon (i := 34) rfl rfl rfl GS4 (fun _ hs => Y_load U24 rfl rfl (by first | exact hs.cell0 (by assumption) | exact hs.cell0 (cc1.at (by rfl)) | exact hs.cell0 (cc2.at (by rfl)) | exact hs.cell0 (B1.at (by rfl)) | exact hs.cell0 (B2.at (by rfl)))) ?_
   refine Dqon (i := 35) rfl rfl rfl GS4 (fun _ _ => Y_field U26 rfl fz26_0 (by decide) rfl) ?_
   refine Dqon (i := 36) rfl rfl rfl GS4 (fun _ hs => Y_load U23 rfl rfl (hs.cell0 (B2.at (by rfl)))) ?_
   refine Dqon (i := 37) rfl rfl rfl GS4 (fun _ _ => Y_move rfl) ?_
   refine Dqon (i := 38) rfl rfl rfl GS4 (fun _ _ => Y_index U23 sz50 rfl rfl (by first | assumption | omega)) ?_
   refine Dqon (i := 39) rfl rfl rfl GS4 (fun _ _ => Y_field U50 rfl fz50_2 (by decide) rfl) ?_
   refine Dqon (i := 40) rfl rfl rfl GS4 (fun _ hs => Y_load U24 rfl rfl (by first | exact hs.cell0 (by assumption) | exact hs.cell0 (cc1.at (by rfl)) | exact hs.cell0 (cc2.at (by rfl)) | exact hs.cell0 (B1.at (by rfl)) | exact hs.cell0 (B2.at (by rfl)))) ?_
   refine D_1 (i := 41) (by kernel_rfl) ?_
   refine E_calln rfl rfl rfl rfl en30 (laws_sameInts_c _ _ _ _ _ _ _ _ _ (by assumption) (by assumption) (by omega)) ?_
   rintro v5 w5 ⟨rfl, g5⟩
   replace hA := hA.grow g5
   replace hB := hB.grow g5
   replace hA2 := hA2.grow g5
   replace hB2 := hB2.grow g5
   replace hE1 := hE1.grow g5
   replace hE2 := hE2.grow g5
   replace G := G.grow g5
   replace GL3 := GL3.grow g5
   replace GS4 := GS4.grow g5
   replace B1 := B1.grow g5
   replace B2 := B2.grow g5
   replace cc1 := cc1.grow g5
   replace cc2 := cc2.grow g5
   have zg5 := g5.size
   refine ⟨GS4, ?_⟩
   refine Dqon (i := 42) rfl rfl rfl GS4 (fun _ _ => Y_not rfl) ?_
   refine Dq (i := 43) rfl GS4 (fun _ _ => Y_pickF rfl rfl) ?_
   refine D_en (by kernel_rfl) rfl rfl ?_
   refine th_n (hK10 _ _ ?_)
   clear hK10 K10
   refine S_if rfl (fun hb5 => ?_) (fun hb5 => ?_)
   ·
    first | with_reducible (replace hb5 := nb_nt hb5) | with_reducible (replace hb5 := nb_tt hb5) | with_reducible (replace hb5 := nb_bt hb5) | skip
    refine wp_seq_k fun K13 hK13 => ?_
    refine Sb 69 rfl ?_
    refine Sas rfl ?_
    refine S_nl rfl rfl ?_
    refine th_n (hK13 _ _ ?_)
    clear hK13 K13
    refine wp_ret ?_
    refine ib_r ?_
    refine th_r ?_
    try clear GL3
    refine th_r ?_
    refine ib_r ?_
    refine th_r ?_
    clear hK9 K9 hK5 K5
    refine ret_r1 rfl rfl ?_
    exact ⟨bF (fun e => hb5 (by subst e; rfl)), G⟩
   first | with_reducible (replace hb5 := nb_nf hb5) | with_reducible (replace hb5 := nb_tf hb5) | with_reducible (replace hb5 := nb_bf hb5) | skip
   refine wp_skip ?_
   refine ib_n ?_
   refine th_n (hK9 _ _ ?_)
   clear hK9 K9
   refine Sb 69 rfl ?_
   refine Smv rfl ?_
   refine S_val (Y_inc rfl rfl (by omega)) ?_
   refine Sas rfl ?_
   refine S_nl rfl rfl ?_
   refine th_n ?_
   go_roundw
   case rel =>
    refine ⟨?_, GL3⟩
    exact ⟨k + 1, rfl, by omega, take_eq hs (by omega) (by omega) (lc_ext hb3 hb4 hb5)⟩
   case measure =>
    exact dec_nat (by omega)
  replace hb2 := nb_tf hb2
  refine wp_exit ?_
  refine th_x ?_
  try clear GL3
  refine th_x ?_
  refine ib_e ?_
  refine th_n (hK5 _ _ ?_)
  clear hK7 K7 hK5 K5
  refine wp_seq_k fun K14 hK14 => ?_
  refine Sb 69 rfl ?_
  refine S_val (Y_field U26 rfl fz26_1 (by decide) rfl) ?_
  refine S_val (Y_load U24 rfl rfl (B1.at (by rfl))) ?_
  refine S_val (Y_field U26 rfl fz26_1 (by decide) rfl) ?_
  refine S_val (Y_load U24 rfl rfl (B2.at (by rfl))) ?_
  refine S_call rfl en30 (laws_sameInts_c _ _ _ _ _ _ _ _ _ (by assumption) (by assumption) (by omega)) ?_
  rintro v6 w6 ⟨rfl, g6⟩
  replace hA := hA.grow g6
  replace hB := hB.grow g6
  replace hA2 := hA2.grow g6
  replace hB2 := hB2.grow g6
  replace G := G.grow g6
  replace B1 := B1.grow g6
  replace B2 := B2.grow g6
  have zg6 := g6.size
  refine Sas rfl ?_
  refine S_nl rfl rfl ?_
  refine th_n (hK14 _ _ ?_)
  clear hK14 K14
  refine wp_ret ?_
  refine ret_r1 rfl rfl ?_
  rw [show decide (x = y) = decide (x.roots = y.roots) by rw [decide_eq_decide]; exact ⟨fun e => by rw [e], fun e => lh_ext (take_all hs (by omega) (by omega)) e⟩]
  exact ⟨rfl, G⟩
end
/-! WalkDw -/
section
open Go Go.RowKit
attribute [local irreducible] wpList wpAnyH Code.wp dOp
theorem RC.both {w w' : World} {A : Option Addr} {cs : List LC} {lo hi : Nat} (h1 : RC (fun i => w.heap.size ≤ i) w' A cs) (h2 : RC (fun i => i < w'.heap.size) w' A cs) (hl : lo = w.heap.size) (hh : hi = w'.heap.size) : RC (fun i => lo ≤ i ∧ i < hi) w' A cs := fun k c hc => by
  subst hl
  subst hh
  obtain ⟨g, o, B, d, hA, hp, h3, h4⟩ := h1 k c hc
  refine ⟨g, o, B, d, hA, ⟨hp, ?_⟩, h3, fun i u hu => ?_⟩
  · exact World.block_lt_of_cell? w' _ (h3.at (j := 0) rfl)
  · obtain ⟨g', o', e', hp', hc'⟩ := h4 i u hu
    exact ⟨g', o', e', ⟨hp', World.block_lt_of_cell? w' _ hc'⟩, hc'⟩
theorem R1.both {w w' : World} {A : Option Addr} {us : List Value} {lo hi : Nat} (h1 : R1 (fun i => w.heap.size ≤ i) w' A us) (h2 : R1 (fun i => i < w'.heap.size) w' A us) (hl : lo = w.heap.size) (hh : hi = w'.heap.size) : R1 (fun i => lo ≤ i ∧ i < hi) w' A us := fun k u hu => by
  subst hl
  subst hh
  obtain ⟨g, o, e, hp, hc⟩ := h1 k u hu
  exact ⟨g, o, e, ⟨hp, World.block_lt_of_cell? w' _ hc⟩, hc⟩
end
/-! WalkD -/
section
open Go Go.RowKit
attribute [local irreducible] wpList wpAnyH Code.wp dOp
set_option maxHeartbeats 400000 in
set_option maxRecDepth 20000 in
theorem spec_l10Place_c (Pr : Nat → Prop) (A B : Option Addr) (h : LH) (c d : Nat) (w : World) (hA : RC Pr w A h.cells) (hn : h.cells.length ≤ 1048576) :
    Calls Try.prog 82 #[.agg #[.slice A h.cells.length c, .slice B h.roots.length d]] w (Ret fun v w' => v = .int .i64 ((placeN h.cells : Nat) : Int) ∧ Grow w w') := by
 refine enter Try.func82 rfl Try.ntmps82 (L := [_,_,_,_,_,_,_,_,_,_,_,_,_,_,_,_,_,_,_,_,_,_]) rfl ?_
 have G := Mod.refl No w
 have hA0 := hA
 refine wp_seq_k fun K1 hK1 => ?_
 refine Sb 22 rfl ?_
 refine S_box (cs := [_, _]) rfl rfl ?_
 intro b1 w1 fb1 g1 B1
 have lb1 := B1.lt
 replace hA := hA.grow g1
 replace G := G.grow g1
 have zg1 := g1.size
 refine Sas rfl ?_
 refine S_nl rfl rfl ?_
 refine th_n (hK1 _ _ ?_)
 clear hK1 K1
 refine wp_seq_k fun K2 hK2 => ?_
 refine wp_seq_k fun K3 hK3 => ?_
 refine Sb 22 rfl ?_
 refine Sas rfl ?_
 refine S_nl rfl rfl ?_
 refine th_n (hK3 _ _ ?_)
 clear hK3 K3
 refine wp_block ?_
 go_loopw [3] (fun u3 wr => (∃ k : Nat, u3 = .int .i64 k ∧ k ≤ h.cells.length ∧ (h.cells.take k).all (·.used) = true) ∧ Mod No w1 wr) (fun u3 wr => h.cells.length - (intOf u3).toNat)
 case atStart =>
  refine ⟨?_, Mod.refl _ _⟩
  exact ⟨0, rfl, by omega, by simp⟩
 case round =>
  obtain ⟨w2, rfl⟩ : ∃ x : World, x = wr := ⟨_, rfl⟩
  obtain ⟨hrel, g2⟩ := hrel
  replace hA := hA.grow g2
  replace G := G.grow g2
  replace B1 := B1.grow g2
  have zg2 := g2.size
  obtain ⟨k, rfl, hk, hs⟩ := hrel
  have GL2 := g2
  refine wp_seq_k fun K4 hK4 => ?_
  refine wp_seq_k fun K5 hK5 => ?_
  refine Sb 22 rfl ?_
  refine Smv rfl ?_
  refine S_val (Y_field U26 rfl fz26_0 (by decide) rfl) ?_
  refine S_val (Y_load U23 rfl rfl (B1.at (by rfl))) ?_
  refine S_val (Y_len U23 rfl) ?_
  refine S_val (Y_lss rfl rfl) ?_
  refine S_nl rfl rfl ?_
  refine th_n (hK5 _ _ ?_)
  clear hK5 K5
  refine S_if rfl (fun hb1 => ?_) (fun hb1 => ?_)
  ·
   replace hb1 := nb_tt hb1
   have hk2 : k < h.cells.length := by omega
   obtain ⟨g2, o2, E2, d2, rfl, hp2, cc20, _⟩ := hA0.cell hk2
   have cc2 := cc20.grow G
   refine wp_skip ?_
   refine th_n (hK4 _ _ ?_)
   clear hK4 K4
   refine wp_seq_k fun K6 hK6 => ?_
   refine wp_block ?_
   refine wp_seq_k fun K7 hK7 => ?_
   refine Sb 22 rfl ?_
   refine S_val (Y_field U26 rfl fz26_0 (by decide) rfl) ?_
   refine S_val (Y_load U23 rfl rfl (B1.at (by rfl))) ?_
   refine Smv rfl ?_
   refine S_val (Y_index U23 sz50 rfl rfl (by first | assumption | omega)) ?_
   refine S_val (Y_field U50 rfl fz50_0 (by decide) rfl) ?_
   refine S_val (Y_load U4 rfl rfl (by first | assumption | exact cc2.at (by rfl) | exact B1.at (by rfl))) ?_
   refine S_val (Y_not rfl) ?_
   refine S_nl rfl rfl ?_
   refine th_n (hK7 _ _ ?_)
   clear hK7 K7
   refine S_if rfl (fun hb2 => ?_) (fun hb2 => ?_)
   ·
    first | with_reducible (replace hb2 := nb_nt hb2) | with_reducible (replace hb2 := nb_tt hb2) | with_reducible (replace hb2 := nb_bt hb2) | skip
    refine wp_seq_k fun K8 hK8 => ?_
    refine Sb 22 rfl ?_
    refine Smv rfl ?_
    refine Sas rfl ?_
    refine S_nl rfl rfl ?_
    refine th_n (hK8 _ _ ?_)
    clear hK8 K8
    refine wp_ret ?_
    refine ib_r ?_
    refine th_r ?_
    try clear GL2
    refine th_r ?_
    refine ib_r ?_
    refine th_r ?_
    clear hK6 K6 hK2 K2
    refine ret_r1 rfl rfl ?_
    exact ⟨by rw [place_at hk2 hs hb2], G⟩
   first | with_reducible (replace hb2 := nb_nf hb2) | with_reducible (replace hb2 := nb_tf hb2) | with_reducible (replace hb2 := nb_bf hb2) | skip
   refine wp_skip ?_
   refine ib_n ?_
   refine th_n (hK6 _ _ ?_)
   clear hK6 K6
   refine Sb 22 rfl ?_
   refine Smv rfl ?_
   refine S_val (Y_inc rfl rfl (by omega)) ?_
   refine Sas rfl ?_
   refine S_nl rfl rfl ?_
   refine th_n ?_
   go_roundw
   case rel =>
    refine ⟨?_, GL2⟩
    exact ⟨k + 1, rfl, by omega, all_take_succ (by omega) hs hb2⟩
   case measure =>
    exact dec_nat (by omega)
  replace hb1 := nb_tf hb1
  refine wp_exit ?_
  refine th_x ?_
  try clear GL2
  refine th_x ?_
  refine ib_e ?_
  refine th_n (hK2 _ _ ?_)
  clear hK4 K4 hK2 K2
  refine wp_seq_k fun K9 hK9 => ?_
  refine Sb 22 rfl ?_
  refine S_val (Y_field U26 rfl fz26_0 (by decide) rfl) ?_
  refine S_val (Y_load U23 rfl rfl (B1.at (by rfl))) ?_
  refine S_val (Y_len U23 rfl) ?_
  refine Sas rfl ?_
  refine S_nl rfl rfl ?_
  refine th_n (hK9 _ _ ?_)
  clear hK9 K9
  refine wp_ret ?_
  refine ret_r1 rfl rfl ?_
  exact ⟨by rw [place_end (all_of_take (by omega) hs)], G⟩
end
/-! Lw -/
section
open Go
theorem vB {b : Bool} (h : b = true) : Value.bool b = .bool true := by rw [h]
theorem vN {b : Bool} (h : b = false) : Value.bool (!b) = .bool true := by rw [h]; rfl
/-- Rows of references that can be read. -/
structure RF (Pr : Nat → Prop) (w : World) (cs : List LC) (rs : List (Option Addr × Nat)) : Prop where
  len : rs.length = cs.length
  r1 : ∀ (i : Nat) (c : LC) (r : Option Addr × Nat), cs[i]? = some c → rs[i]? = some r → R1 Pr w r.1 (ints c.refs)
def noSk : Nat → Bool := fun _ => false
theorem refsAll_len {h : LH} (v : Valid h) : (refsAll h noSk).length ≤ 124 := by
  have h1 := refsUp_le (cs := h.cells) (sk := noSk) (k := h.cells.length) (Nat.le_refl _)
  have h2 := rsum_le3 h.cells h.cells.length (fun c hc => by
    obtain ⟨n, hn, rfl⟩ := List.getElem_of_mem hc
    exact v.refs3 hn)
  have h3 := v.le
  have h4 := v.roots4
  unfold refsAll
  rw [List.length_append]
  omega
end
/-! Fre -/
section
open Go Go.RowKit
theorem set_drop {cs : List LC} {k : Nat} (hk : k < cs.length) : cs.set k emptyC = dropC cs fun i => decide (i = k) := by
  apply List.ext_getElem?
  intro i
  by_cases hi : i < cs.length
  · rw [dropC_get hi, List.getElem?_set]
    by_cases h1 : k = i
    · subst h1
      simp [hk]
    · simp [h1, Ne.symm h1, hi]
  · rw [List.getElem?_eq_none (by rw [List.length_set]; omega), List.getElem?_eq_none (by rw [dropC_len]; omega)]
theorem free_keeps {h : LH} {k : Nat} (hc : (refsAll h noSk).count (k : Int) = 0) : Keeps h fun i => decide (i = k) := by
  have hn : (k : Int) ∉ refsAll h noSk := List.count_eq_zero.1 hc
  have hx : ∀ r : Int, 0 ≤ r ∧ decide (r.toNat = k) = true → r = (k : Int) := fun r h1 => by
    have := of_decide_eq_true h1.2
    omega
  refine ⟨fun r hr h1 => hn ?_, fun n _ r hr h1 => hn ?_⟩
  · rw [← hx r h1]
    exact refsAll_mem.2 (.inl hr)
  · rw [← hx r h1]
    refine refsAll_mem.2 (.inr ⟨n, ?_, rfl, hr⟩)
    by_cases hN : n < h.cells.length
    · exact hN
    · simp [refsOf, List.getElem?_eq_none (by omega : h.cells.length ≤ n)] at hr
theorem free_valid {h : LH} (v : Valid h) {k : Nat} (hk : k < h.cells.length) (hc : (refsAll h noSk).count (k : Int) = 0) : Valid ⟨h.cells.set k emptyC, h.roots⟩ := by
  have := valid_iff.1 ((valid_drop v _).2 (free_keeps hc))
  rw [set_drop hk]
  exact this
theorem free_used {cs : List LC} {k : Nat} (hk : k < cs.length) (hu : usedAt cs k = true) : cntP (usedAt (cs.set k emptyC)) cs.length < cntP (usedAt cs) cs.length := by
  rw [set_drop hk]
  have h1 : cntP (usedAt cs) cs.length = cntP (usedAt (dropC cs fun i => decide (i = k))) cs.length + cntP (fun i => decide (i = k)) cs.length := cntP_add fun i _ => by
    rw [usedAt_drop]
    by_cases hi : i = k
    · subst hi
      simp [hu]
    · simp [hi]
  have h2 : 0 < cntP (fun i => decide (i = k)) cs.length := List.countP_pos_iff.2 ⟨k, by simpa using hk, by simp⟩
  omega
def flagAt (w : World) (b i : Nat) : Bool := match w.cell? ⟨b, i, none⟩ with
  | some (.bool x) => x
  | _ => false
/-- How many cells of the heap in block b are used. -/
def usedW (w : World) (b : Nat) : Nat := match w.cell? ⟨b, 0, none⟩ with
  | some (.slice (some a) n _) => cntP (fun i => flagAt w a.block (i * 3)) n
  | _ => 0
theorem usedW_eq {Pr : Nat → Prop} {w : World} {b c d : Nat} {e eC eI : TypeId} {A B : Option Addr} {h : LH} {rs : List (Option Addr × Nat)} {post : List Value} (hB : Blk w b e (.slice A h.cells.length c :: post).toArray) (o : XH Pr w eC eI A B h rs c d) (hne : eC ≠ eI) : usedW w b = cntP (usedAt h.cells) h.cells.length := by
  unfold usedW
  rw [hB.at (i := 0) (v := .slice A h.cells.length c) rfl]
  by_cases h0 : h.cells.length = 0
  · rw [h0]
    cases A <;> rfl
  · obtain ⟨g, R, cap, rfl, _, _, _, _, _⟩ := o.cellAt hne (i := 0) (by omega)
    dsimp only
    apply cntP_congr
    intro i hi
    obtain ⟨g2, R2, cap2, e2, _, _, hc, _, _⟩ := o.cellAt hne hi
    cases e2
    unfold flagAt
    have h3 := hc.at (j := 0) rfl
    rw [show 0 + i * 3 + 0 = i * 3 by omega] at h3
    rw [h3, usedAt_at hi]
end
/-! Row -/
section
open Go Go.RowKit
theorem ints_nz {xs : List Int} (h : 0 < xs.length) : ints xs ≠ [] := fun e => by
  have h9 := congrArg List.length e
  rw [ints_len] at h9
  have h8 : xs.length = 0 := h9
  omega
end
end Go.Proofs.Ytdlmjmcddafojaa
